/- Laws that the proofs of this seat share, part 6. -/
import Derived.Test.YtifolnapeolhcaaGreatDoorG5
import Derived.Test.YtifolnapeolhcaaGreatDoorShelf
import Derived.Laws.IdiomRangeMap
import Derived.WideKeyRuns
set_option maxHeartbeats 4000000
namespace Go.Proofs.YtifolnapeolhcaaGreatDoor
open Go Go.Jog
set_option maxRecDepth 100000

theorem hasPS_fn (C:Mem)(s:Str)(c:UInt8):Gives cx.P 163 [strV s,strV [c]] C (.bool (aP c s).2):=by
 refine Fn.it kr_ Tryz.func163 8 fun w0=>?_
 refine G.z2 1 0 1 ?_
 refine G.rp 2 fun R hR=>?_
 refine D.aj (hasP_fn _ s c) ?_
 refine D.q1 1 4 hR ?_
 refine G.rf ?_
 exact ⟨rfl,rfl⟩
theorem trimPL_fn (C:Mem)(s:Str)(c:UInt8):Gives cx.P 173 [strV s,strV [c]] C (strV (aP c s).1):=by
 refine Fn.it kr_ Tryz.func173 13 fun w0=>?_
 refine G.z2 1 0 1 ?_
 refine G.rp 2 fun R hR=>?_
 refine D.aj (hasP_fn _ s c) ?_
 refine D.e3 0 1 7 hR ?_
 refine G.cd (fun h7=>?_) fun h7=>?_
 ·have h:s.head?=some c:=Classical.byContradiction fun h=>by unfold aP at h7;rw [if_neg h] at h7;cases h7
  have hlen:1<=s.length:=by cases s with
   | nil=>cases h
   | cons b s=>simp
  refine G.rp 3 fun R hR=>?_
  refine D.bG 1 s.length rfl rfl rfl rfl rfl rfl rfl rfl rfl (fun _=>⟨.inr ⟨_,rfl⟩,.inl ⟨rfl,rfl⟩,.inl ⟨rfl,rfl⟩,by omega,Nat.le_refl _,Nat.le_refl _⟩) rfl rfl ?_
  refine D.q1 1 4 hR ?_
  refine G.rf ?_
  unfold aP
  rw [if_pos h]
  refine ⟨?_,rfl⟩
  rw [List.take_length,List.drop_one];rfl
 ·have h:¬ s.head?=some c:=fun h=>by unfold aP at h7;rw [if_pos h] at h7;cases h7
  refine G.z1 2 4 ?_
  refine G.rf ?_
  unfold aP
  rw [if_neg h]
  exact ⟨rfl,rfl⟩
theorem trimP_fn (C:Mem)(s:Str)(c:UInt8):Gives cx.P 141 [strV s,strV [c]] C (strV (aP c s).1):=by
 refine Fn.it kr_ Tryz.func141 8 fun w0=>?_
 refine G.z2 1 0 1 ?_
 refine G.rp 2 fun R hR=>?_
 refine D.aj (trimPL_fn _ s c) ?_
 refine D.q1 1 4 hR ?_
 refine G.rf ?_
 exact ⟨rfl,rfl⟩
def sgnZ (z:Int):Int:=if z<0 then -1 else if z=0 then 0 else 1
theorem isign_fn (C:Mem)(z:Int):Gives cx.P 127 [strV (txt z)] C (.int .i64 (sgnZ z)):=by
 refine Fn.it kr_ Tryz.func127 9 fun w0=>?_
 refine G.z1 1 0 ?_
 skip
 refine G.z2 3 0 3 ?_
 refine G.cd (fun h3=>?_) fun h3=>?_
 ·have hz:z=0:=by
   have h:=txtEq0 z
   rw [h] at h3
   exact of_decide_eq_true h3
  refine G.z1 1 2 ?_
  refine G.rf ?_
  exact ⟨by rw [hz];rfl,rfl⟩
 ·have hz:z≠0:=by
   have h:=txtEq0 z
   rw [h] at h3
   exact of_decide_eq_false h3
  refine G.rp 1 fun R hR=>?_
  refine D.aj (hasPS_fn _ (txt z) 45) ?_
  refine D.q1 1 6 hR ?_
  refine G.cd (fun h6=>?_) fun h6=>?_
  ·have hn:z<0:=by
    rw [bZ] at h6
    exact of_decide_eq_true h6
   refine G.z1 1 2 ?_
   refine G.rf ?_
   exact ⟨by rw [sgnZ,if_pos hn],rfl⟩
  ·have hn:¬ z<0:=by
    rw [bZ] at h6
    exact of_decide_eq_false h6
   refine G.z1 1 2 ?_
   refine G.rf ?_
   exact ⟨by rw [sgnZ,if_neg hn,if_neg hz],rfl⟩
theorem iof_fn (C:Mem)(hT:Tabs C)(z:Int)(h0:-9223372036854775808<=z)(h1:z<=9223372036854775807):Gives cx.P 133 [.int .i64 z] C (strV (txt z)):=by
 refine Fn.it kr_ Tryz.func133 5 fun w0=>?_
 refine G.z1 1 0 ?_
 refine G.rp 1 fun R hR=>?_
 refine D.aj (itoaZ_g _ (hT.mono mup) z h0 h1) ?_
 refine D.q1 1 2 hR ?_
 refine G.rf ?_
 exact ⟨rfl,rfl⟩
theorem txt_len (z:Int):(txt z).length<=(decS z.natAbs).length+1:=by unfold txt;split <;> simp
theorem ineg_fn (C:Mem)(z:Int)(hl:(decS z.natAbs).length<=1000000):Gives cx.P 128 [strV (txt z)] C (strV (txt (-z))):=by
 have htl:=txt_len z
 refine Fn.it kr_ Tryz.func128 14 fun w0=>?_
 refine G.z1 1 0 ?_
 refine G.rp 1 fun R hR=>?_
 refine D.aj (isign_fn _ z) ?_
 refine D.e2 0 4 hR ?_
 refine G.z3 2 0 4 5 ?_
 refine G.cd (fun h5=>?_) fun h5=>?_
 ·have hz:0<z:=by
   have h:sgnZ z=1:=by simpa using h5
   unfold sgnZ at h
   split at h
   ·cases h
   ·split at h
    ·cases h
    ·omega
  refine G.rp 1 fun R hR=>?_
  refine D.dr rfl rfl rfl rfl rfl rfl (fun _=>(by simp only [List.length_cons,List.length_nil];omega)) rfl rfl ?_
  refine D.q1 1 2 hR ?_
  refine G.rf ?_
  refine ⟨?_,rfl⟩
  unfold txt
  rw [if_neg om_,if_pos om_,Int.natAbs_neg];rfl
 ·have hz:¬ 0<z:=fun h=>by
   have h2:sgnZ z=1:=by unfold sgnZ;rw [if_neg om_,if_neg om_]
   rw [h2] at h5;cases h5
  refine G.z2 2 0 9 ?_
  refine G.cd (fun h9=>?_) fun h9=>?_
  ·have hz2:z<0:=by
    have h:sgnZ z=-1:=by simpa using h9
    unfold sgnZ at h
    split at h
    ·assumption
    ·split at h <;> cases h
   refine G.rp 1 fun R hR=>?_
   refine D.bG 1 (txt z).length rfl rfl rfl rfl rfl rfl rfl rfl rfl (fun _=>⟨.inr ⟨_,rfl⟩,.inl ⟨rfl,rfl⟩,.inl ⟨rfl,rfl⟩,(by unfold txt;rw [if_pos hz2];simp),Nat.le_refl _,Nat.le_refl _⟩) rfl rfl ?_
   refine D.q1 1 2 hR ?_
   refine G.rf ?_
   refine ⟨?_,rfl⟩
   rw [List.take_length]
   unfold txt
   rw [if_pos hz2,if_neg om_,Int.natAbs_neg];rfl
  ·have hz2:¬ z<0:=fun h=>by
    have h2:sgnZ z=-1:=by unfold sgnZ;rw [if_pos h]
    rw [h2] at h9;cases h9
   refine G.z1 2 2 ?_
   refine G.rf ?_
   refine ⟨?_,rfl⟩
   rw [show z=0 by omega];rfl
theorem cmp_dig:∀ {s t:Str},(∀ c∈s,digB c=true)->(∀ c∈t,digB c=true)->s.length=t.length->Lib.compareBytes s t=ordZ (decV s) (decV t)
 | [],[],_,_,_=>rfl
 | [],_::_,_,_,h=>by simp at h
 | _::_,[],_,_,h=>by simp at h
 | c::s,d::t,hs,ht,hl=>by
  have hl2:s.length=t.length:=by simpa using hl
  have hs2:∀ x∈s,digB x=true:=fun x hx=>hs x (by simp [hx])
  have ht2:∀ x∈t,digB x=true:=fun x hx=>ht x (by simp [hx])
  have ih:=cmp_dig hs2 ht2 hl2
  have h1:=cg hs2
  have h2:=cg ht2
  have hc:=hs c (by simp)
  have hd:=ht d (by simp)
  simp only [digB,decide_eq_true_eq] at hc hd
  rw [cq,cq,hl2]
  rw [hl2] at h1
  simp only [Lib.compareBytes]
  obtain ⟨p,hp⟩:∃ p,10 ^ t.length=p:=⟨_,rfl⟩
  rw [hp] at h1 h2 ⊢
  by_cases hlt:c<d
  ·rw [if_pos hlt]
   have hlt2:c.toNat<d.toNat:=hlt
   have h3:(c.toNat-48+1)*p<=(d.toNat-48)*p:=Nat.mul_le_mul_right _ om_
   rw [Nat.add_mul] at h3
   unfold ordZ
   rw [if_pos om_]
  ·rw [if_neg hlt]
   by_cases hgt:d<c
   ·rw [if_pos hgt]
    have hgt2:d.toNat<c.toNat:=hgt
    have h3:(d.toNat-48+1)*p<=(c.toNat-48)*p:=Nat.mul_le_mul_right _ om_
    rw [Nat.add_mul] at h3
    unfold ordZ
    rw [if_neg om_,if_pos om_]
   ·rw [if_neg hgt,ih]
    have hcd:c.toNat=d.toNat:=by
     have h3:¬ c.toNat<d.toNat:=hlt
     have h4:¬ d.toNat<c.toNat:=hgt
     omega
    rw [hcd]
    unfold ordZ
    split <;> rename_i h5
    ·rw [if_pos om_]
    ·split <;> rename_i h6
     ·rw [if_neg om_,if_pos om_]
     ·rw [if_neg om_,if_neg om_]
theorem decS_len_lt {a b:Nat}(h:(decS a).length<(decS b).length):a<b:=by
 obtain ⟨h1,h2⟩:=aO a
 obtain ⟨h3,h4⟩:=aO b
 have ha:=List.length_pos_iff.2 h1.2.1
 have h5:=cg h1.1
 have h6:=canS_low h3 om_
 have h7:10 ^ (decS a).length<=10 ^ ((decS b).length-1):=Nat.pow_le_pow_right (by decide) om_
 omega
theorem cmp_dec {a b:Nat}(h:(decS a).length=(decS b).length):Lib.compareBytes (decS a) (decS b)=ordZ a b:=by
 obtain ⟨h1,h2⟩:=aO a
 obtain ⟨h3,h4⟩:=aO b
 rw [cmp_dig h1.1 h3.1 h,h2,h4]
def cmpZ (z w:Int):Int:=if z<w then -1 else if w<z then 1 else 0
theorem sgnZ_cases (z:Int):(z<0/\sgnZ z=-1)∨(z=0/\sgnZ z=0)∨(0<z/\sgnZ z=1):=by
 unfold sgnZ
 split
 ·exact .inl ⟨by assumption,rfl⟩
 ·split
  ·exact .inr (.inl ⟨by assumption,rfl⟩)
  ·exact .inr (.inr ⟨by omega,rfl⟩)
theorem cmp_sgn {z w:Int}(h:sgnZ z=sgnZ w):cmpZ z w=sgnZ z*ordZ z.natAbs w.natAbs:=by
 have hw:=sgnZ_cases w
 rw [<- h] at hw
 unfold cmpZ ordZ
 rcases sgnZ_cases z with ⟨h1,h2⟩ | ⟨h1,h2⟩ | ⟨h1,h2⟩ <;> rw [h2] at hw ⊢
 ·have h3:w<0:=by omega
  split <;> split <;> (try split) <;> omega
 ·have h3:w=0:=by omega
  subst h1 h3
  simp
 ·have h3:0<w:=by omega
  split <;> split <;> (try split) <;> omega
theorem sgn_wrap (z:Int):IntKind.i64.wrap (-(sgnZ z))=-(sgnZ z):=by
 rcases sgnZ_cases z with ⟨h1,h2⟩ | ⟨h1,h2⟩ | ⟨h1,h2⟩ <;> rw [h2] <;> rfl
theorem strCmp_fn (C:Mem)(a b:Str):Gives cx.P 142 [strV a,strV b] C (.int .i64 (Lib.compareBytes a b)):=scompare_fn Tryz.scmp a b C kr_
theorem icompare_fn (C:Mem)(z w:Int)(_hz:(decS z.natAbs).length<=1000000)(_hw:(decS w.natAbs).length<=1000000):Gives cx.P 82 [strV (txt z),strV (txt w)] C (.int .i64 (cmpZ z w)):=by
 have ez:(aP 45 (txt z)).1=decS z.natAbs:=by rw [bZ]
 have ew:(aP 45 (txt w)).1=decS w.natAbs:=by rw [bZ]
 refine Fn.it kr_ Tryz.func82 41 fun w0=>?_
 refine G.z2 1 0 1 ?_
 refine G.rp 1 fun R hR=>?_
 refine D.aj (isign_fn _ z) ?_
 refine D.ae ?_
 refine D.aj (isign_fn _ w) ?_
 refine D.q4 2 0 1 5 6 hR ?_
 refine G.z5 3 0 1 5 6 15 ?_
 refine G.cd (fun h15=>?_) fun h15=>?_
 ·have hne:sgnZ z≠sgnZ w:=by simpa using h15
  refine G.z1 3 18 ?_
  refine G.cd (fun h18=>?_) fun h18=>?_
  ·have hlt:sgnZ z<sgnZ w:=by simpa using h18
   refine G.z1 1 4 ?_
   refine G.rf ?_
   refine ⟨?_,rfl⟩
   rw [cmpZ,if_pos (by unfold sgnZ at hlt;split at hlt <;> split at hlt <;> (try split at hlt) <;> omega)]
  ·have hlt:¬ sgnZ z<sgnZ w:=by simpa using h18
   refine G.z1 1 4 ?_
   refine G.rf ?_
   refine ⟨?_,rfl⟩
   have h:w<z:=by
    have h2:sgnZ w<sgnZ z:=by omega
    unfold sgnZ at h2;split at h2 <;> split at h2 <;> (try split at h2) <;> omega
   rw [cmpZ,if_neg om_,if_pos h]
 ·have hse:sgnZ z=sgnZ w:=by simpa using h15
  refine G.rp 1 fun R hR=>?_
  refine D.aj (trimP_fn _ (txt z) 45) ?_
  refine D.ae ?_
  refine D.aj (trimP_fn _ (txt w) 45) ?_
  rw [ez,ew]
  refine D.q3 2 5 7 8 hR ?_
  refine G.z4 5 5 7 8 27 ?_
  refine G.cd (fun h27=>?_) fun h27=>?_
  ·have hne:(decS z.natAbs).length≠(decS w.natAbs).length:=fun e=>by
    have h:(((decS z.natAbs).length:Nat):Int)≠(((decS w.natAbs).length:Nat):Int):=by simpa using h27
    exact h (by rw [e])
   refine G.z2 5 5 32 ?_
   refine G.cd (fun h32=>?_) fun h32=>?_
   ·have hlt:z.natAbs<w.natAbs:=decS_len_lt (by
     have h:(((decS z.natAbs).length:Nat):Int)<(((decS w.natAbs).length:Nat):Int):=by simpa using h32
     omega)
    refine G.z1 3 4 ?_
    refine G.rf ?_
    refine ⟨?_,rfl⟩
    rw [Int.zero_sub,sgn_wrap,cmp_sgn hse,show ordZ z.natAbs w.natAbs=-1 from if_pos hlt]
    congr 1;omega
   ·have hlt:w.natAbs<z.natAbs:=decS_len_lt (by
     have h:¬ (((decS z.natAbs).length:Nat):Int)<(((decS w.natAbs).length:Nat):Int):=by simpa using h32
     omega)
    refine G.z1 2 4 ?_
    refine G.rf ?_
    refine ⟨?_,rfl⟩
    rw [cmp_sgn hse,show ordZ z.natAbs w.natAbs=1 from by unfold ordZ;rw [if_neg om_,if_pos hlt]]
    congr 1;omega
  ·have heq:(decS z.natAbs).length=(decS w.natAbs).length:=by
    have h:(((decS z.natAbs).length:Nat):Int)=(((decS w.natAbs).length:Nat):Int):=by simpa using h27
    omega
   refine G.rp 3 fun R hR=>?_
   refine D.aj (strCmp_fn _ (decS z.natAbs) (decS w.natAbs)) ?_
   rw [cmp_dec heq]
   refine D.cR ((cmpZ z w)) rfl rfl rfl rfl (by rw [cmp_sgn hse]) (by unfold cmpZ;split <;> (try split) <;> omega) (by unfold cmpZ;split <;> (try split) <;> omega) rfl rfl ?_
   refine D.q1 1 4 hR ?_
   refine G.rf ?_
   exact ⟨rfl,rfl⟩

def chkZ (b:Bool):Int:=if b then 0 else 2
theorem icheck_fn (C:Mem)(s:Str):Gives cx.P 140 [strV s] C (.int .i64 (chkZ (bq s))):=by
 obtain ⟨t,neg,hdp⟩:∃ t b,aP 45 s=(t,b):=⟨_,_,rfl⟩
 have hcb:bq s=(t.all digB && !(t == []) && !(t.head? == some 48 && (neg || decide (1<t.length))) && decide (t.length<=200)):=by unfold bq canonB;rw [hdp]
 refine Fn.it kr_ Tryz.func140 47 fun w0=>?_
 refine G.z1 1 0 ?_
 refine G.rp 1 fun R hR=>?_
 refine D.al (by have h:=cutP_fn C s 45;rw [hdp] at h;exact h) rfl rfl rfl rfl rfl rfl rfl fl_ ?_
 refine D.q2 5 3 4 hR ?_
 refine G.rp 6 fun R hR=>?_
 refine D.aG rfl rfl rfl rfl rfl rfl rfl rfl ?_
 refine D.ps 2 ?_
 refine D.be (b:=t.headD 0) rfl rfl rfl rfl rfl rfl rfl rfl (fun hg=>⟨by omega,(by
  cases t with
  | nil=>exact Bool.noConfusion (show true=false from hg.1)
  | cons b t=>rfl)⟩) rfl rfl ?_
 refine D.ps 7 ?_
 refine D.aG rfl rfl rfl rfl rfl rfl rfl rfl ?_
 refine D.au ?_
 refine D.aG rfl rfl rfl rfl rfl rfl rfl rfl ?_
 refine D.e2 3 30 hR ?_
 refine G.cd (fun h30=>?_) fun h30=>?_
 ·have hno:bq s=false:=by
   rw [hcb]
   cases t with
   | nil=>simp
   | cons b t =>
    simp at h30
    rcases h30 with h | ⟨h,h2⟩
    ·simp;intro _ _;omega
    ·have hb:b=48:=UInt8.toNat_inj.1 (by show b.toNat=48;omega)
     subst hb
     have h6:(neg || decide (1<((48:UInt8)::t).length))=true:=by
      rcases h2 with h2 | h2
      ·rw [decide_eq_true (by simp;omega)];simp
      ·rw [h2];rfl
     rw [h6];simp
  refine G.z1 1 2 ?_
  refine G.rf ?_
  exact ⟨by rw [hno];rfl,rfl⟩
 ·have hlen:t.length<=200:=by
   simp at h30
   omega
  refine G.z3 3 3 32 33 ?_
  refine G.loop (fun fr C' L' μ=>∃ (i:Nat),(i<=t.length/\∀ c∈t.take i,digB c=true)/\fr=[(3,[],strV t),(32,[],.int .i64 t.length),(33,[],.int .i64 i)]/\L'=[]/\μ=t.length-i) (h_3 3 32 33) ⟨0,⟨Nat.zero_le _,by simp⟩,rfl,rfl,rfl⟩ (fun fr C0' L0' m hle0 hI=>?_)
  obtain ⟨i,⟨hi,hdig⟩,rfl,rfl,rfl⟩:=hI
  refine G.z4 1 3 32 33 34 ?_
  refine G.cd (fun h34=>?_) fun h34=>?_
  ·have hil:i<t.length:=by simpa using h34
   obtain ⟨c,hc⟩:∃ c,t[i]?=some c:=⟨t[i],List.getElem?_eq_getElem hil⟩
   refine G.z4 2 3 5 32 33 ?_
   refine G.rp 2 fun R hR=>?_
   refine D.be rfl rfl rfl rfl rfl rfl rfl rfl (fun _=>⟨by omega,hc⟩) rfl rfl ?_
   refine D.ps 4 ?_
   refine D.be rfl rfl rfl rfl rfl rfl rfl rfl (fun _=>⟨by omega,hc⟩) rfl rfl ?_
   refine D.ae ?_
   refine D.aG rfl rfl rfl rfl rfl rfl rfl rfl ?_
   refine D.e4 3 32 33 45 hR ?_
   refine G.cd (fun h45=>?_) fun h45=>?_
   ·have hno:bq s=false:=by
     have h1:t.all digB=false:=by
      rw [List.all_eq_false]
      refine ⟨c,List.mem_of_getElem? hc, ?_⟩
      simp at h45
      unfold digB
      simp
      omega
     rw [hcb,h1];rfl
    refine G.z1 1 2 ?_
    refine G.rf ?_
    exact ⟨by rw [hno];rfl,rfl⟩
   ·have hcd:digB c=true:=by
     simp at h45
     unfold digB
     simp
     omega
    refine G.rg fun R hR=>?_
    refine D.aq _ ?_
    refine D.q3 1 3 32 33 hR ?_
    refine G.ap (m':=t.length-(i+1)) om_ mup (h_3 3 32 33) ⟨i+1,⟨by omega,fun x hx=>by
     rw [List.take_add_one,hc] at hx
     rcases List.mem_append.1 hx with h | h
     ·exact hdig x h
     ·simp at h;subst h;exact hcd⟩,rfl,rfl,rfl⟩
  ·have hil:t.length<=i:=by
    have:¬ i<t.length:=by simpa using h34
    omega
   rw [List.take_of_length_le hil] at hdig
   have hall:t.all digB=true:=List.all_eq_true.2 hdig
   have hyes:bq s=true:=by
    rw [hcb,hall,decide_eq_true hlen]
    cases t with
    | nil=>simp at h30
    | cons b t =>
     simp at h30
     simp
     by_cases hb:b=48
     ·subst hb
      have h5:=h30.2
      simp at h5
      exact .inr ⟨h5.2,List.eq_nil_of_length_eq_zero om_⟩
     ·exact .inl hb
   refine G.z1 1 2 ?_
   refine G.rf ?_
   exact ⟨by rw [hyes];rfl,rfl⟩

theorem bl {n k:Nat}(h:n<B9 ^ k)(hk:0<k):(decS n).length<=9*k:=dI (by rw [pow_B9];exact h) om_
theorem abs18 {z:Int}{m:Nat}(h:(txt z).length<=m):z.natAbs<10 ^ m:=by
 have h1:(decS z.natAbs).length<=m:=by
  unfold txt at h
  split at h
  ·simp at h;omega
  ·exact h
 obtain ⟨h2,h3⟩:=aO z.natAbs
 have h4:=cg h2.1
 rw [h3] at h4
 exact Nat.lt_of_lt_of_le h4 (Nat.pow_le_pow_right (by decide) h1)
theorem e18:(10:Nat) ^ 18=1000000000000000000:=by decide
theorem e9:(10:Nat) ^ 9=1000000000:=by decide
theorem sum_lt9 {a b k:Nat}(ha:a<B9 ^ k)(hb:b<B9 ^ k):a+b<B9 ^ (k+1):=by
 rw [Nat.pow_succ]
 have:B9 ^ k*2<=B9 ^ k*B9:=Nat.mul_le_mul_left _ (by decide)
 omega
theorem iadd_fn (C:Mem)(hT:Tabs C)(z w:Int)(k:Nat)(hk0:0<k)(hk:k<=40000)(hz:z.natAbs<B9 ^ k)(hw:w.natAbs<B9 ^ k):Gives cx.P 79 [strV (txt z),strV (txt w)] C (strV (txt (z+w))):=by
 have hzl:=bl hz hk0
 have hwl:=bl hw hk0
 refine Fn.it kr_ Tryz.func79 62 fun w0=>?_
 refine G.z2 1 0 1 ?_
 refine G.rp 1 fun R hR=>?_
 refine D.aj (quick_fn _ z 18 (Nat.le_refl _)) ?_
 refine D.q4 5 0 1 5 6 hR ?_
 refine G.z4 1 0 1 5 16 ?_
 refine G.bW (fun fr C' L' μ=>(True)/\fr=[(0,[],strV (txt z)),(1,[],strV (txt w))]/\L'=[]) ?_ (fun fr C16 L16 μ hle16 hI=>?_)
 ·refine G.cd (fun h16=>?_) fun h16=>?_
  ·have hz18:=of_decide_eq_true h16
   rw [if_pos hz18]
   have hza:=abs18 hz18
   rw [e18] at hza
   refine G.rp 1 fun R hR=>?_
   refine D.aj (quick_fn _ w 18 (Nat.le_refl _)) ?_
   refine D.q5 5 0 1 5 7 8 hR ?_
   refine G.z5 1 0 1 5 7 22 ?_
   refine G.cd (fun h22=>?_) fun h22=>?_
   ·have hw18:=of_decide_eq_true h22
    rw [if_pos hw18]
    have hwa:=abs18 hw18
    rw [e18] at hwa
    refine G.rp 2 fun R hR=>?_
    refine D.aq _ ?_
    refine D.al (iof_fn _ (hT.mono mup) (z+w) om_ om_) rfl rfl rfl rfl rfl rfl rfl fl_ ?_
    refine D.q1 1 4 hR ?_
    refine G.rf ?_
    exact ⟨rfl,rfl⟩
   ·refine G.ar 0 (Mem.le.refl _) (h_2 0 1) ⟨trivial,rfl,rfl⟩
  ·refine G.ar 0 (Mem.le.refl _) (h_2 0 1) ⟨trivial,rfl,rfl⟩
 ·obtain ⟨_,rfl,rfl⟩:=hI
  refine G.rp 1 fun R hR=>?_
  refine D.ax (open_fn _ z om_) rfl rfl rfl rfl rfl rfl rfl fl_ (fun v28 C28 hle28 hq28=>?_)
  refine D.ae ?_
  refine D.ax (open_fn _ w om_) rfl rfl rfl rfl rfl rfl rfl fl_ (fun v30 C30 hle30 hq30=>?_)
  refine D.aC (fun b9=>?_)
  refine D.aC (fun b10=>?_)
  obtain ⟨pz,rfl,hpz⟩:=hq28
  obtain ⟨pw,rfl,hpw⟩:=hq30
  obtain ⟨Az,mz,cz,rfl⟩:=hpz.form
  obtain ⟨Aw,mw,cw,rfl⟩:=hpw.form
  refine D.ag (j:=1) ?_
  refine D.ag (j:=1) ?_
  refine D.e2 9 10 hR ?_
  refine G.rp 1 fun R hR=>?_
  refine D.ah (.tail _ (.head _)) ?_
  refine D.ae ?_
  refine D.ah (.head _) ?_
  refine D.q3 1 9 10 35 hR ?_
  refine G.cd (fun h35=>?_) fun h35=>?_
  ·have hsg:decide (z<0)=decide (w<0):=by simpa using h35
   refine G.aH [0,1,2,3,4,5,6,7,8,9] [(8,1)] rfl kr_ (fun R hB hR=>?_)
   refine D.ae ?_
   refine D.ah (.tail _ (.head _)) ?_
   refine D.ae ?_
   refine D.ah (.tail _ (.head _)) ?_
   refine D.ae ?_
   refine D.ah (.head _) ?_
   refine D.ax (plus_n (k:=k) _ (hpz.mono mup) (hpw.mono mup) hz hw om_) rfl rfl rfl rfl rfl rfl rfl fl_ (fun v42 C42 hle42 hq42=>?_)
   obtain ⟨Ap,mp,cp,rfl⟩:=hq42.form
   refine D.build [.bool (decide (z<0)),_] rfl rfl rfl rfl rfl rfl rfl rfl ?_
   refine D.a6 (fun _=>(close_fn _ (hT.mono mup) _ _ _ hq42 (cI (k:=100000) (n:=k+1) (sum_lt9 hz hw) om_))) rfl rfl rfl rfl rfl rfl rfl rfl rfl ?_
   refine D.q1 1 4 hR ?_
   refine G.rf ?_
   exact ⟨by rw [sg_same hsg],rfl⟩
  ·have hsg:decide (z<0)≠decide (w<0):=by simpa using h35
   refine G.rp 1 fun R hR=>?_
   refine D.ah (.tail _ (.head _)) ?_
   refine D.ae ?_
   refine D.ah (.head _) ?_
   refine D.aj (order_n _ (hpz.mono mup) (hpw.mono mup)) ?_
   refine D.q3 1 9 10 50 hR ?_
   refine G.bW (fun fr C' L' μ=>∃ (z2 w2:Int)(v2 u2:Value),(NineC C' v2 z2.natAbs/\NineC C' u2 w2.natAbs/\w2.natAbs<=z2.natAbs/\z2+w2=z+w/\decide (z2<0)≠decide (w2<0)/\z2.natAbs<B9 ^ k)/\fr=[(9,[],.pointer (some ⟨b9,0,none⟩)),(10,[],.pointer (some ⟨b10,0,none⟩))]/\L'=[.obj b10 (.cells ⟨[.bool (decide (w2<0)),u2]⟩ 209 (0,0)),.obj b9 (.cells ⟨[.bool (decide (z2<0)),v2]⟩ 209 (0,0))]) ?_ (fun fr C50 L50 μ hle50 hI=>?_)
   ·refine G.cd (fun h50=>?_) fun h50=>?_
    ·have hlt:z.natAbs<w.natAbs:=by
      have:ordZ z.natAbs w.natAbs<0:=by simpa using h50
      exact ordZ_lt.1 this
     refine G.rg fun R hR=>?_
     refine D.ah (.head _) ?_
     refine D.ah (.tail _ (.head _)) ?_
     refine D.ag (j:=1) ?_
     refine D.ag (j:=1) ?_
     refine D.e2 9 10 hR ?_
     refine G.ar 0 mup (h_2 9 10) ⟨w,z,_,_,⟨hpw.mono mup,hpz.mono mup,by omega,Int.add_comm w z,Ne.symm hsg,hw⟩,rfl,rfl⟩
    ·have hlt:w.natAbs<=z.natAbs:=by
      have h:¬ ordZ z.natAbs w.natAbs<0:=by simpa using h50
      rw [ordZ_lt] at h
      omega
     refine G.ar 0 mup (h_2 9 10) ⟨z,w,_,_,⟨hpz.mono mup,hpw.mono mup,hlt,rfl,hsg,hz⟩,rfl,rfl⟩
   ·obtain ⟨z2 ,w2 ,v2 ,u2,⟨hv2,hu2,hle2,hsum2,hsg2,hz2⟩,rfl,rfl⟩:=hI
    obtain ⟨Az2,mz2,cz2,rfl⟩:=hv2.form
    obtain ⟨Aw2,mw2,cw2,rfl⟩:=hu2.form
    refine G.aH [0,1,2,3,4,5,6,7,8,9] [(8,1)] rfl kr_ (fun R hB hR=>?_)
    refine D.ae ?_
    refine D.ah (.tail _ (.head _)) ?_
    refine D.ae ?_
    refine D.ah (.tail _ (.head _)) ?_
    refine D.ae ?_
    refine D.ah (.head _) ?_
    refine D.ax (minus_n (k:=k) _ (hv2.mono mup) (hu2.mono mup) hz2 hle2 om_) rfl rfl rfl rfl rfl rfl rfl fl_ (fun v59 C59 hle59 hq59=>?_)
    obtain ⟨Ap,mp,cp,rfl⟩:=hq59.form
    refine D.build [.bool (decide (z2<0)),_] rfl rfl rfl rfl rfl rfl rfl rfl ?_
    refine D.a6 (fun _=>(close_fn _ (hT.mono mup) _ _ _ hq59 (cI (k:=100000) (n:=k) om_ om_))) rfl rfl rfl rfl rfl rfl rfl rfl rfl ?_
    refine D.q1 1 4 hR ?_
    refine G.rf ?_
    exact ⟨by rw [sg_more hsg2 om_,hsum2],rfl⟩
theorem sgZ_mul (z w:Int):sgZ (decide (z<0) != decide (w<0)) (z.natAbs*w.natAbs)=z*w:=by
 unfold sgZ
 have h1:z=if z<0 then -(z.natAbs:Int) else (z.natAbs:Int):=by split <;> omega
 have h2:w=if w<0 then -(w.natAbs:Int) else (w.natAbs:Int):=by split <;> omega
 by_cases hz:z<0 <;> by_cases hw:w<0
 ·rw [decide_eq_true hz,decide_eq_true hw,if_neg (by decide)]
  rw [if_pos hz] at h1;rw [if_pos hw] at h2
  rw [Int.natCast_mul]
  conv=>rhs;rw [h1,h2]
  rw [Int.neg_mul_neg]
 ·rw [decide_eq_true hz,decide_eq_false hw,if_pos (by decide)]
  rw [if_pos hz] at h1;rw [if_neg hw] at h2
  rw [Int.natCast_mul]
  conv=>rhs;rw [h1,h2]
  rw [Int.neg_mul]
 ·rw [decide_eq_false hz,decide_eq_true hw,if_pos (by decide)]
  rw [if_neg hz] at h1;rw [if_pos hw] at h2
  rw [Int.natCast_mul]
  conv=>rhs;rw [h1,h2]
  rw [Int.mul_neg]
 ·rw [decide_eq_false hz,decide_eq_false hw,if_neg (by decide)]
  rw [if_neg hz] at h1;rw [if_neg hw] at h2
  rw [Int.natCast_mul]
  conv=>rhs;rw [h1,h2]
theorem prod_lt9 {a b k:Nat}(ha:a<B9 ^ k)(hb:b<B9 ^ k):a*b<B9 ^ (k+k):=by
 rw [Nat.pow_add];exact Nat.mul_lt_mul'' ha hb
theorem prod18 {z w:Int}(hz:z.natAbs<1000000000)(hw:w.natAbs<1000000000):-1000000000000000000<z*w/\z*w<1000000000000000000:=by
 have h:z.natAbs*w.natAbs<=999999999*999999999:=Nat.mul_le_mul om_ om_
 rw [<- Int.natAbs_mul] at h
 omega
theorem imul_fn (C:Mem)(hT:Tabs C)(z w:Int)(k:Nat)(hk0:0<k)(hk:k<=40000)(hz:z.natAbs<B9 ^ k)(hw:w.natAbs<B9 ^ k):Gives cx.P 80 [strV (txt z),strV (txt w)] C (strV (txt (z*w))):=by
 have hzl:=bl hz hk0
 have hwl:=bl hw hk0
 refine Fn.it kr_ Tryz.func80 43 fun w0=>?_
 refine G.z2 1 0 1 ?_
 refine G.rp 1 fun R hR=>?_
 refine D.al (quick_fn _ z 9 om_) rfl rfl rfl rfl rfl rfl rfl fl_ ?_
 refine D.q4 5 0 1 5 6 hR ?_
 refine G.z4 1 0 1 5 16 ?_
 refine G.bW (fun fr C' L' μ=>(True)/\fr=[(0,[],strV (txt z)),(1,[],strV (txt w))]/\L'=[]) ?_ (fun fr C16 L16 μ hle16 hI=>?_)
 ·refine G.cd (fun h16=>?_) fun h16=>?_
  ·have hz18:=of_decide_eq_true h16
   rw [if_pos hz18]
   have hza:=abs18 hz18
   rw [e9] at hza
   refine G.rp 1 fun R hR=>?_
   refine D.al (quick_fn _ w 9 om_) rfl rfl rfl rfl rfl rfl rfl fl_ ?_
   refine D.q5 5 0 1 5 7 8 hR ?_
   refine G.z5 1 0 1 5 7 22 ?_
   refine G.cd (fun h22=>?_) fun h22=>?_
   ·have hw18:=of_decide_eq_true h22
    rw [if_pos hw18]
    have hwa:=abs18 hw18
    rw [e9] at hwa
    have hpr:=prod18 hza hwa
    refine G.rp 2 fun R hR=>?_
    refine D.cR ((z*w)) rfl rfl rfl rfl om_ om_ om_ rfl rfl ?_
    refine D.al (iof_fn _ (hT.mono mup) (z*w) om_ om_) rfl rfl rfl rfl rfl rfl rfl fl_ ?_
    refine D.q1 1 4 hR ?_
    refine G.rf ?_
    exact ⟨rfl,rfl⟩
   ·refine G.ar 0 (Mem.le.refl _) (h_2 0 1) ⟨trivial,rfl,rfl⟩
  ·refine G.ar 0 (Mem.le.refl _) (h_2 0 1) ⟨trivial,rfl,rfl⟩
 ·obtain ⟨_,rfl,rfl⟩:=hI
  refine G.rp 1 fun R hR=>?_
  refine D.ax (open_fn _ z om_) rfl rfl rfl rfl rfl rfl rfl fl_ (fun v28 C28 hle28 hq28=>?_)
  refine D.ae ?_
  refine D.ax (open_fn _ w om_) rfl rfl rfl rfl rfl rfl rfl fl_ (fun v30 C30 hle30 hq30=>?_)
  refine D.aC (fun b9=>?_)
  refine D.aC (fun b10=>?_)
  obtain ⟨pz,rfl,hpz⟩:=hq28
  obtain ⟨pw,rfl,hpw⟩:=hq30
  obtain ⟨Az,mz,cz,rfl⟩:=hpz.form
  obtain ⟨Aw,mw,cw,rfl⟩:=hpw.form
  refine D.ag (j:=1) ?_
  refine D.ag (j:=1) ?_
  refine D.e2 9 10 hR ?_
  refine G.aH [0,1,2,3,4,5,6,7,8,9,10,11,12] [(11,1)] rfl kr_ (fun R hB hR=>?_)
  refine D.ae ?_
  refine D.ah (.tail _ (.head _)) ?_
  refine D.ae ?_
  refine D.ah (.head _) ?_
  refine D.ps 2 ?_
  refine D.ah (.tail _ (.head _)) ?_
  refine D.ae ?_
  refine D.ah (.head _) ?_
  refine D.ax (times_n (k:=k) _ (hpz.mono mup) (hpw.mono mup) hz hw om_) rfl rfl rfl rfl rfl rfl rfl fl_ (fun v40 C40 hle40 hq40=>?_)
  obtain ⟨Ap,mp,cp,rfl⟩:=hq40.form
  refine D.build [.bool (decide (z<0) != decide (w<0)),_] rfl rfl rfl rfl rfl rfl rfl rfl ?_
  refine D.a6 (fun _=>(close_fn _ (hT.mono mup) _ _ _ hq40 (cI (k:=100000) (n:=k+k) (prod_lt9 hz hw) om_))) rfl rfl rfl rfl rfl rfl rfl rfl rfl ?_
  refine D.q1 1 4 hR ?_
  refine G.rf ?_
  exact ⟨by rw [sgZ_mul],rfl⟩

def divQ (z w:Int):Nat:=if z<0/\z.natAbs % w.natAbs≠0 then z.natAbs / w.natAbs+1 else z.natAbs / w.natAbs
def divR (z w:Int):Nat:=if z<0/\z.natAbs % w.natAbs≠0 then w.natAbs-z.natAbs % w.natAbs else z.natAbs % w.natAbs
theorem div_mod {z w:Int}(hw:0<w):sgZ (decide (z<0) != decide (w<0)) (divQ z w)=z / w/\(divR z w:Int)=z % w:=by
 obtain ⟨n,rfl⟩:∃ n:Nat,w=n:=⟨w.natAbs,by omega⟩
 have hn:0<n:=by omega
 rw [decide_eq_false (by omega:¬ ((n:Nat):Int)<0),Bool.bne_false]
 have h1:=Nat.mod_add_div z.natAbs n
 have h2:=Nat.mod_lt z.natAbs hn
 obtain ⟨q,hq⟩:∃ q,z.natAbs / n=q:=⟨_,rfl⟩
 obtain ⟨r,hr⟩:∃ r,z.natAbs % n=r:=⟨_,rfl⟩
 have key:sgZ (decide (z<0)) (divQ z n)=z / n/\(divR z n:Int)=z % n:=by
  have h3:=(Int.ediv_emod_unique (a:=z) (r:=(divR z n:Int)) (q:=sgZ (decide (z<0)) (divQ z n)) (by omega:(0:Int)<(n:Int))).2
  have h4:(divR z n:Int)+(n:Int)*sgZ (decide (z<0)) (divQ z n)=z/\0<=(divR z n:Int)/\(divR z n:Int)<(n:Int):=by
   unfold divQ divR sgZ
   simp only [Int.natAbs_natCast]
   rw [hq,hr]
   rw [hr,hq] at h1
   rw [hr] at h2
   have h5:((r+n*q:Nat):Int)=(z.natAbs:Int):=by rw [h1]
   rw [Int.natCast_add,Int.natCast_mul] at h5
   by_cases hz:z<0
   ·rw [decide_eq_true hz,if_pos rfl]
    by_cases hr0:r=0
    ·subst hr0
     rw [if_neg (by simp),if_neg (by simp)]
     rw [Int.mul_neg]
     omega
    ·rw [if_pos ⟨hz,hr0⟩,if_pos ⟨hz,hr0⟩]
     rw [Int.mul_neg,Int.natCast_add,Int.mul_add]
     omega
   ·rw [decide_eq_false hz,if_neg (fun h:z<0/\r≠0=>hz h.1),if_neg (fun h:z<0/\r≠0=>hz h.1),if_neg (by decide)]
    omega
  have h6:=h3 h4
  exact ⟨h6.1.symm,h6.2.symm⟩
 exact key
theorem idivmod_fn (C:Mem)(hT:Tabs C)(z w:Int)(k:Nat)(hk0:0<k)(hk:k<=40000)(hz:z.natAbs<B9 ^ k)(hw:w.natAbs<B9 ^ k)(hw0:0<w):Gives cx.P 130 [strV (txt z),strV (txt w)] C (.tuple #[strV (txt (z / w)),strV (txt (z % w)),.int .i64 0]):=by
 have hzl:=bl hz hk0
 have hwl:=bl hw hk0
 have hwn:0<w.natAbs:=by omega
 refine Fn.it kr_ Tryz.func130 50 fun w0=>?_
 refine G.z2 3 0 1 ?_
 refine G.z3 2 0 1 12 ?_
 refine G.cd (fun h12=>?_) fun h12=>?_
 ·have h:=txtEq0 w
  rw [h] at h12
  have:w=0:=of_decide_eq_true h12
  omega
 ·refine G.rp 1 fun R hR=>?_
  refine D.ax (open_fn _ z om_) rfl rfl rfl rfl rfl rfl rfl fl_ (fun v14 C14 hle14 hq14=>?_)
  refine D.ae ?_
  refine D.ax (open_fn _ w om_) rfl rfl rfl rfl rfl rfl rfl fl_ (fun v16 C16 hle16 hq16=>?_)
  refine D.aC (fun b7=>?_)
  refine D.aC (fun b8=>?_)
  obtain ⟨pz,rfl,hpz⟩:=hq14
  obtain ⟨pw,rfl,hpw⟩:=hq16
  obtain ⟨Az,mz,cz,rfl⟩:=hpz.form
  obtain ⟨Aw,mw,cw,rfl⟩:=hpw.form
  refine D.ag (j:=1) ?_
  refine D.ag (j:=1) ?_
  refine D.e2 7 8 hR ?_;clear hR R
  refine G.rp 1 fun R hR=>?_
  refine D.ah (.tail _ (.head _)) ?_
  refine D.ae ?_
  refine D.ah (.head _) ?_
  refine D.ax (divide_fn _ _ _ _ _ (hpz.mono mup) (hpw.mono mup) (cI (k:=100000) (n:=k) hz om_) hwn) rfl rfl rfl rfl rfl rfl rfl fl_ (fun v22 C22 hle22 hq22=>?_)
  obtain ⟨vq,vr,rfl,hvq,hvr⟩:=hq22
  refine D.q4 5 7 8 9 10 hR ?_;clear hR R
  obtain ⟨lr,hcr,hrv,hsr⟩:=id hvr
  obtain ⟨Ar,cr,heR,_⟩:=id hsr
  rw [List.length_map] at heR
  subst heR
  have hlr:lr.length=0 ↔ z.natAbs % w.natAbs=0:=by
   rw [<- hrv,can9_nil hcr]
   exact List.length_eq_zero_iff
  refine G.rp 1 fun R hR=>?_
  refine D.ah (.tail _ (.head _)) ?_
  refine D.ps 4 ?_
  refine D.au ?_
  refine D.e5 7 8 9 10 31 hR ?_;clear hR R
  refine G.bW (fun fr C' L' μ=>∃ (v9 v10:Value),(NineC C' v9 (divQ z w)/\NineC C' v10 (divR z w))/\fr=[(7,[],.pointer (some ⟨b7,0,none⟩)),(8,[],.pointer (some ⟨b8,0,none⟩)),(9,[],v9),(10,[],v10)]/\L'=[.obj b8 (.cells ⟨[.bool (decide (w<0)),.slice Aw mw cw]⟩ 209 (0,0)),.obj b7 (.cells ⟨[.bool (decide (z<0)),.slice Az mz cz]⟩ 209 (0,0))]) ?_ (fun fr C31 L31 μ hle31 hI=>?_)
  ·refine G.cd (fun h31=>?_) fun h31=>?_
   ·have hcond:z<0/\z.natAbs % w.natAbs≠0:=by
     have h:decide (z<0)=true/\0<lr.length:=by simpa using h31
     exact ⟨of_decide_eq_true h.1,fun e=>by have:=hlr.2 e;omega⟩
    have hQ:divQ z w=z.natAbs / w.natAbs+1:=if_pos hcond
    have hR':divR z w=w.natAbs-z.natAbs % w.natAbs:=if_pos hcond
    have hql:z.natAbs / w.natAbs<B9 ^ k:=Nat.lt_of_le_of_lt (Nat.div_le_self _ _) hz
    refine G.aH [0,3,4,5,1,2,6,7,8] [] rfl kr_ (fun R hB hR=>?_)
    refine D.ps 2 ?_
    refine D.ah (.head _) ?_
    refine D.ae ?_
    refine D.af [encU 1] (fun p33 C33 hle33 hs33=>?_)
    refine D.ax (plus_n (k:=k) _ (hvq.mono mup) (⟨[1],⟨(fun x hx=>(by rw [List.mem_singleton.1 hx];decide)),by simp⟩,rfl,hs33.mono mup⟩:NineC _ _ 1) hql (Nat.lt_of_lt_of_le (by decide:1<B9 ^ 1) (Nat.pow_le_pow_right (by decide) hk0)) om_) rfl rfl rfl rfl rfl rfl rfl fl_ (fun v34 C34 hle34 hq34=>?_)
    refine D.ax (minus_n (k:=k) _ (hpw.mono mup) (hvr.mono mup) hw (Nat.le_of_lt (Nat.mod_lt _ hwn)) om_) rfl rfl rfl rfl rfl rfl rfl fl_ (fun v38 C38 hle38 hq38=>?_)
    refine D.ps 2 ?_
    refine D.e4 7 8 9 10 hR ?_;clear hR hB R
    refine G.ar 0 mup (h_4 7 8 9 10) ⟨_,_,⟨by rw [hQ];exact hq34.mono mup,by rw [hR'];exact hq38.mono mup⟩,rfl,rfl⟩
   ·have hcond:¬ (z<0/\z.natAbs % w.natAbs≠0):=fun h=>by
     have h2:0<lr.length:=by
      rcases Nat.eq_zero_or_pos lr.length with h3 | h3
      ·exact absurd (hlr.1 h3) h.2
      ·exact h3
     have h3:(decide (z<0) && decide ((0:Int)<(lr.length:Int)))=true:=by
      rw [decide_eq_true h.1,decide_eq_true om_];rfl
     rw [h3] at h31;cases h31
    have hQ:divQ z w=z.natAbs / w.natAbs:=if_neg hcond
    have hR':divR z w=z.natAbs % w.natAbs:=if_neg hcond
    refine G.ar 0 mup (h_4 7 8 9 10) ⟨_,_,⟨by rw [hQ];exact hvq.mono mup,by rw [hR'];exact hvr.mono mup⟩,rfl,rfl⟩
  ·obtain ⟨v9 ,v10,⟨h9,h10⟩,rfl,rfl⟩:=hI
   obtain ⟨A9,m9,c9,rfl⟩:=h9.form
   obtain ⟨A10,m10,c10,rfl⟩:=h10.form
   have hqb:divQ z w<B9 ^ 100000:=by
    have h1:z.natAbs / w.natAbs<=z.natAbs:=Nat.div_le_self _ _
    have h2:divQ z w<=z.natAbs+1:=by unfold divQ;split <;> omega
    have h3:B9 ^ k*2<=B9 ^ (k+1):=by rw [Nat.pow_succ];exact Nat.mul_le_mul_left _ (by decide)
    have h4:z.natAbs+1<B9 ^ (k+1):=by have:=Nat.pow_pos (n:=k) (show 0<B9 by decide);omega
    exact cI (k:=100000) (n:=k+1) (Nat.lt_of_le_of_lt h2 h4) om_
   have hrb:divR z w<B9 ^ 100000:=by
    have h1:=Nat.mod_lt z.natAbs hwn
    have h2:divR z w<=w.natAbs:=by unfold divR;split <;> omega
    exact cI (k:=100000) (n:=k) (Nat.lt_of_le_of_lt h2 hw) om_
   refine G.rp 1 fun R hR=>?_
   refine D.ah (.tail _ (.head _)) ?_
   refine D.ae ?_
   refine D.ah (.head _) ?_
   refine D.ps 2 ?_
   refine D.build [.bool (decide (z<0) != decide (w<0)),_] rfl rfl rfl rfl rfl rfl rfl rfl ?_
   refine D.aj (close_fn _ (hT.mono mup) _ _ _ (h9.mono mup) hqb) ?_
   refine D.ae ?_
   refine D.build [.bool false,_] rfl rfl rfl rfl rfl rfl rfl rfl ?_
   refine D.aj (close_fn _ (hT.mono mup) _ _ _ (h10.mono mup) hrb) ?_
   refine D.q3 3 4 5 6 hR ?_;clear hR R
   refine G.ay (G.dropAll (G.eZ rfl rfl rfl rfl ?_))
   refine ⟨?_,rfl⟩
   rw [(div_mod hw0).1,show sgZ false (divR z w)=z % w from (div_mod hw0).2]
end Go.Proofs.YtifolnapeolhcaaGreatDoor
namespace Go.Jog
open Go

section
variable {cx:Cx} {n:Nat} {ds:List (Option Nat)} {R:Rg n ds} {its:List It} {fr:Fr} {C:Mem} {L:List Ent} {i k d:Nat} {o:Oper} {g:GL} {v:Value}

theorem D.fieldV {t f ty off:Nat}{x:Operand}{xs:List Value}{ti te:TI}{fs:List (Nat × Nat)}(hk:Nat.ble k 1=true)(hd:o.dst=some d)(hop:o.op=.field t x f)
  (hg:gOf ds fr o.guard=some g) (hx:ev fr g x=some (.agg ⟨xs⟩)) (ht:cx.T.get t=some ti) (hfs:ti.k=.struct fs) (hf:fs[f]?=some (ty,off)) (hte:cx.T.get ty=some te)
  (hv:(bif te.agg then some (.agg ⟨(xs.drop off).take te.size⟩) else xs[off]?)=some v) (hp:aF n ds ((d,g,v)::fr) d=true) (hwf:wfG ds fr g=true)
  (h:D cx R its ((d,g,v)::fr) C L):D cx R ((i,k,o)::its) fr C L:=by
 refine D.run _ hk hd hg (fun _ a hs w=>?_) hp hwf h
 have e1:execOp a.eval o=(do Pure.pure (.value (<- Instr.field t (a.eval x) f)):Sem Next):=by unfold execOp;rw [hop]
 obtain ⟨kk,s1,b1,z1,g1⟩:=ti
 simp only at hfs
 subst hfs
 obtain ⟨fields,hu,hm⟩:=und_struct cx.hT ht
 obtain ⟨fd,h1,rfl,rfl⟩:∃ fd,fields[f]?=some fd/\fd.type=ty/\fd.offset=off:=by
  rw [<- hm,List.getElem?_map] at hf
  cases hx:fields.toList[f]? with
  | none=>rw [hx] at hf;cases hf
  | some fd =>
   rw [hx] at hf
   simp only [Option.map_some,Option.some.injEq,Prod.mk.injEq] at hf
   exact ⟨fd,by simpa using hx,hf.1,hf.2⟩
 rw [e1,hs _ _ hx]
 unfold Instr.field
 simp only [Sem.run_bind,run_underlying hu,Result.andThen_ok,h1,asAgg,part,Sem.run_pure]
 rw [is_agg cx.hT hte w]
 simp only [Result.andThen_ok]
 cases hag:te.agg with
 | true =>
  rw [hag] at hv
  simp only [cond_true,Option.some.injEq] at hv
  subst hv
  simp only [if_true,Sem.run_bind,cT cx.hT hte w,Result.andThen_ok,Sem.run_pure,List.extract_toArray,List.extract_eq_take_drop,Nat.add_sub_cancel_left]
 | false =>
  rw [hag] at hv
  simp only [cond_false] at hv
  simp [hv]
end
end Go.Jog
namespace Go.Proofs.YtifolnapeolhcaaGreatDoor
open Go Go.Jog
set_option maxRecDepth 100000

theorem can9_pos {l:List Nat}{n:Nat}(hc:Can9 l)(hv:val9 l=n):0<l.length ↔ 0<n:=by
 have h:=can9_nil hc
 rw [hv] at h
 have h2:l.length=0 ↔ n=0:=by rw [h];exact List.length_eq_zero_iff
 omega
theorem igcd_fn (C:Mem)(hT:Tabs C)(z w:Int)(k:Nat)(hk0:0<k)(hk:k<=40000)(hz:z.natAbs<B9 ^ k)(hw:w.natAbs<B9 ^ k):Gives cx.P 129 [strV (txt z),strV (txt w)] C (strV (txt (Nat.gcd z.natAbs w.natAbs:Nat))):=by
 have hzl:=bl hz hk0
 have hwl:=bl hw hk0
 refine Fn.it kr_ Tryz.func129 56 fun w0=>?_
 refine G.z2 1 0 1 ?_
 refine G.rp 1 fun R hR=>?_
 refine D.aj (quick_fn _ z 18 (Nat.le_refl _)) ?_
 refine D.q4 5 0 1 5 6 hR ?_
 refine G.z4 1 0 1 5 18 ?_
 refine G.bW (fun fr C' L' μ=>(True)/\fr=[(0,[],strV (txt z)),(1,[],strV (txt w))]/\L'=[]) ?_ (fun fr C18 L18 μ hle18 hI=>?_)
 ·refine G.cd (fun h18=>?_) fun h18=>?_
  ·have hz18:=of_decide_eq_true h18
   rw [if_pos hz18]
   have hza:=abs18 hz18
   rw [e18] at hza
   refine G.rp 1 fun R hR=>?_
   refine D.aj (quick_fn _ w 18 (Nat.le_refl _)) ?_
   refine D.q5 5 0 1 5 7 8 hR ?_
   refine G.z5 1 0 1 5 7 24 ?_
   refine G.cd (fun h24=>?_) fun h24=>?_
   ·have hw18:=of_decide_eq_true h24
    rw [if_pos hw18]
    have hwa:=abs18 hw18
    rw [e18] at hwa
    refine G.loop (fun fr C' L' μ=>∃ (x y:Int),(x.natAbs<1000000000000000000/\y.natAbs<1000000000000000000/\Nat.gcd x.natAbs y.natAbs=Nat.gcd z.natAbs w.natAbs)/\fr=[(5,[],.int .i64 x),(7,[],.int .i64 y)]/\L'=[]/\μ=y.natAbs+1) (h_2 5 7) ⟨z,w,⟨hza,hwa,rfl⟩,rfl,rfl,rfl⟩ (fun fr C0' L0' m hle0 hI=>?_)
    obtain ⟨x,y,⟨hxa,hya,hg⟩,rfl,rfl,rfl⟩:=hI
    refine G.z3 2 5 7 26 ?_
    refine G.cd (fun h26=>?_) fun h26=>?_
    ·have hy0:y≠0:=by simpa using h26
     have hta:(x.tmod y).natAbs=x.natAbs % y.natAbs:=Int.natAbs_tmod x y
     have htl:=Nat.mod_lt x.natAbs (show 0<y.natAbs by omega)
     refine G.aH [0,1,2,3,4,5] [] rfl kr_ (fun R hB hR=>?_)
     refine D.ps 3 ?_
     refine D.remZ (x.tmod y) rfl rfl rfl rfl rfl rfl hy0 rfl rfl rfl ?_
     refine D.q2 2 5 7 hR ?_
     refine G.ap (m':=(x.tmod y).natAbs+1) om_ hle0 (h_2 5 7) ⟨y,x.tmod y,⟨hya,by omega,by rw [hta,<- hg,Nat.gcd_comm x.natAbs,Nat.gcd_rec y.natAbs x.natAbs,Nat.gcd_comm]⟩,rfl,rfl,rfl⟩
    ·have hy0:y=0:=by simpa using h26
     subst hy0
     rw [show (0:Int).natAbs=0 from rfl,Nat.gcd_zero_right] at hg
     refine G.rp 3 fun R hR=>?_
     have hwx:IntKind.i64.wrap (0-x)=0-x:=wrap_i64 om_ om_
     refine D.max ((x.natAbs:Int)) rfl rfl rfl rfl rfl rfl om_ rfl rfl ?_
     refine D.al (iof_fn _ (hT.mono mup) (x.natAbs:Int) om_ om_) rfl rfl rfl rfl rfl rfl rfl fl_ ?_
     refine D.q1 1 4 hR ?_
     refine G.rf ?_
     exact ⟨by rw [hg],rfl⟩
   ·refine G.ar 0 (Mem.le.refl _) (h_2 0 1) ⟨trivial,rfl,rfl⟩
  ·refine G.ar 0 (Mem.le.refl _) (h_2 0 1) ⟨trivial,rfl,rfl⟩
 ·obtain ⟨_,rfl,rfl⟩:=hI
  refine G.rp 1 fun R hR=>?_
  refine D.ax (open_fn _ z om_) rfl rfl rfl rfl rfl rfl rfl fl_ (fun v37 C37 hle37 hq37=>?_)
  obtain ⟨pz,rfl,hpz⟩:=hq37
  refine D.fieldV rfl rfl rfl rfl rfl rfl rfl rfl rfl rfl rfl rfl ?_
  refine D.ae ?_
  refine D.ax (open_fn _ w om_) rfl rfl rfl rfl rfl rfl rfl fl_ (fun v40 C40 hle40 hq40=>?_)
  obtain ⟨pw,rfl,hpw⟩:=hq40
  refine D.fieldV rfl rfl rfl rfl rfl rfl rfl rfl rfl rfl rfl rfl ?_
  refine D.q2 2 9 10 hR ?_
  refine G.loop (fun fr C' L' μ=>∃ (x y:Nat)(v9 v10:Value),(NineC C' v9 x/\NineC C' v10 y/\x<B9 ^ k/\y<B9 ^ k/\Nat.gcd x y=Nat.gcd z.natAbs w.natAbs)/\fr=[(9,[],v9),(10,[],v10)]/\L'=[]/\μ=y+1) (h_2 9 10) ⟨_,_,_,_,⟨hpz.mono mup,hpw.mono mup,hz,hw,rfl⟩,rfl,rfl,rfl⟩ (fun fr C1' L1' m hle1 hI=>?_)
  obtain ⟨x,y,v9,v10,⟨h9,h10,hxk,hyk,hg⟩,rfl,rfl,rfl⟩:=hI
  obtain ⟨l,hlc,hlv,hls⟩:=id h10
  obtain ⟨A10,c10,rfl,_⟩:=id hls
  rw [List.length_map] at h10 ⊢
  have hlp:=can9_pos hlc hlv
  refine G.z3 3 9 10 44 ?_
  refine G.cd (fun h44=>?_) fun h44=>?_
  ·have hy0:0<y:=hlp.1 (by simpa using h44)
   have htl:=Nat.mod_lt x hy0
   refine G.rp 2 fun R hR=>?_
   refine D.ax (divide_fn _ _ _ _ _ (h9.mono mup) (h10.mono mup) (cI (k:=100000) (n:=k) hxk om_) hy0) rfl rfl rfl rfl rfl rfl rfl fl_ (fun v48 C48 hle48 hq48=>?_)
   obtain ⟨vq,vr,rfl,hvq,hvr⟩:=hq48
   refine D.q2 5 10 12 hR ?_
   refine G.z2 4 9 10 ?_
   refine G.ap (m':=x % y+1) om_ mup (h_2 9 10) ⟨y,x % y,_,_,⟨h10.mono mup,hvr.mono mup,hyk,Nat.lt_trans (Nat.mod_lt _ hy0) hyk,by rw [<- hg,Nat.gcd_comm x,Nat.gcd_rec y x,Nat.gcd_comm]⟩,rfl,rfl,rfl⟩
  ·have hy0:y=0:=by
    have h:¬ 0<l.length:=by simpa using h44
    omega
   subst hy0
   rw [Nat.gcd_zero_right] at hg
   obtain ⟨A9,m9,c9,rfl⟩:=h9.form
   refine G.rp 1 fun R hR=>?_
   refine D.build [.bool false,_] rfl rfl rfl rfl rfl rfl rfl rfl ?_
   refine D.al (close_fn _ (hT.mono mup) _ _ _ (h9.mono mup) (cI (k:=100000) (n:=k) hxk om_)) rfl rfl rfl rfl rfl rfl rfl fl_ ?_
   refine D.q1 1 4 hR ?_
   refine G.rf ?_
   exact ⟨by rw [hg];rfl,rfl⟩
end Go.Proofs.YtifolnapeolhcaaGreatDoor
namespace Go.Jog
open Go

def preS (b:Bool):List UInt8:=if b then [45] else []
def dh:Option (List UInt8)->List UInt8
 | none=>[]
 | some b=>47::b
def denS (d:Nat):Option (List UInt8):=if d=1 then none else some (decS d)
def qtx (q:Rat):List UInt8:=preS (decide (q.num<0))++decS q.num.natAbs++dh (denS q.den)
theorem txt_pre (z:Int):txt z=preS (decide (z<0))++decS z.natAbs:=by
 unfold txt preS
 by_cases h:z<0
 ·rw [if_pos h,decide_eq_true h];rfl
 ·rw [if_neg h,decide_eq_false h];rfl
theorem qtx_txt (q:Rat):qtx q=txt q.num++dh (denS q.den):=by rw [txt_pre];rfl
theorem qtx_int (z:Int):qtx z=txt z:=by
 rw [qtx_txt]
 show txt z++dh (denS 1)=txt z
 simp [denS,dh]
theorem decV_t10 {s:List UInt8}{i:Nat}{c:UInt8}(h:s[i]?=some c):decV (s.take (i+1))=10*decV (s.take i)+(c.toNat-48):=by
 rw [decV_tk h];omega
theorem decV_le9 {s:List UInt8}(hs:∀ c∈s,digB c=true){i:Nat}(hi:i<=9):decV (s.take i)<1000000000:=by
 have h1:=cg (s:=s.take i) (fun c hc=>hs c (List.mem_of_mem_take hc))
 have h2:10 ^ (s.take i).length<=10 ^ 9:=Nat.pow_le_pow_right (by decide) (by rw [List.length_take];omega)
 omega
def fit9 (A:List UInt8)(B:Option (List UInt8)):Bool:=decide (A.length<=9) && decide ((B.getD []).length<=9)
def denV:Option (List UInt8)->Nat
 | none=>1
 | some b=>decV b
theorem pre_get (p A r:List UInt8){j:Nat}{c:UInt8}(h:A[j]?=some c):(p++A++r)[p.length+j]?=some c:=by
 have hj:=(List.getElem?_eq_some_iff.1 h).1
 rw [List.append_assoc,List.getElem?_append_right om_,Nat.add_sub_cancel_left,List.getElem?_append_left hj,h]
theorem post_get (p A r:List UInt8)(j:Nat):(p++A++r)[p.length+A.length+j]?=r[j]?:=by
 rw [List.getElem?_append_right (by rw [List.length_append];omega),List.length_append,Nat.add_sub_cancel_left]
theorem mk_parts (n:Int){d:Nat}(hd:d≠0):(mkRat n d).num=n / ((Nat.gcd n.natAbs d:Nat):Int)/\(mkRat n d).den=d / Nat.gcd n.natAbs d:=by
 rw [mkRat,dif_neg hd,Rat.normalize_eq]
 exact ⟨rfl,rfl⟩
theorem dens_one {d:Nat}(h:d=1):denS d=none:=if_pos h
theorem dZ {d:Nat}(h:d≠1):denS d=some (decS d):=if_neg h
theorem decS_ne (n:Nat):decS n≠[]:=(aO n).1.2.1
theorem decS_dig (n:Nat):∀ c∈decS n,digB c=true:=(aO n).1.1
theorem denS_dig (d:Nat):∀ b,denS d=some b->∀ c∈b,digB c=true:=by
 intro b h
 unfold denS at h
 split at h
 ·cases h
 ·cases h;exact decS_dig d
theorem denV_denS (d:Nat):denV (denS d)=d:=by
 unfold denS
 split
 ·rename_i h;exact h.symm
 ·exact (aO d).2
def QB (k:Nat)(q:Rat):Prop:=q.num.natAbs<B9 ^ k/\q.den<B9 ^ k
theorem QB.le {k m:Nat}{q:Rat}(h:QB k q)(hk:k<=m):QB m q:=⟨Nat.lt_of_lt_of_le h.1 (Nat.pow_le_pow_right (by decide) hk),Nat.lt_of_lt_of_le h.2 (Nat.pow_le_pow_right (by decide) hk)⟩
theorem mk_bound {n:Int}{d k:Nat}(hd:d≠0)(hn:n.natAbs<B9 ^ k)(hdk:d<B9 ^ k):QB k (mkRat n d):=by
 obtain ⟨h1,h2⟩:=mk_parts n hd
 refine ⟨?_, ?_⟩
 ·rw [h1,Int.natAbs_ediv_of_dvd (Int.dvd_natAbs.1 (Int.natCast_dvd_natCast.2 (Nat.gcd_dvd_left _ _))),Int.natAbs_natCast]
  exact Nat.lt_of_le_of_lt (Nat.div_le_self _ _) hn
 ·rw [h2]
  exact Nat.lt_of_le_of_lt (Nat.div_le_self _ _) hdk
theorem rat_add_mk (a b:Rat):a+b=mkRat (a.num*b.den+b.num*a.den) (a.den*b.den):=by
 rw [Rat.add_def,Rat.normalize_eq_mkRat]
theorem rat_mul_mk (a b:Rat):a*b=mkRat (a.num*b.num) (a.den*b.den):=by
 rw [Rat.mul_def,Rat.normalize_eq_mkRat]
end Go.Jog
namespace Go.Proofs.YtifolnapeolhcaaGreatDoor
open Go Go.Jog
set_option maxRecDepth 100000

def quickV (sg:Bool)(A:Str)(B:Option Str):Value :=
 if fit9 A B then .tuple #[.int .i64 (sgZ sg (decV A)),.int .i64 (denV B),.bool true] else .tuple #[.int .i64 0,.int .i64 0,.bool false]
theorem rquick_raw (C:Mem)(sg:Bool)(A:Str)(B:Option Str)(hA:∀ c∈A,digB c=true)(hA0:A≠[])(hB:∀ b,B=some b->∀ c∈b,digB c=true)(hl:(preS sg++A++dh B).length<=1000000) :
  Gives cx.P 75 [strV (preS sg++A++dh B)] C (quickV sg A B):=by
 obtain ⟨s,hs⟩:∃ s,preS sg++A++dh B=s:=⟨_,rfl⟩
 obtain ⟨p,hp⟩:∃ p,(preS sg).length=p:=⟨_,rfl⟩
 have hp1:p=if sg then 1 else 0:=by rw [<- hp];cases sg <;> rfl
 have hgA:∀ j c,A[j]?=some c->s[p+j]?=some c:=fun j c h=>by rw [<- hs,<- hp];exact pre_get _ _ _ h
 have hgB:∀ j,s[p+A.length+j]?=(dh B)[j]?:=fun j=>by rw [<- hs,<- hp];exact post_get _ _ _ _
 have hsl:s.length=p+A.length+(dh B).length:=by rw [<- hs,<- hp,List.length_append,List.length_append]
 have hAl:0<A.length:=List.length_pos_iff.2 hA0
 rw [hs] at hl ⊢
 refine Fn.it kr_ Tryz.func75 73 fun w0=>?_
 refine G.z3 3 0 2 3 ?_
 refine G.z5 2 0 2 3 5 6 ?_
 refine G.rp 5 fun R hR=>?_
 refine D.be (b:=s.getD 0 0) rfl rfl rfl rfl rfl rfl rfl rfl (fun _=>⟨by omega,(by rw [List.getD_eq_getElem?_getD,show (0:Int).toNat=0 from rfl];obtain ⟨c,hc⟩:∃ c,s[0]?=some c:=⟨s[0]'om_,List.getElem?_eq_getElem om_⟩;rw [hc];rfl)⟩) rfl rfl ?_
 refine D.ae ?_
 refine D.au ?_
 refine D.e6 0 2 3 5 6 15 hR ?_;clear hR R
 refine G.bW (fun fr C' L' μ=>(True)/\fr=[(0,[],strV s),(2,[],.int .i64 0),(3,[],.int .i64 0),(5,[],.int .i64 p),(6,[],.bool sg)]/\L'=[]) ?_ (fun fr C15 L15 μ hle15 hI=>?_)
 ·refine G.cd (fun h15=>?_) fun h15=>?_
  ·have hsg:sg=true:=by
    cases sg with
    | true=>rfl
    | false =>
     exfalso
     rw [if_neg (by decide)] at hp1
     subst hp1
     obtain ⟨c,hc⟩:∃ c,A[0]?=some c:=⟨A[0],List.getElem?_eq_getElem hAl⟩
     have h1:=hgA 0 c hc
     have h2:=hA c (List.mem_of_getElem? hc)
     rw [Nat.add_zero] at h1
     rw [List.getD_eq_getElem?_getD,h1] at h15
     unfold digB at h2
     simp at h15 h2
     omega
   subst hsg
   rw [if_pos rfl] at hp1
   subst hp1
   refine G.z5 2 0 2 3 5 6 ?_
   refine G.ar 0 (Mem.le.refl _) (h_5 0 2 3 5 6) ⟨trivial,rfl,rfl⟩
  ·have hsg:sg=false:=by
    cases sg with
    | false=>rfl
    | true =>
     exfalso
     have h1:s[0]?=some 45:=by rw [<- hs];rfl
     rw [if_pos rfl] at hp1
     have h2:(decide ((0:Int)<((s.length:Nat):Int)) && decide ((((s.getD 0 0).toNat:Nat):Int)=45))=false:=by simpa using h15
     rw [List.getD_eq_getElem?_getD,h1,decide_eq_true om_] at h2
     exact absurd h2 (by decide)
   subst hsg
   rw [if_neg (by decide)] at hp1
   subst hp1
   refine G.ar 0 (Mem.le.refl _) (h_5 0 2 3 5 6) ⟨trivial,rfl,rfl⟩
 ·obtain ⟨_,rfl,rfl⟩:=hI
  refine G.z6 2 0 2 3 5 6 7 ?_
  refine G.loop (fun fr C' L' μ=>∃ (j:Nat),(j<=A.length/\j<=9)/\fr=[(0,[],strV s),(2,[],.int .i64 ((decV (A.take j):Nat):Int)),(3,[],.int .i64 0),(5,[],.int .i64 ((p+j:Nat):Int)),(6,[],.bool sg),(7,[],.int .i64 p)]/\L'=[]/\μ=A.length-j+1) (h_6 0 2 3 5 6 7) ⟨0,⟨by omega,by omega⟩,rfl,rfl,rfl⟩ (fun fr C0' L0' m hle0 hI=>?_)
  obtain ⟨j,⟨hj,hj9⟩,rfl,rfl,rfl⟩:=hI
  obtain ⟨c,hc⟩:∃ c,p+j<s.length->s[p+j]?=some c:=⟨s.getD (p+j) 0,fun h=>by rw [List.getD_eq_getElem?_getD,List.getElem?_eq_getElem h];rfl⟩
  refine G.rp 7 fun R hR=>?_
  refine D.be (b:=c) rfl rfl rfl rfl rfl rfl rfl rfl (fun hg=>⟨by omega,hc (by have h:decide (((p+j:Nat):Int)<((s.length:Nat):Int))=true:=hg.1;have h2:=of_decide_eq_true h;omega)⟩) rfl rfl ?_
  refine D.ae ?_
  refine D.au ?_
  refine D.e7 0 2 3 5 6 7 26 hR ?_;clear hR R
  refine G.cd (fun h26=>?_) fun h26=>?_
  ·have h26':p+j<s.length/\c.toNat≠47:=by
    simp at h26
    omega
   have hjl:j<A.length:=by
    rcases Nat.lt_or_ge j A.length with h | h
    ·exact h
    ·exfalso
     obtain rfl:j=A.length:=by omega
     have h1:=hc h26'.1
     have h2:=hgB 0
     rw [Nat.add_zero,h1] at h2
     cases B with
     | none=>simp [dh] at h2
     | some b =>
      simp [dh] at h2
      subst h2
      exact h26'.2 rfl
   obtain ⟨c',hcA⟩:∃ c,A[j]?=some c:=⟨A[j],List.getElem?_eq_getElem hjl⟩
   obtain rfl:c'=c:=by
    have h1:=hc h26'.1
    rw [hgA j c' hcA] at h1
    exact Option.some.inj h1
   have hcr:48<=c'.toNat/\c'.toNat<=57:=by simpa [digB] using hA c' (List.mem_of_getElem? hcA)
   have hV:=decV_le9 hA hj9
   refine G.rp 2 fun R hR=>?_
   refine D.aq _ ?_
   refine D.q7 1 0 2 3 5 6 7 32 hR ?_;clear hR R
   refine G.cd (fun h32=>?_) fun h32=>?_
   ·have h9:¬ A.length<=9:=by
     have:((p+j:Nat):Int)-p=9:=by simpa using h32
     omega
    refine G.z3 3 2 3 4 ?_
    refine G.ay (G.dropAll (G.eZ rfl rfl rfl rfl ?_))
    refine ⟨?_,rfl⟩
    unfold quickV fit9
    rw [decide_eq_false h9,Bool.false_and,if_neg (by decide)]
   ·have h9:j≠9:=by
     have:¬ ((p+j:Nat):Int)-p=9:=by simpa using h32
     omega
    refine G.rp 1 fun R hR=>?_
    refine D.aq _ ?_
    refine D.ps 2 ?_
    refine D.be rfl rfl rfl rfl rfl rfl rfl rfl (fun _=>⟨by omega,hgA j _ hcA⟩) rfl rfl ?_
    refine D.int (((c'.toNat:Nat):Int)-48) rfl rfl rfl rfl (by rw [IntKind.wrap_u8];omega) rfl rfl ?_
    refine D.bT (c:=((c'.toNat:Nat):Int)-48) rfl rfl rfl rfl rfl rfl rfl rfl (by rw [IntKind.wrap_i64];omega) fl_ ?_
    refine D.aq _ ?_
    refine D.q6 1 0 2 3 5 6 7 hR ?_;clear hR R
    refine G.rp 1 fun R hR=>?_
    refine D.aq _ ?_
    refine D.q6 1 0 2 3 5 6 7 hR ?_;clear hR R
    rw [show 10*((decV (A.take j):Nat):Int)+(((c'.toNat:Nat):Int)-48)=((decV (A.take (j+1)):Nat):Int) by rw [decV_t10 hcA];omega]
    refine G.ap (m':=A.length-(j+1)+1) om_ hle0 (h_6 0 2 3 5 6 7) ⟨j+1,⟨by omega,by omega⟩,rfl,rfl,rfl⟩
  ·have hjl:j=A.length:=by
    rcases Nat.lt_or_ge j A.length with h | h
    ·exfalso
     obtain ⟨c',hcA⟩:∃ c,A[j]?=some c:=⟨A[j],List.getElem?_eq_getElem h⟩
     have h1:=hc om_
     rw [hgA j c' hcA] at h1
     obtain rfl:=Option.some.inj h1
     have hcr:48<=c'.toNat/\c'.toNat<=57:=by simpa [digB] using hA c' (List.mem_of_getElem? hcA)
     simp at h26
     have:=h26 om_
     omega
    ·omega
   subst hjl
   rw [List.take_length]
   refine G.z5 1 0 2 3 5 41 ?_
   refine G.bW (fun fr C' L' μ=>(True)/\fr=[(0,[],strV s),(2,[],.int .i64 (sgZ sg (decV A))),(3,[],.int .i64 0),(5,[],.int .i64 ((p+A.length:Nat):Int))]/\L'=[]) ?_ (fun fr C41 L41 μ hle41 hI=>?_)
   ·refine G.cd (fun h41=>?_) fun h41=>?_
    ·have hsg:sg=true:=h41
     subst hsg
     have hVA:=decV_le9 hA hj9
     rw [List.take_length] at hVA
     refine G.z4 3 0 2 3 5 ?_
     rw [show IntKind.i64.wrap (0-((decV A:Nat):Int))=sgZ true (decV A) by rw [wrap_i64 om_ om_];unfold sgZ;rw [if_pos rfl];omega]
     refine G.ar 0 (Mem.le.refl _) (h_4 0 2 3 5) ⟨trivial,rfl,rfl⟩
    ·have hsg:sg=false:=by simpa using h41
     subst hsg
     refine G.ar 0 (Mem.le.refl _) (h_4 0 2 3 5) ⟨trivial,rfl,rfl⟩
   ·obtain ⟨_,rfl,rfl⟩:=hI
    refine G.z5 4 0 2 3 5 47 ?_
    refine G.cd (fun h47=>?_) fun h47=>?_
    ·have hB0:B=none:=by
      cases B with
      | none=>rfl
      | some b =>
       exfalso
       have:p+A.length=s.length:=by simp at h47;omega
       rw [hsl] at this
       simp [dh] at this
     subst hB0
     refine G.z3 4 2 3 4 ?_
     refine G.ay (G.dropAll (G.eZ rfl rfl rfl rfl ?_))
     refine ⟨?_,rfl⟩
     unfold quickV fit9
     rw [decide_eq_true hj9]
     rfl
    ·obtain ⟨b,rfl⟩:∃ b,B=some b:=by
      cases B with
      | some b=>exact ⟨b,rfl⟩
      | none =>
       exfalso
       simp [hsl,dh] at h47
     have hBd:=hB b rfl
     have hsl':s.length=p+A.length+1+b.length:=by rw [hsl];simp [dh];omega
     refine G.rp 1 fun R hR=>?_
     refine D.aq _ ?_
     refine D.q5 1 0 2 3 5 7 hR ?_;clear hR R
     refine G.rp 1 fun R hR=>?_
     refine D.aq _ ?_
     refine D.q5 1 0 2 3 5 7 hR ?_;clear hR R
     refine G.loop (fun fr C' L' μ=>∃ (j:Nat),(j<=b.length/\j<=9)/\fr=[(0,[],strV s),(2,[],.int .i64 (sgZ sg (decV A))),(3,[],.int .i64 ((decV (b.take j):Nat):Int)),(5,[],.int .i64 ((p+A.length+1+j:Nat):Int)),(7,[],.int .i64 ((p+A.length+1:Nat):Int))]/\L'=[]/\μ=b.length-j+1) (h_5 0 2 3 5 7) ⟨0,⟨by omega,by omega⟩,rfl,rfl,rfl⟩ (fun fr C1' L1' m hle1 hI=>?_)
     obtain ⟨j,⟨hk,hk9⟩,rfl,rfl,rfl⟩:=hI
     refine G.z6 4 0 2 3 5 7 56 ?_
     refine G.cd (fun h56=>?_) fun h56=>?_
     ·have hkl:j<b.length:=by
       have:p+A.length+1+j<s.length:=by simp at h56;omega
       omega
      obtain ⟨c,hcB⟩:∃ c,b[j]?=some c:=⟨b[j],List.getElem?_eq_getElem hkl⟩
      have hcs:s[p+A.length+1+j]?=some c:=by rw [Nat.add_assoc,hgB,Nat.add_comm 1 j];exact hcB
      have hcr:48<=c.toNat/\c.toNat<=57:=by simpa [digB] using hBd c (List.mem_of_getElem? hcB)
      have hV:=decV_le9 hBd hk9
      refine G.rp 2 fun R hR=>?_
      refine D.aq _ ?_
      refine D.q6 1 0 2 3 5 7 62 hR ?_;clear hR R
      refine G.cd (fun h62=>?_) fun h62=>?_
      ·have h9:¬ b.length<=9:=by
        have:((p+A.length+1+j:Nat):Int)-((p+A.length+1:Nat):Int)=9:=by simpa using h62
        omega
       refine G.z3 3 2 3 4 ?_
       refine G.ay (G.dropAll (G.eZ rfl rfl rfl rfl ?_))
       refine ⟨?_,rfl⟩
       unfold quickV fit9
       rw [show (some b).getD []=b from rfl,decide_eq_false h9,Bool.and_false,if_neg (by decide)]
      ·have h9:j≠9:=by
        have:¬ ((p+A.length+1+j:Nat):Int)-((p+A.length+1:Nat):Int)=9:=by simpa using h62
        omega
       refine G.rp 1 fun R hR=>?_
       refine D.aq _ ?_
       refine D.ps 2 ?_
       refine D.be rfl rfl rfl rfl rfl rfl rfl rfl (fun _=>⟨by omega,hcs⟩) rfl rfl ?_
       refine D.int (((c.toNat:Nat):Int)-48) rfl rfl rfl rfl (by rw [IntKind.wrap_u8];omega) rfl rfl ?_
       refine D.bT (c:=((c.toNat:Nat):Int)-48) rfl rfl rfl rfl rfl rfl rfl rfl (by rw [IntKind.wrap_i64];omega) fl_ ?_
       refine D.aq _ ?_
       refine D.q5 1 0 2 3 5 7 hR ?_;clear hR R
       refine G.rp 1 fun R hR=>?_
       refine D.aq _ ?_
       refine D.q5 1 0 2 3 5 7 hR ?_;clear hR R
       rw [show 10*((decV (b.take j):Nat):Int)+(((c.toNat:Nat):Int)-48)=((decV (b.take (j+1)):Nat):Int) by rw [decV_t10 hcB];omega]
       refine G.ap (m':=b.length-(j+1)+1) om_ hle1 (h_5 0 2 3 5 7) ⟨j+1,⟨by omega,by omega⟩,rfl,rfl,rfl⟩
     ·have hkl:j=b.length:=by
       have:¬ p+A.length+1+j<s.length:=by simp at h56;omega
       omega
      subst hkl
      rw [List.take_length]
      refine G.z3 5 2 3 4 ?_
      refine G.ay (G.dropAll (G.eZ rfl rfl rfl rfl ?_))
      refine ⟨?_,rfl⟩
      unfold quickV fit9
      rw [show (some b).getD []=b from rfl,decide_eq_true hj9,decide_eq_true hk9]
      rfl

theorem quotT_dvd {n:Int}{g:Nat}(hg:g ∣ n.natAbs):n.tdiv (g:Int)=n / (g:Int):=Int.tdiv_eq_ediv_of_dvd (Int.dvd_natAbs.1 (Int.natCast_dvd_natCast.2 hg))
theorem qtx_mk {n:Int}{d:Nat}(hd:d≠0):qtx (mkRat n d)=txt (n / ((Nat.gcd n.natAbs d:Nat):Int))++dh (denS (d / Nat.gcd n.natAbs d)):=by
 rw [qtx_txt,(mk_parts n hd).1,(mk_parts n hd).2]
theorem rsmall_fn (C:Mem)(hT:Tabs C)(n:Int)(d:Nat)(hd:0<d)(hn:n.natAbs<9000000000000000000)(hdl:d<9000000000000000000):Gives cx.P 76 [.int .i64 n,.int .i64 d] C (strV (qtx (mkRat n d))):=by
 obtain ⟨g,hg⟩:∃ g,Nat.gcd n.natAbs d=g:=⟨_,rfl⟩
 have hg0:0<g:=by rw [<- hg];exact Nat.gcd_pos_of_pos_right _ hd
 have hgn:g ∣ n.natAbs:=by rw [<- hg];exact Nat.gcd_dvd_left _ _
 have hgd:g ∣ d:=by rw [<- hg];exact Nat.gcd_dvd_right _ _
 have hgl:g<=d:=Nat.le_of_dvd hd hgd
 rw [qtx_mk om_,hg]
 refine Fn.it kr_ Tryz.func76 35 fun w0=>?_
 refine G.z2 1 0 1 ?_
 refine G.z4 4 0 1 5 6 ?_
 refine G.loop (fun fr C' L' μ=>∃ (x y:Int),(x.natAbs<9000000000000000000/\y.natAbs<9000000000000000000/\Nat.gcd x.natAbs y.natAbs=g)/\fr=[(0,[],.int .i64 n),(1,[],.int .i64 d),(5,[],.int .i64 x),(6,[],.int .i64 y)]/\L'=[]/\μ=y.natAbs+1) (h_4 0 1 5 6) ⟨n,d,⟨hn,by omega,by rw [Int.natAbs_natCast];exact hg⟩,rfl,rfl,rfl⟩ (fun fr C0' L0' m hle0 hI=>?_)
 obtain ⟨x,y,⟨hxa,hya,hgi⟩,rfl,rfl,rfl⟩:=hI
 refine G.z5 2 0 1 5 6 10 ?_
 refine G.cd (fun h10=>?_) fun h10=>?_
 ·have hy0:y≠0:=by simpa using h10
  have hta:(x.tmod y).natAbs=x.natAbs % y.natAbs:=Int.natAbs_tmod x y
  have htl:=Nat.mod_lt x.natAbs (show 0<y.natAbs by omega)
  refine G.aH [0,1,2,3,4,5] [] rfl kr_ (fun R hB hR=>?_)
  refine D.ps 3 ?_
  refine D.remZ (x.tmod y) rfl rfl rfl rfl rfl rfl hy0 rfl rfl rfl ?_
  refine D.q4 2 0 1 5 6 hR ?_
  refine G.ap (m':=(x.tmod y).natAbs+1) om_ hle0 (h_4 0 1 5 6) ⟨y,x.tmod y,⟨hya,by omega,by rw [hta,<- hgi,Nat.gcd_comm x.natAbs,Nat.gcd_rec y.natAbs x.natAbs,Nat.gcd_comm]⟩,rfl,rfl,rfl⟩
 ·have hy0:y=0:=by simpa using h10
  subst hy0
  rw [show (0:Int).natAbs=0 from rfl,Nat.gcd_zero_right] at hgi
  refine G.z4 2 0 1 5 16 ?_
  refine G.bW (fun fr C' L' μ=>(True)/\fr=[(0,[],.int .i64 n),(1,[],.int .i64 d),(5,[],.int .i64 g)]/\L'=[]) ?_ (fun fr C16 L16 μ hle16 hI=>?_)
  ·refine G.cd (fun h16=>?_) fun h16=>?_
   ·have hx0:x<0:=by simpa using h16
    refine G.z3 3 0 1 5 ?_
    rw [show IntKind.i64.wrap (0-x)=(g:Int) by rw [wrap_i64 om_ om_];omega]
    refine G.ar 0 (Mem.le.refl _) (h_3 0 1 5) ⟨trivial,rfl,rfl⟩
   ·have hx0:¬ x<0:=by simpa using h16
    rw [show x=(g:Int) by omega]
    refine G.ar 0 (Mem.le.refl _) (h_3 0 1 5) ⟨trivial,rfl,rfl⟩
  ·obtain ⟨_,rfl,rfl⟩:=hI
   have hnq:(n / (g:Int)).natAbs<=n.natAbs:=by
    rw [Int.natAbs_ediv_of_dvd (Int.dvd_natAbs.1 (Int.natCast_dvd_natCast.2 hgn)),Int.natAbs_natCast]
    exact Nat.div_le_self _ _
   have hdq:=Nat.div_le_self d g
   refine G.aH [0,1,2,3,4,5,6,7] [] rfl kr_ (fun R hB hR=>?_)
   refine D.ps 2 ?_
   refine D.quoT (n / (g:Int)) rfl rfl rfl rfl rfl rfl om_ (quotT_dvd hgn) (wrap_i64 om_ om_) rfl rfl ?_
   refine D.ps 2 ?_
   refine D.quoN (d) (g) rfl rfl rfl rfl rfl rfl hg0 (.inl ⟨rfl,by omega⟩) rfl rfl ?_
   refine D.q2 2 0 1 hR ?_
   refine G.z3 2 0 1 26 ?_
   refine G.cd (fun h26=>?_) fun h26=>?_
   ·have h1:d / g=1:=by
     have h2:(((d / g:Nat):Int))=1:=by simpa using h26
     omega
    refine G.rp 1 fun R hR=>?_
    refine D.al (itoaZ_g _ (hT.mono mup) _ om_ om_) rfl rfl rfl rfl rfl rfl rfl fl_ ?_
    refine D.q1 1 4 hR ?_
    refine G.rf ?_
    refine ⟨?_,rfl⟩
    rw [h1,dens_one rfl]
    simp [dh]
   ·have h1:d / g≠1:=by
     intro h2
     rw [h2] at h26
     exact absurd h26 (by decide)
    have hT1:=txt_len (n / (g:Int))
    have hT2:=txt_len ((d / g:Nat):Int)
    have hT3:(decS (n / (g:Int)).natAbs).length<=20:=dI (Nat.lt_of_le_of_lt hnq (Nat.lt_trans hn (by decide))) (by decide)
    have hT4:(decS ((d / g:Nat):Int).natAbs).length<=20:=dI (by rw [Int.natAbs_natCast];exact Nat.lt_of_le_of_lt hdq (Nat.lt_trans hdl (by decide))) (by decide)
    refine G.rp 1 fun R hR=>?_
    refine D.al (itoaZ_g _ (hT.mono mup) _ om_ om_) rfl rfl rfl rfl rfl rfl rfl fl_ ?_
    refine D.dr rfl rfl rfl rfl rfl rfl (fun _=>(by simp only [List.length_cons,List.length_nil];omega)) rfl rfl ?_
    refine D.ae ?_
    refine D.al (itoaZ_g _ (hT.mono mup) ((d / g:Nat):Int) (Int.le_trans (by decide) (Int.natCast_nonneg _)) (Int.le_trans (Int.ofNat_le.2 hdq) om_)) rfl rfl rfl rfl rfl rfl rfl fl_ ?_
    refine D.dr rfl rfl rfl rfl rfl rfl (fun _=>(by simp only [List.length_append,List.length_cons,List.length_nil];omega)) rfl rfl ?_
    refine D.q1 1 4 hR ?_
    refine G.rf ?_
    refine ⟨?_,rfl⟩
    rw [dZ h1,cH,List.append_assoc]
    rfl
theorem join_fn (C:Mem)(z:Int)(d:Nat)(k:Nat)(hk0:0<k)(hk:k<=40000)(hz:z.natAbs<B9 ^ k)(hd:d<B9 ^ k):Gives cx.P 131 [strV (txt z),strV (decS d)] C (strV (txt z++dh (denS d))):=by
 have hzl:(txt z).length<=9*k+1:=by
  have:=bl hz hk0
  unfold txt
  split
  ·simp;omega
  ·omega
 have hdl:=bl hd hk0
 refine Fn.it kr_ Tryz.func131 12 fun w0=>?_
 refine G.z2 1 0 1 ?_
 refine G.z3 2 0 1 6 ?_
 refine G.cd (fun h6=>?_) fun h6=>?_
 ·have h1:d=1:=by rw [decEq1] at h6;exact of_decide_eq_true h6
  refine G.z1 2 4 ?_
  refine G.rf ?_
  refine ⟨?_,rfl⟩
  rw [dens_one h1]
  simp [dh]
 ·have h1:d≠1:=by rw [decEq1] at h6;exact of_decide_eq_false h6
  refine G.rp 1 fun R hR=>?_
  refine D.dr rfl rfl rfl rfl rfl rfl (fun _=>(by simp only [List.length_cons,List.length_nil];omega)) rfl rfl ?_
  refine D.ae ?_
  refine D.dr rfl rfl rfl rfl rfl rfl (fun _=>(by simp only [List.length_append,List.length_cons,List.length_nil];omega)) rfl rfl ?_
  refine D.q1 1 4 hR ?_
  refine G.rf ?_
  refine ⟨?_,rfl⟩
  rw [dZ h1,List.append_assoc]
  rfl
theorem rparts_fn (C:Mem)(s:Str)(hl:s.length<1000000):Gives cx.P 77 [strV s] C (.tuple #[strV (cut1 47 s).1,strV ((cut1 47 s).2.getD [49])]):=by
 refine Fn.it kr_ Tryz.func77 18 fun w0=>?_
 refine G.z1 2 0 ?_
 refine G.rp 1 fun R hR=>?_
 refine D.aj (cut_fn _ s 47 hl) ?_
 refine D.q3 7 4 5 6 hR ?_
 refine G.z3 2 4 5 14 ?_
 refine G.cd (fun h14=>?_) fun h14=>?_
 ·have h1:(cut1 47 s).2=none:=by
   cases h:(cut1 47 s).2 with
   | none=>rfl
   | some b=>rw [h] at h14;simp at h14
  refine G.z2 3 2 3 ?_
  refine G.ay (G.dropAll (G.bg rfl rfl rfl ?_))
  refine ⟨?_,rfl⟩
  rw [h1]
  rfl
 ·obtain ⟨b,h1⟩:∃ b,(cut1 47 s).2=some b:=by
   cases h:(cut1 47 s).2 with
   | some b=>exact ⟨b,rfl⟩
   | none=>rw [h] at h14;simp at h14
  refine G.z2 4 2 3 ?_
  refine G.ay (G.dropAll (G.bg rfl rfl rfl ?_))
  refine ⟨?_,rfl⟩
  rw [h1]
  rfl
theorem cut1_app {c:UInt8}:∀ {a:Str}(b:Str),c ∉ a->cut1 c (a++c::b)=(a,some b)
 | [],b,_=>by simp [cut1]
 | x::a,b,h=>by
  have hx:x≠c:=fun e=>h (e ▸ List.mem_cons_self)
  have hr:=cut1_app (c:=c) (a:=a) b (fun h2=>h (List.mem_cons_of_mem _ h2))
  simp only [List.cons_append,cut1,if_neg hx,hr]
theorem cut1_none {c:UInt8}:∀ {a:Str},c ∉ a->cut1 c a=(a,none)
 | [],_=>rfl
 | x::a,h=>by
  have hx:x≠c:=fun e=>h (e ▸ List.mem_cons_self)
  have hr:=cut1_none (c:=c) (a:=a) (fun h2=>h (List.mem_cons_of_mem _ h2))
  simp only [cut1,if_neg hx,hr]
theorem slash_dig {s:Str}(h:∀ c∈s,digB c=true):(47:UInt8) ∉ s:=fun h2=>absurd (h 47 h2) (by decide)
theorem slash_txt (z:Int):(47:UInt8) ∉ txt z:=by
 unfold txt
 split
 ·intro h
  rcases List.mem_cons.1 h with h | h
  ·cases h
  ·exact slash_dig (decS_dig _) h
 ·exact slash_dig (decS_dig _)
theorem cut1_qtx (q:Rat):cut1 47 (qtx q)=(txt q.num,denS q.den):=by
 rw [qtx_txt]
 unfold denS
 split
 ·rw [show dh none=[] from rfl,List.append_nil];exact cut1_none (slash_txt _)
 ·exact cut1_app _ (slash_txt _)
theorem one_dec:decS 1=[49]:=by rw [decS];rfl
theorem den_get (d:Nat):(denS d).getD [49]=decS d:=by
 unfold denS
 split
 ·rename_i h;subst h;exact one_dec.symm
 ·rfl
theorem parts_q (C:Mem)(q:Rat)(hl:(qtx q).length<1000000):Gives cx.P 77 [strV (qtx q)] C (.tuple #[strV (txt q.num),strV (decS q.den)]):=by
 have h:=rparts_fn C (qtx q) hl
 rwa [cut1_qtx,den_get] at h


def divS (z w:Int):Rat:=mkRat (if w<0 then -z else z) w.natAbs
theorem lowest_fn (C:Mem)(hT:Tabs C)(z w:Int)(k:Nat)(hk0:0<k)(hk:k<=40000)(hz:z.natAbs<B9 ^ k)(hw:w.natAbs<B9 ^ k)(hw0:w≠0):Gives cx.P 78 [strV (txt z),strV (txt w)] C (strV (qtx (divS z w))):=by
 have hzl:=bl hz hk0
 have hwl:=bl hw hk0
 obtain ⟨y,hy⟩:∃ y,(if w<0 then -z else z)=y:=⟨_,rfl⟩
 obtain ⟨d,hd⟩:∃ d,w.natAbs=d:=⟨_,rfl⟩
 have hd0:d≠0:=by omega
 have hya:y.natAbs=z.natAbs:=by rw [<- hy];split <;> omega
 obtain ⟨g,hg⟩:∃ g,Nat.gcd y.natAbs d=g:=⟨_,rfl⟩
 have hg0:0<g:=by rw [<- hg];exact Nat.gcd_pos_of_pos_right _ om_
 have hgd:g ∣ d:=by rw [<- hg];exact Nat.gcd_dvd_right _ _
 have hgl:g<=d:=Nat.le_of_dvd om_ hgd
 unfold divS
 rw [hy,hd,qtx_mk hd0,hg]
 refine Fn.it kr_ Tryz.func78 35 fun w0=>?_
 refine G.z2 1 0 1 ?_
 refine G.rp 1 fun R hR=>?_
 refine D.aj (isign_fn _ w) ?_
 refine D.q3 1 0 1 8 hR ?_
 refine G.bW (fun fr C' L' μ=>(True)/\fr=[(0,[],strV (txt y)),(1,[],strV (txt (d:Nat)))]/\L'=[]) ?_ (fun fr C8 L8 μ hle8 hI=>?_)
 ·refine G.cd (fun h8=>?_) fun h8=>?_
  ·have hw1:w<0:=by
    have h:sgnZ w<0:=by simpa using h8
    unfold sgnZ at h
    split at h <;> omega
   rw [if_pos hw1] at hy
   refine G.rp 1 fun R hR=>?_
   refine D.al (ineg_fn _ z om_) rfl rfl rfl rfl rfl rfl rfl fl_ ?_
   refine D.ae ?_
   refine D.al (ineg_fn _ w om_) rfl rfl rfl rfl rfl rfl rfl fl_ ?_
   refine D.q2 2 0 1 hR ?_
   refine G.ar 0 (Mem.le.refl _) (h_2 0 1) ⟨trivial,by rw [hy,show -w=((d:Nat):Int) by omega],rfl⟩
  ·have hw1:¬ w<0:=by
    intro h2
    have h:¬ sgnZ w<0:=by simpa using h8
    unfold sgnZ at h
    split at h <;> omega
   rw [if_neg hw1] at hy
   refine G.ar 0 (Mem.le.refl _) (h_2 0 1) ⟨trivial,by rw [hy,show w=((d:Nat):Int) by omega],rfl⟩
 ·obtain ⟨_,rfl,rfl⟩:=hI
  refine G.rp 2 fun R hR=>?_
  refine D.al (igcd_fn _ (hT.mono mup) y (d:Nat) k hk0 hk om_ om_) rfl rfl rfl rfl rfl rfl rfl fl_ ?_
  refine D.q3 1 0 1 5 hR ?_
  rw [Int.natAbs_natCast,hg]
  refine G.z4 2 0 1 5 17 ?_
  refine G.bW (fun fr C' L' μ=>(True)/\fr=[(0,[],strV (txt (y / (g:Nat)))),(1,[],strV (txt ((d / g:Nat):Int)))]/\L'=[]) ?_ (fun fr C17 L17 μ hle17 hI=>?_)
  ·refine G.cd (fun h17=>?_) fun h17=>?_
   ·refine G.rp 2 fun R hR=>?_
    refine D.al (idivmod_fn _ (hT.mono mup) y (g:Nat) k hk0 hk om_ om_ om_) rfl rfl rfl rfl rfl rfl rfl fl_ ?_
    refine D.q3 5 0 1 5 hR ?_
    refine G.rp 2 fun R hR=>?_
    refine D.al (idivmod_fn _ (hT.mono mup) (d:Nat) (g:Nat) k hk0 hk om_ om_ om_) rfl rfl rfl rfl rfl rfl rfl fl_ ?_
    refine D.q2 5 0 1 hR ?_
    refine G.ar 0 (Mem.le.refl _) (h_2 0 1) ⟨trivial,by rw [Int.natCast_ediv],rfl⟩
   ·have hg1:g=1:=by
     rw [cH,decEq1] at h17
     simpa using h17
    refine G.ar 0 (Mem.le.refl _) (h_2 0 1) ⟨trivial,by rw [hg1,Nat.div_one,Int.natCast_one,Int.ediv_one],rfl⟩
  ·obtain ⟨_,rfl,rfl⟩:=hI
   rw [cH]
   refine G.rp 2 fun R hR=>?_
   refine D.al (join_fn _ (y / (g:Nat)) (d / g) k hk0 hk (by rw [Int.natAbs_ediv_of_dvd (Int.dvd_natAbs.1 (Int.natCast_dvd_natCast.2 (by rw [<- hg];exact Nat.gcd_dvd_left _ _))),Int.natAbs_natCast];exact Nat.lt_of_le_of_lt (Nat.div_le_self _ _) om_) (Nat.lt_of_le_of_lt (Nat.div_le_self _ _) om_)) rfl rfl rfl rfl rfl rfl rfl fl_ ?_
   refine D.q1 1 4 hR ?_
   refine G.rf ?_
   exact ⟨rfl,rfl⟩

theorem decS_eq {a b:Nat}(h:decS a=decS b):a=b:=by rw [<- (aO a).2,h,(aO b).2]
theorem txt_eq {z w:Int}(h:txt z=txt w):z=w:=by
 have h1:=bZ z
 rw [h,bZ w] at h1
 have h2:=decS_eq (Prod.mk.inj h1).1
 have h3:decide (w<0)=decide (z<0):=(Prod.mk.inj h1).2
 by_cases hw:w<0
 ·rw [decide_eq_true hw] at h3
  have:=of_decide_eq_true h3.symm
  omega
 ·rw [decide_eq_false hw] at h3
  have:=of_decide_eq_false h3.symm
  omega
theorem qtx_eq {a b:Rat}(h:qtx a=qtx b):a=b:=by
 have h1:=cut1_qtx a
 rw [h,cut1_qtx b] at h1
 have h2:=txt_eq (Prod.mk.inj h1).1
 have h3:=congrArg denV (Prod.mk.inj h1).2
 rw [denV_denS,denV_denS] at h3
 exact Rat.ext h2.symm h3.symm
theorem qtxEq (a b:Rat):((⟨(qtx a).toArray⟩:ByteArray).data.toList == (⟨(qtx b).toArray⟩:ByteArray).data.toList)=decide (a=b):=by
 show (qtx a == qtx b)=_
 rw [Bool.eq_iff_iff,beq_iff_eq,decide_eq_true_eq]
 exact ⟨qtx_eq,fun h=>by rw [h]⟩
theorem qtx_zero:qtx 0=[48]:=by
 rw [show (0:Rat)=((0:Int):Rat) from rfl,qtx_int]
 unfold txt
 rw [if_neg om_,show decS (0:Int).natAbs=decS 0 from rfl,decS];rfl
theorem qtx_one:qtx 1=[49]:=by
 rw [show (1:Rat)=((1:Int):Rat) from rfl,qtx_int]
 exact one_val.symm
theorem dU (a:Rat):((⟨(qtx a).toArray⟩:ByteArray).data.toList == (⟨#[48]⟩:ByteArray).data.toList)=decide (a=0):=by
 have h:=qtxEq a 0
 rwa [qtx_zero] at h
theorem qtxEq1 (a:Rat):((⟨(qtx a).toArray⟩:ByteArray).data.toList == (⟨#[49]⟩:ByteArray).data.toList)=decide (a=1):=by
 have h:=qtxEq a 1
 rwa [qtx_one] at h
theorem qtx_ne (a:Rat):0<(qtx a).length:=by
 unfold qtx
 rw [List.length_append,List.length_append]
 have:=List.length_pos_iff.2 (decS_ne a.num.natAbs)
 omega
theorem aZ {q:Rat}{k:Nat}(h:QB k q)(hk:0<k):(qtx q).length<=18*k+2:=by
 unfold qtx
 rw [List.length_append,List.length_append]
 have h1:=bl h.1 hk
 have h2:=bl h.2 hk
 have h3:(preS (decide (q.num<0))).length<=1:=by cases decide (q.num<0) <;> simp [preS]
 have h4:(dh (denS q.den)).length<=9*k+1:=by
  unfold denS
  split
  ·simp [dh]
  ·simp [dh];exact h2
 omega
theorem qtx_head (q:Rat):∃ c r,qtx q=c::r/\((((c.toNat:Nat):Int) == 45)=decide (q.num<0)):=by
 by_cases h:q.num<0
 ·refine ⟨45,decS q.num.natAbs++dh (denS q.den), ?_,by rw [decide_eq_true h];decide⟩
  unfold qtx
  rw [decide_eq_true h]
  rfl
 ·obtain ⟨c,r,hc⟩:∃ c r,decS q.num.natAbs=c::r:=List.exists_cons_of_ne_nil (decS_ne _)
  refine ⟨c,r++dh (denS q.den), ?_, ?_⟩
  ·unfold qtx
   rw [decide_eq_false h,hc]
   rfl
  ·have h2:=decS_dig q.num.natAbs c (by rw [hc];exact List.mem_cons_self)
   rw [decide_eq_false h]
   unfold digB at h2
   have h3:=of_decide_eq_true h2
   exact decide_eq_false om_
theorem qtx_neg_of_pos {q:Rat}(h:¬ q.num<0)(h0:q≠0):qtx (-q)=45::qtx q:=by
 have hn:q.num≠0:=fun e=>h0 (Rat.num_eq_zero.1 e)
 unfold qtx
 rw [Rat.neg_num,Rat.neg_den,decide_eq_true om_,decide_eq_false h,Int.natAbs_neg]
 rfl
theorem qtx_neg_of_neg {q:Rat}(h:q.num<0):qtx q=45::qtx (-q):=by
 have h2:=qtx_neg_of_pos (q:=-q) (by rw [Rat.neg_num];omega) (by intro e;have h3:=congrArg Rat.num e;rw [Rat.neg_num] at h3;have h4:(0:Rat).num=0:=rfl;omega)
 rwa [Rat.neg_neg] at h2
def fitQ (q:Rat):Bool:=fit9 (decS q.num.natAbs) (denS q.den)
theorem fit_lt {n:Nat}(h:(decS n).length<=9):n<1000000000:=by
 have h1:=cg (decS_dig n)
 rw [(aO n).2] at h1
 exact Nat.lt_of_lt_of_le h1 (Nat.le_trans (Nat.pow_le_pow_right (by decide) h) (by decide))
theorem fitQ_lt {q:Rat}(h:fitQ q=true):q.num.natAbs<1000000000/\q.den<1000000000:=by
 unfold fitQ fit9 at h
 rw [Bool.and_eq_true,decide_eq_true_eq,decide_eq_true_eq] at h
 refine ⟨fit_lt h.1, ?_⟩
 by_cases h1:q.den=1
 ·omega
 ·rw [dZ h1] at h
  exact fit_lt h.2
theorem rquick_fn (C:Mem)(q:Rat)(hl:(qtx q).length<=1000000):Gives cx.P 75 [strV (qtx q)] C (if fitQ q then .tuple #[.int .i64 q.num,.int .i64 (q.den:Nat),.bool true] else .tuple #[.int .i64 0,.int .i64 0,.bool false]):=by
 have h:=rquick_raw C (decide (q.num<0)) (decS q.num.natAbs) (denS q.den) (decS_dig _) (decS_ne _) (denS_dig _) hl
 unfold quickV at h
 rw [(aO _).2,denV_denS] at h
 have e:sgZ (decide (q.num<0)) q.num.natAbs=q.num:=by
  unfold sgZ
  by_cases h:q.num<0
  ·rw [decide_eq_true h,if_pos rfl];omega
  ·rw [decide_eq_false h,if_neg (by decide)];omega
 rw [e] at h
 exact h
theorem rneg_fn (C:Mem)(q:Rat)(hl:(qtx q).length<=1000000):Gives cx.P 34 [strV (qtx q)] C (strV (qtx (-q))):=by
 have hpos:=qtx_ne q
 refine Fn.it kr_ Tryz.func34 13 fun w0=>?_
 refine G.z1 1 0 ?_
 refine G.z2 2 0 4 ?_
 refine G.cd (fun h4=>?_) fun h4=>?_
 ·have h0:q=0:=by rw [dU] at h4;exact of_decide_eq_true h4
  refine G.z1 2 2 ?_
  refine G.rf ?_
  refine ⟨?_,rfl⟩
  rw [h0,Rat.neg_zero]
 ·have h0:q≠0:=by rw [dU] at h4;exact of_decide_eq_false h4
  obtain ⟨c,r,hcr,hcd⟩:=qtx_head q
  refine G.rp 1 fun R hR=>?_
  refine D.be rfl rfl rfl rfl rfl rfl rfl rfl (fun _=>⟨by omega,by rw [hcr];rfl⟩) rfl rfl ?_
  refine D.q2 1 0 8 hR ?_
  refine G.cd (fun h8=>?_) fun h8=>?_
  ·have hn:q.num<0:=by rw [hcd] at h8;exact of_decide_eq_true h8
   refine G.rp 1 fun R hR=>?_
   refine D.bG 1 (qtx q).length rfl rfl rfl rfl rfl rfl rfl rfl rfl (fun _=>⟨.inr ⟨_,rfl⟩,.inl ⟨rfl,rfl⟩,.inl ⟨rfl,rfl⟩,by omega,Nat.le_refl _,Nat.le_refl _⟩) rfl rfl ?_
   refine D.q1 1 2 hR ?_
   refine G.rf ?_
   refine ⟨?_,rfl⟩
   rw [List.take_length,qtx_neg_of_neg hn]
   rfl
  ·have hn:¬ q.num<0:=by rw [hcd] at h8;exact of_decide_eq_false h8
   refine G.rp 1 fun R hR=>?_
   refine D.dr rfl rfl rfl rfl rfl rfl (fun _=>(by simp only [List.length_cons,List.length_nil];omega)) rfl rfl ?_
   refine D.q1 1 2 hR ?_
   refine G.rf ?_
   refine ⟨?_,rfl⟩
   rw [qtx_neg_of_pos hn h0]
   rfl
theorem eE (C:Mem)(q:Rat)(hl:(qtx q).length<=1000000):Gives cx.P 39 [strV (qtx q)] C (.int .i64 (sgnZ q.num)):=by
 obtain ⟨c,r,hcr,hcd⟩:=qtx_head q
 have hpos:=qtx_ne q
 refine Fn.it kr_ Tryz.func39 15 fun w0=>?_
 refine G.z1 1 0 ?_
 refine G.z2 3 0 3 ?_
 refine G.cd (fun h3=>?_) fun h3=>?_
 ·have h0:q=0:=by rw [dU] at h3;exact of_decide_eq_true h3
  refine G.z1 1 2 ?_
  refine G.rf ?_
  refine ⟨?_,rfl⟩
  rw [h0]
  rfl
 ·have h0:q≠0:=by rw [dU] at h3;exact of_decide_eq_false h3
  have hn0:q.num≠0:=fun e=>h0 (Rat.num_eq_zero.1 e)
  refine G.rp 5 fun R hR=>?_
  refine D.be rfl rfl rfl rfl rfl rfl rfl rfl (fun _=>⟨by omega,by rw [hcr];rfl⟩) rfl rfl ?_
  refine D.ae ?_
  refine D.au ?_
  refine D.q1 1 6 hR ?_
  refine G.cd (fun h6=>?_) fun h6=>?_
  ·rw [hcd] at h6
   have hn:q.num<0:=by
    have h:=(Bool.and_eq_true _ _ ▸ h6:_/\_).2
    exact of_decide_eq_true h
   skip
   refine G.z1 1 2 ?_
   refine G.rf ?_
   refine ⟨?_,rfl⟩
   unfold sgnZ
   rw [if_pos hn]
  ·rw [hcd,decide_eq_true (show (0:Int)<((⟨(qtx q).toArray⟩:ByteArray).data.toList.length:Int) by show (0:Int)<(((qtx q).length:Nat):Int);omega),Bool.true_and] at h6
   have hn:¬ q.num<0:=of_decide_eq_false h6
   refine G.z1 1 2 ?_
   refine G.rf ?_
   refine ⟨?_,rfl⟩
   unfold sgnZ
   rw [if_neg hn,if_neg hn0]

theorem rquick_q (C:Mem)(q:Rat)(hl:(qtx q).length<=1000000):Gives cx.P 75 [strV (qtx q)] C (.tuple #[.int .i64 (if fitQ q then q.num else 0),.int .i64 (if fitQ q then ((q.den:Nat):Int) else 0),.bool (fitQ q)]):=by
 have h:=rquick_fn C q hl
 cases hf:fitQ q with
 | true=>rw [hf] at h;exact h
 | false=>rw [hf] at h;exact h
def cmpQ (a b:Rat):Int:=if a<b then -1 else if b<a then 1 else 0
theorem cmpQ_of {a b:Rat}:cmpQ a b=cmpZ (a.num*b.den) (b.num*a.den):=by
 unfold cmpQ cmpZ
 simp only [Rat.lt_iff]
theorem pos_den (a:Rat):0<a.den:=Nat.pos_of_ne_zero a.den_nz
theorem nine_mul {a:Int}{d:Nat}(ha:a.natAbs<1000000000)(hd:d<1000000000):-1000000000000000000<a*(d:Int)/\a*(d:Int)<1000000000000000000:=prod18 ha (by rw [Int.natAbs_natCast];exact hd)
theorem nine_mulN {a d:Nat}(ha:a<1000000000)(hd:d<1000000000):a*d<1000000000000000000:=Nat.mul_lt_mul'' ha hd
theorem parts_z (C:Mem)(q:Rat)(hl:(qtx q).length<1000000):Gives cx.P 77 [strV (qtx q)] C (.tuple #[strV (txt q.num),strV (txt ((q.den:Nat):Int))]):=by
 have h:=parts_q C q hl
 rwa [<- cH] at h
theorem dp {z w:Int}{k:Nat}(hz:z.natAbs<B9 ^ k)(hw:w.natAbs<B9 ^ k):(z*w).natAbs<B9 ^ (k+k):=by
 rw [Int.natAbs_mul]
 exact prod_lt9 hz hw
theorem divS_pos {z:Int}{d:Nat}(hd:0<d):divS z ((d:Nat):Int)=mkRat z d:=by
 unfold divS
 rw [if_neg om_,Int.natAbs_natCast]
theorem denI {k:Nat}{q:Rat}(h:QB k q):((q.den:Nat):Int).natAbs<B9 ^ k:=by rw [Int.natAbs_natCast];exact h.2
theorem rcompare_fn (C:Mem)(hT:Tabs C)(a b:Rat)(k:Nat)(hk0:0<k)(hk:k<=20000)(ha:QB k a)(hb:QB k b):Gives cx.P 38 [strV (qtx a),strV (qtx b)] C (.int .i64 (cmpQ a b)):=by
 have hal:=aZ ha hk0
 have hbl:=aZ hb hk0
 refine Fn.it kr_ Tryz.func38 65 fun w0=>?_
 refine G.z2 1 0 1 ?_
 refine G.z3 3 0 1 19 ?_
 refine G.cd (fun h19=>?_) fun h19=>?_
 ·have h0:a=b:=by rw [qtxEq] at h19;exact of_decide_eq_true h19
  refine G.z1 1 4 ?_
  refine G.rf ?_
  refine ⟨?_,rfl⟩
  subst h0
  rw [cmpQ,if_neg (Rat.lt_irrefl),if_neg (Rat.lt_irrefl)]
 ·refine G.rp 1 fun R hR=>?_
  refine D.al (rquick_q _ a om_) rfl rfl rfl rfl rfl rfl rfl fl_ ?_
  refine D.q5 7 0 1 5 6 7 hR ?_
  refine G.z5 1 0 1 5 6 26 ?_
  refine G.bW (fun fr C' L' μ=>(True)/\fr=[(0,[],strV (qtx a)),(1,[],strV (qtx b))]/\L'=[]) ?_ (fun fr C26 L26 μ hle26 hI=>?_)
  ·refine G.cd (fun h26=>?_) fun h26=>?_
   ·have hfa:fitQ a=true:=h26
    rw [if_pos hfa,if_pos hfa]
    have ha9:=fitQ_lt hfa
    refine G.rp 1 fun R hR=>?_
    refine D.al (rquick_q _ b om_) rfl rfl rfl rfl rfl rfl rfl fl_ ?_
    refine D.q7 7 0 1 5 6 8 9 10 hR ?_
    refine G.z7 1 0 1 5 6 8 9 33 ?_
    refine G.cd (fun h33=>?_) fun h33=>?_
    ·have hfb:fitQ b=true:=h33
     rw [if_pos hfb,if_pos hfb]
     have hb9:=fitQ_lt hfb
     have hm1:=nine_mul ha9.1 hb9.2
     have hm2:=nine_mul hb9.1 ha9.2
     refine G.rp 2 fun R hR=>?_
     refine D.aq _ ?_
     refine D.ps 2 ?_
     refine D.aq _ ?_
     refine D.q2 2 11 12 hR ?_
     refine G.z3 4 11 12 40 ?_
     refine G.cd (fun h40=>?_) fun h40=>?_
     ·have h1:=of_decide_eq_true h40
      refine G.z1 1 4 ?_
      refine G.rf ?_
      refine ⟨?_,rfl⟩
      rw [cmpQ_of,cmpZ,if_pos h1]
     ·have h1:=of_decide_eq_false h40
      refine G.z1 4 44 ?_
      refine G.cd (fun h44=>?_) fun h44=>?_
      ·have h2:=of_decide_eq_true h44
       refine G.z1 1 4 ?_
       refine G.rf ?_
       refine ⟨?_,rfl⟩
       rw [cmpQ_of,cmpZ,if_neg h1,if_pos h2]
      ·have h2:=of_decide_eq_false h44
       refine G.z1 1 4 ?_
       refine G.rf ?_
       refine ⟨?_,rfl⟩
       rw [cmpQ_of,cmpZ,if_neg h1,if_neg h2]
    ·refine G.ar 0 (Mem.le.refl _) (h_2 0 1) ⟨trivial,rfl,rfl⟩
   ·refine G.ar 0 (Mem.le.refl _) (h_2 0 1) ⟨trivial,rfl,rfl⟩
  ·obtain ⟨_,rfl,rfl⟩:=hI
   refine G.rp 1 fun R hR=>?_
   refine D.al (parts_z _ a om_) rfl rfl rfl rfl rfl rfl rfl fl_ ?_
   refine D.q3 5 1 13 14 hR ?_
   refine G.rp 1 fun R hR=>?_
   refine D.al (parts_z _ b om_) rfl rfl rfl rfl rfl rfl rfl fl_ ?_
   refine D.q4 5 13 14 15 16 hR ?_
   refine G.rp 2 fun R hR=>?_
   refine D.al (imul_fn _ (hT.mono mup) _ _ k hk0 om_ ha.1 (denI hb)) rfl rfl rfl rfl rfl rfl rfl fl_ ?_
   refine D.ps 2 ?_
   refine D.al (imul_fn _ (hT.mono mup) _ _ k hk0 om_ hb.1 (denI ha)) rfl rfl rfl rfl rfl rfl rfl fl_ ?_
   refine D.al (icompare_fn _ _ _ (by have:=bl (dp ha.1 (denI hb)) om_;omega) (by have:=bl (dp hb.1 (denI ha)) om_;omega)) rfl rfl rfl rfl rfl rfl rfl fl_ ?_
   refine D.q1 1 4 hR ?_
   refine G.rf ?_
   exact ⟨by rw [cmpQ_of],rfl⟩
theorem radd_fn (C:Mem)(hT:Tabs C)(a b:Rat)(k:Nat)(hk0:0<k)(hk:k<=10000)(ha:QB k a)(hb:QB k b):Gives cx.P 33 [strV (qtx a),strV (qtx b)] C (strV (qtx (a+b))):=by
 have hal:=aZ ha hk0
 have hbl:=aZ hb hk0
 have hda:=pos_den a
 have hdb:=pos_den b
 have hdd:0<a.den*b.den:=Nat.mul_pos hda hdb
 refine Fn.it kr_ Tryz.func33 67 fun w0=>?_
 refine G.z2 1 0 1 ?_
 refine G.z3 2 0 1 16 ?_
 refine G.cd (fun h16=>?_) fun h16=>?_
 ·have h0:a=0:=by rw [dU] at h16;exact of_decide_eq_true h16
  refine G.z1 2 4 ?_
  refine G.rf ?_
  refine ⟨?_,rfl⟩
  rw [h0,Rat.zero_add]
 ·refine G.z3 2 0 1 19 ?_
  refine G.cd (fun h19=>?_) fun h19=>?_
  ·have h0:b=0:=by rw [dU] at h19;exact of_decide_eq_true h19
   refine G.z1 2 4 ?_
   refine G.rf ?_
   refine ⟨?_,rfl⟩
   rw [h0,Rat.add_zero]
  ·refine G.rp 1 fun R hR=>?_
   refine D.al (rquick_q _ a om_) rfl rfl rfl rfl rfl rfl rfl fl_ ?_
   refine D.q5 7 0 1 5 6 7 hR ?_
   refine G.z5 1 0 1 5 6 27 ?_
   refine G.bW (fun fr C' L' μ=>(True)/\fr=[(0,[],strV (qtx a)),(1,[],strV (qtx b))]/\L'=[]) ?_ (fun fr C27 L27 μ hle27 hI=>?_)
   ·refine G.cd (fun h27=>?_) fun h27=>?_
    ·have hfa:fitQ a=true:=h27
     rw [if_pos hfa,if_pos hfa]
     have ha9:=fitQ_lt hfa
     refine G.rp 1 fun R hR=>?_
     refine D.al (rquick_q _ b om_) rfl rfl rfl rfl rfl rfl rfl fl_ ?_
     refine D.q7 7 0 1 5 6 8 9 10 hR ?_
     refine G.z7 1 0 1 5 6 8 9 34 ?_
     refine G.cd (fun h34=>?_) fun h34=>?_
     ·have hfb:fitQ b=true:=h34
      rw [if_pos hfb,if_pos hfb]
      have hb9:=fitQ_lt hfb
      have hm1:=nine_mul ha9.1 hb9.2
      have hm2:=nine_mul hb9.1 ha9.2
      have hm3:=nine_mulN ha9.2 hb9.2
      refine G.rp 2 fun R hR=>?_
      refine D.aq _ ?_
      refine D.ps 2 ?_
      refine D.aq _ ?_
      refine D.aq _ ?_
      refine D.ps 2 ?_
      refine D.cR (((a.den*b.den:Nat):Int)) rfl rfl rfl rfl (Int.natCast_mul _ _).symm om_ om_ rfl rfl ?_
      refine D.al (rsmall_fn _ (hT.mono mup) _ _ hdd om_ om_) rfl rfl rfl rfl rfl rfl rfl fl_ ?_
      refine D.q1 1 4 hR ?_
      refine G.rf ?_
      exact ⟨by rw [rat_add_mk],rfl⟩
     ·refine G.ar 0 (Mem.le.refl _) (h_2 0 1) ⟨trivial,rfl,rfl⟩
    ·refine G.ar 0 (Mem.le.refl _) (h_2 0 1) ⟨trivial,rfl,rfl⟩
   ·obtain ⟨_,rfl,rfl⟩:=hI
    refine G.rp 1 fun R hR=>?_
    refine D.al (parts_z _ a om_) rfl rfl rfl rfl rfl rfl rfl fl_ ?_
    refine D.q3 5 1 11 12 hR ?_
    refine G.rp 1 fun R hR=>?_
    refine D.al (parts_z _ b om_) rfl rfl rfl rfl rfl rfl rfl fl_ ?_
    refine D.q4 5 11 12 13 14 hR ?_
    refine G.rp 2 fun R hR=>?_
    refine D.al (imul_fn _ (hT.mono mup) _ _ k hk0 om_ ha.1 (denI hb)) rfl rfl rfl rfl rfl rfl rfl fl_ ?_
    refine D.ps 2 ?_
    refine D.al (imul_fn _ (hT.mono mup) _ _ k hk0 om_ hb.1 (denI ha)) rfl rfl rfl rfl rfl rfl rfl fl_ ?_
    refine D.al (iadd_fn _ (hT.mono mup) _ _ (k+k) om_ om_ (dp ha.1 (denI hb)) (dp hb.1 (denI ha))) rfl rfl rfl rfl rfl rfl rfl fl_ ?_
    refine D.ps 2 ?_
    refine D.al (imul_fn _ (hT.mono mup) _ _ k hk0 om_ (denI ha) (denI hb)) rfl rfl rfl rfl rfl rfl rfl fl_ ?_
    refine D.al (lowest_fn _ (hT.mono mup) _ _ (k+k+1) om_ om_ (Nat.lt_of_le_of_lt (Int.natAbs_add_le _ _) (sum_lt9 (dp ha.1 (denI hb)) (dp hb.1 (denI ha)))) (cI (dp (denI ha) (denI hb)) om_) (by rw [<- Int.natCast_mul];omega)) rfl rfl rfl rfl rfl rfl rfl fl_ ?_
    refine D.q1 1 4 hR ?_
    refine G.rf ?_
    exact ⟨by rw [rat_add_mk,<- Int.natCast_mul,divS_pos hdd],rfl⟩

theorem QB_mul {a b:Rat}{k:Nat}(ha:QB k a)(hb:QB k b):QB (k+k) (a*b):=by
 rw [rat_mul_mk]
 exact mk_bound (Nat.ne_of_gt (Nat.mul_pos (pos_den a) (pos_den b))) (dp ha.1 hb.1) (prod_lt9 ha.2 hb.2)
theorem QB_neg {a:Rat}{k:Nat}(ha:QB k a):QB k (-a):=⟨by rw [Rat.neg_num,Int.natAbs_neg];exact ha.1,by rw [Rat.neg_den];exact ha.2⟩
theorem QB_inv {a:Rat}{k:Nat}(ha:QB k a)(h0:a≠0):QB k a⁻¹:=by
 have hn:a.num≠0:=fun e=>h0 (Rat.num_eq_zero.1 e)
 refine ⟨?_, ?_⟩
 ·rw [Rat.num_inv,Int.natAbs_mul,Int.natAbs_sign_of_ne_zero hn,Nat.one_mul,Int.natAbs_natCast];exact ha.2
 ·rw [Rat.den_inv,if_neg hn];exact ha.1
theorem QB_div {a b:Rat}{k:Nat}(ha:QB k a)(hb:QB k b)(h0:b≠0):QB (k+k) (a / b):=by
 rw [Rat.div_def];exact QB_mul ha (QB_inv hb h0)
theorem QB_int {z:Int}{k:Nat}(h:z.natAbs<B9 ^ k)(hk:0<k):QB k (z:Rat):=⟨h,by
 show 1<B9 ^ k
 exact Nat.lt_of_lt_of_le (by decide:1<B9 ^ 1) (Nat.pow_le_pow_right (by decide) hk)⟩
theorem eG (C:Mem)(hT:Tabs C)(a b:Rat)(k:Nat)(hk0:0<k)(hk:k<=10000)(ha:QB k a)(hb:QB k b):Gives cx.P 74 [strV (qtx a),strV (qtx b)] C (strV (qtx (a*b))):=by
 have hal:=aZ ha hk0
 have hbl:=aZ hb hk0
 have hda:=pos_den a
 have hdb:=pos_den b
 have hdd:0<a.den*b.den:=Nat.mul_pos hda hdb
 refine Fn.it kr_ Tryz.func74 66 fun w0=>?_
 refine G.z2 1 0 1 ?_
 refine G.z3 3 0 1 15 ?_
 refine G.bW (fun fr C' L' μ=>(True)/\fr=[(0,[],strV (qtx a)),(1,[],strV (qtx b)),(15,[],.bool (decide (a=0∨b=0)))]/\L'=[]) ?_ (fun fr C15 L15 μ hle15 hI=>?_)
 ·refine G.cd (fun h15=>?_) fun h15=>?_
  ·have h0:a=0:=by rw [dU] at h15;exact of_decide_eq_true h15
   rw [dU,show decide (a=0)=decide (a=0∨b=0) by simp [h0]]
   refine G.ar 0 (Mem.le.refl _) (h_3 0 1 15) ⟨trivial,rfl,rfl⟩
  ·have h0:¬ a=0:=by rw [dU] at h15;exact of_decide_eq_false h15
   refine G.z3 3 0 1 15 ?_
   rw [dU,show decide (b=0)=decide (a=0∨b=0) by simp [h0]]
   refine G.ar 0 (Mem.le.refl _) (h_3 0 1 15) ⟨trivial,rfl,rfl⟩
 ·obtain ⟨_,rfl,rfl⟩:=hI
  refine G.cd (fun h15b=>?_) fun h15b=>?_
  ·have h0:=of_decide_eq_true h15b
   refine G.z1 1 4 ?_
   refine G.rf ?_
   refine ⟨?_,rfl⟩
   rw [show a*b=0 by rcases h0 with h | h <;> simp [h],qtx_zero]
   rfl
  ·refine G.z3 3 0 1 20 ?_
   refine G.cd (fun h20=>?_) fun h20=>?_
   ·have h1:a=1:=by rw [qtxEq1] at h20;exact of_decide_eq_true h20
    refine G.z1 2 4 ?_
    refine G.rf ?_
    refine ⟨?_,rfl⟩
    rw [h1,Rat.one_mul]
   ·refine G.z3 3 0 1 24 ?_
    refine G.cd (fun h24=>?_) fun h24=>?_
    ·have h1:b=1:=by rw [qtxEq1] at h24;exact of_decide_eq_true h24
     refine G.z1 2 4 ?_
     refine G.rf ?_
     refine ⟨?_,rfl⟩
     rw [h1,Rat.mul_one]
    ·refine G.rp 1 fun R hR=>?_
     refine D.al (rquick_q _ a om_) rfl rfl rfl rfl rfl rfl rfl fl_ ?_
     refine D.q5 7 0 1 5 6 7 hR ?_
     refine G.z5 1 0 1 5 6 34 ?_
     refine G.bW (fun fr C' L' μ=>(True)/\fr=[(0,[],strV (qtx a)),(1,[],strV (qtx b))]/\L'=[]) ?_ (fun fr C34 L34 μ hle34 hI=>?_)
     ·refine G.cd (fun h34=>?_) fun h34=>?_
      ·have hfa:fitQ a=true:=h34
       rw [if_pos hfa,if_pos hfa]
       have ha9:=fitQ_lt hfa
       refine G.rp 1 fun R hR=>?_
       refine D.al (rquick_q _ b om_) rfl rfl rfl rfl rfl rfl rfl fl_ ?_
       refine D.q7 7 0 1 5 6 8 9 10 hR ?_
       refine G.z7 1 0 1 5 6 8 9 41 ?_
       refine G.cd (fun h41=>?_) fun h41=>?_
       ·have hfb:fitQ b=true:=h41
        rw [if_pos hfb,if_pos hfb]
        have hb9:=fitQ_lt hfb
        have hm1:=prod18 ha9.1 hb9.1
        have hm3:=nine_mulN ha9.2 hb9.2
        refine G.rp 2 fun R hR=>?_
        refine D.aq _ ?_
        refine D.ps 2 ?_
        refine D.cR (((a.den*b.den:Nat):Int)) rfl rfl rfl rfl (Int.natCast_mul _ _).symm om_ om_ rfl rfl ?_
        refine D.al (rsmall_fn _ (hT.mono mup) _ _ hdd om_ om_) rfl rfl rfl rfl rfl rfl rfl fl_ ?_
        refine D.q1 1 4 hR ?_
        refine G.rf ?_
        exact ⟨by rw [rat_mul_mk],rfl⟩
       ·refine G.ar 0 (Mem.le.refl _) (h_2 0 1) ⟨trivial,rfl,rfl⟩
      ·refine G.ar 0 (Mem.le.refl _) (h_2 0 1) ⟨trivial,rfl,rfl⟩
     ·obtain ⟨_,rfl,rfl⟩:=hI
      refine G.rp 1 fun R hR=>?_
      refine D.al (parts_z _ a om_) rfl rfl rfl rfl rfl rfl rfl fl_ ?_
      refine D.q3 5 1 11 12 hR ?_
      refine G.rp 1 fun R hR=>?_
      refine D.al (parts_z _ b om_) rfl rfl rfl rfl rfl rfl rfl fl_ ?_
      refine D.q4 5 11 12 13 14 hR ?_
      refine G.rp 2 fun R hR=>?_
      refine D.al (imul_fn _ (hT.mono mup) _ _ k hk0 om_ ha.1 hb.1) rfl rfl rfl rfl rfl rfl rfl fl_ ?_
      refine D.ps 2 ?_
      refine D.al (imul_fn _ (hT.mono mup) _ _ k hk0 om_ (denI ha) (denI hb)) rfl rfl rfl rfl rfl rfl rfl fl_ ?_
      refine D.al (lowest_fn _ (hT.mono mup) _ _ (k+k) om_ om_ (dp ha.1 hb.1) (dp (denI ha) (denI hb)) (by rw [<- Int.natCast_mul];omega)) rfl rfl rfl rfl rfl rfl rfl fl_ ?_
      refine D.q1 1 4 hR ?_
      refine G.rf ?_
      exact ⟨by rw [rat_mul_mk,<- Int.natCast_mul,divS_pos hdd],rfl⟩
theorem rdiv_fn (C:Mem)(hT:Tabs C)(a b:Rat)(k:Nat)(hk0:0<k)(hk:k<=10000)(ha:QB k a)(hb:QB k b)(hb0:b≠0):Gives cx.P 161 [strV (qtx a),strV (qtx b)] C (.tuple #[strV (qtx (a / b)),.int .i64 0]):=by
 have hbl:=aZ hb hk0
 have hbn:b.num≠0:=fun e=>hb0 (Rat.num_eq_zero.1 e)
 obtain ⟨c,r,hcr,hcd⟩:=qtx_head b
 refine Fn.it kr_ Tryz.func161 27 fun w0=>?_
 refine G.z2 2 0 1 ?_
 refine G.z3 2 0 1 9 ?_
 refine G.cd (fun h9=>?_) fun h9=>?_
 ·exfalso
  rw [dU] at h9
  exact hb0 (of_decide_eq_true h9)
 ·refine G.rp 1 fun R hR=>?_
  refine D.al (parts_z _ b om_) rfl rfl rfl rfl rfl rfl rfl fl_ ?_
  refine D.q4 5 0 1 6 7 hR ?_
  refine G.rp 1 fun R hR=>?_
  refine D.be rfl rfl rfl rfl rfl rfl rfl rfl (fun _=>⟨by omega,by rw [hcr];rfl⟩) rfl rfl ?_
  refine D.q4 1 0 6 7 17 hR ?_
  refine G.bW (fun fr C' L' μ=>(True)/\fr=[(0,[],strV (qtx a)),(6,[],strV (txt (b.num.natAbs:Nat))),(7,[],strV (txt (b⁻¹).num))]/\L'=[]) ?_ (fun fr C17 L17 μ hle17 hI=>?_)
  ·refine G.cd (fun h17=>?_) fun h17=>?_
   ·have hn:b.num<0:=by rw [hcd] at h17;exact of_decide_eq_true h17
    refine G.rp 1 fun R hR=>?_
    refine D.al (ineg_fn _ b.num (by have:=bl hb.1 hk0;omega)) rfl rfl rfl rfl rfl rfl rfl fl_ ?_
    refine D.ae ?_
    refine D.al (ineg_fn _ ((b.den:Nat):Int) (by have:=bl (denI hb) hk0;omega)) rfl rfl rfl rfl rfl rfl rfl fl_ ?_
    refine D.q3 2 0 6 7 hR ?_
    rw [show -b.num=((b.num.natAbs:Nat):Int) by omega,show -((b.den:Nat):Int)=(b⁻¹).num by rw [Rat.num_inv,Int.sign_eq_neg_one_of_neg hn,Int.neg_one_mul]]
    refine G.ar 0 (Mem.le.refl _) (h_3 0 6 7) ⟨trivial,rfl,rfl⟩
   ·have hn:¬ b.num<0:=by rw [hcd] at h17;exact of_decide_eq_false h17
    rw [show b.num=((b.num.natAbs:Nat):Int) by omega,show ((b.den:Nat):Int)=(b⁻¹).num by rw [Rat.num_inv,Int.sign_eq_one_of_pos om_,Int.one_mul]]
    refine G.ar 0 (Mem.le.refl _) (h_3 0 6 7) ⟨trivial,rfl,rfl⟩
  ·obtain ⟨_,rfl,rfl⟩:=hI
   rw [cH,show b.num.natAbs=(b⁻¹).den by rw [Rat.den_inv,if_neg hbn]]
   refine G.rp 3 fun R hR=>?_
   refine D.al (join_fn _ _ _ k hk0 om_ (QB_inv hb hb0).1 (QB_inv hb hb0).2) rfl rfl rfl rfl rfl rfl rfl fl_ ?_
   rw [<- qtx_txt b⁻¹]
   refine D.aj (eG _ (hT.mono mup) a b⁻¹ k hk0 hk ha (QB_inv hb hb0)) ?_
   refine D.q2 2 4 5 hR ?_
   refine G.ay (G.dropAll (G.bg rfl rfl rfl ?_))
   exact ⟨by rw [Rat.div_def],rfl⟩

theorem pow9 (k:Nat):B9 ^ k=10 ^ (9*k):=by rw [Nat.pow_mul]
theorem dK {s:Str}(h:bq s=true):s=txt (decZ s)/\(decZ s).natAbs<B9 ^ 23:=by
 have h1:=el.1 h
 refine ⟨canon_txt (by unfold bq at h;exact (Bool.and_eq_true_iff.1 h).1), ?_⟩
 rw [decZ_abs]
 have h2:=eI.1 h1.1
 have h3:=cg h2.1.1
 exact Nat.lt_of_lt_of_le h3 (by rw [pow9];exact Nat.pow_le_pow_right (by decide) om_)
theorem rat_of {s:Str}(h:aY s=true):∃ q:Rat,s=qtx q/\QB 23 q:=by
 unfold aY at h
 rw [Bool.and_eq_true,Bool.and_eq_true] at h
 obtain ⟨⟨h1,h2⟩,h3⟩:=h
 obtain ⟨e1,b1⟩:=dK h1
 rcases er 47 s with ⟨hc,_,_⟩ | ⟨pre,post,hc,hs,_⟩
 ·rw [hc] at e1 b1
  exact ⟨((decZ s:Int):Rat),by rw [qtx_int];exact e1,QB_int b1 (by decide)⟩
 ·rw [hc] at h2 h3 e1 b1
  simp only [Option.getD_some] at h2 e1 b1
  obtain ⟨e2,b2⟩:=dK h2
  unfold restOk at h3
  simp only [Bool.and_eq_true,decide_eq_true_eq,beq_iff_eq] at h3
  obtain ⟨⟨h4,_⟩,h6⟩:=h3
  have hd0:(decZ post).natAbs≠0:=by omega
  refine ⟨⟨decZ pre,(decZ post).natAbs,hd0,h6⟩, ?_,b1,b2⟩
  rw [qtx_txt]
  show s=txt (decZ pre)++dh (denS (decZ post).natAbs)
  rw [dZ om_,<- e1,hs]
  show pre++47::post=pre++47::decS (decZ post).natAbs
  rw [<- cH,show (((decZ post).natAbs:Nat):Int)=decZ post by omega,<- e2]
theorem icompare_right (C:Mem)(b:Str)(hb:bq b=true):Gives cx.P 82 [strV b,strV [49]] C (.int .i64 (cmpZ (decZ b) 1)):=by
 obtain ⟨h1,h2⟩:=dK hb
 have h:=icompare_fn C (decZ b) 1 (by have:=bl h2 (by decide);omega) (by rw [show decS (1:Int).natAbs=[49] from one_dec];decide)
 rwa [<- one_val,<- h1] at h
theorem igcd_right (C:Mem)(hT:Tabs C)(a b:Str)(ha:bq a=true)(hb:bq b=true):Gives cx.P 129 [strV a,strV b] C (strV (txt (Nat.gcd (decZ a).natAbs (decZ b).natAbs:Nat))):=by
 obtain ⟨h1,h2⟩:=dK ha
 obtain ⟨h3,h4⟩:=dK hb
 have h:=igcd_fn C hT (decZ a) (decZ b) 23 (by decide) (by decide) h2 h4
 rwa [<- h1,<- h3] at h
theorem chk_right {b:Bool}(h:(chkZ b != 0)=false):b=true:=by cases b <;> first | rfl | (exact absurd h (by decide))
theorem rcheck_fn (C:Mem)(hT:Tabs C)(s:Str)(hl:s.length<=999998):Gives cx.P 81 [strV s] C (.int .i64 (chkZ (aY s))):=by
 have hls:=ratOk_len hl
 obtain ⟨num,bo,hct⟩:∃ a b,cut1 47 s=(a,b):=⟨_,_,rfl⟩
 have hM:aY s=(bq num && bq (bo.getD [49]) && restOk (decZ num) bo):=by
  unfold aY;rw [hct]
 rw [hct] at hls
 simp only at hls
 refine Fn.it kr_ Tryz.func81 39 fun w0=>?_
 refine G.z1 1 0 ?_
 refine G.rp 1 fun R hR=>?_
 refine D.al (by have h:=cut_fn C s 47 om_;rw [hct] at h;exact h) rfl rfl rfl rfl rfl rfl rfl fl_ ?_
 refine D.q3 7 3 4 5 hR ?_
 refine G.rp 1 fun R hR=>?_
 refine D.aj (icheck_fn _ num) ?_
 refine D.q4 1 3 4 5 16 hR ?_
 refine G.cd (fun h16=>?_) fun h16=>?_
 ·have hno:aY s=false:=by
   rw [hM]
   cases h1:bq num with
   | false=>rfl
   | true=>rw [h1] at h16;exact absurd h16 (by decide)
  refine G.z1 1 2 ?_
  refine G.rf ?_
  exact ⟨by rw [hno];rfl,rfl⟩
 ·have hr1:bq num=true:=by
   cases h1:bq num with
   | true=>rfl
   | false=>rw [h1] at h16;exact absurd h16 (by decide)
  rw [hr1,Bool.true_and] at hM
  obtain ⟨hn1,hn2⟩:=dK hr1
  refine G.z3 2 3 4 18 ?_
  refine G.cd (fun h18=>?_) fun h18=>?_
  ·have hbo:bo=none:=by
    cases bo with
    | none=>rfl
    | some b=>simp at h18
   refine G.z1 1 2 ?_
   refine G.rf ?_
   refine ⟨?_,rfl⟩
   rw [hM,hbo]
   rfl
  ·obtain ⟨b,hbo⟩:∃ b,bo=some b:=by
    cases bo with
    | some b=>exact ⟨b,rfl⟩
    | none=>simp at h18
   subst hbo
   obtain ⟨zn,ezn⟩:∃ z,decZ num=z:=⟨_,rfl⟩
   obtain ⟨zd,ezd⟩:∃ z,decZ b=z:=⟨_,rfl⟩
   have hM2:aY s=(bq b && restOk (decZ num) (some b)):=hM
   unfold restOk at hM2
   simp only [ezn,ezd] at hM2 hn1 hn2
   have e0:(num == [48])=(zn == 0):=by
    rw [hn1]
    have h:=txtEq0 zn
    rw [show (zn == 0)=decide (zn=0) by by_cases h:zn=0 <;> simp [h]]
    exact h
   have e1:(chkZ (bq b) != 0)=!bq b:=by cases bq b <;> rfl
   have e2:decide (cmpZ zd 1<=0)=!decide (1<zd):=by
    unfold cmpZ
    by_cases h:1<zd
    ·rw [if_neg om_,if_pos h,decide_eq_true h];rfl
    ·rw [decide_eq_false h]
     refine decide_eq_true ?_
     split <;> first | omega | (split <;> omega)
   have key:(chkZ (bq b) != 0 || decide (cmpZ (decZ b) 1<=0) || (num == [48]) || !(decS ((decZ num).natAbs.gcd (decZ b).natAbs) == [49]))=!aY s:=by
    have e3:=decEq1 (zn.natAbs.gcd zd.natAbs)
    have e4:(decS (zn.natAbs.gcd zd.natAbs) == [49])=(zn.natAbs.gcd zd.natAbs == 1):=e3
    rw [ezn,ezd,e0,e1,e2,e4,hM2]
    cases bq b <;> cases decide (1<zd) <;> cases (zn == 0) <;> cases (zn.natAbs.gcd zd.natAbs == 1) <;> rfl
   rw [<- cH] at key
   refine G.z2 4 6 7 ?_
   refine G.rp 1 fun R hR=>?_
   refine D.aj (icheck_fn _ b) ?_
   refine D.ps 3 ?_
   refine D.a6 (fun hg=>(icompare_right _ b (by exact chk_right (show (chkZ (bq b) != 0)=false/\True from hg).1))) rfl rfl rfl rfl rfl rfl rfl rfl rfl ?_
   refine D.ae ?_
   refine D.aG rfl rfl rfl rfl rfl rfl rfl rfl ?_
   refine D.ps 3 ?_
   refine D.aG rfl rfl rfl rfl rfl rfl rfl rfl ?_
   refine D.ps 3 ?_
   refine D.a6 (fun hg=>(igcd_right _ (hT.mono mup) num b hr1 (by exact chk_right (Bool.or_eq_false_iff.1 (Bool.or_eq_false_iff.1 (show (((chkZ (bq b) != 0) || decide (cmpZ (decZ b) 1<=0)) || (num == [48]))=false/\True from hg).1).1).1))) rfl rfl rfl rfl rfl rfl rfl rfl rfl ?_
   refine D.ae ?_
   refine D.aG rfl rfl rfl rfl rfl rfl rfl rfl ?_
   refine D.e1 38 hR ?_
   refine G.cd (fun h38=>?_) fun h38=>?_
   ·have hno:aY s=false:=by
     have h:(!aY s)=true:=key.symm.trans h38
     simpa using h
    refine G.z1 1 2 ?_
    refine G.rf ?_
    exact ⟨by rw [hno];rfl,rfl⟩
   ·have hno:aY s=true:=by
     have h:(!aY s)=false:=key.symm.trans h38
     simpa using h
    refine G.z1 1 2 ?_
    refine G.rf ?_
    exact ⟨by rw [hno];rfl,rfl⟩

theorem pmul_gives (x y:Nat)(hx:x<18446744073709551616)(hy:y<18446744073709551616)(C:Mem):Gives cx.P 152 [.int .u64 x,.int .u64 y] C (.tuple #[.int .u64 ((x*y / 18446744073709551616:Nat):Int),.int .u64 ((x*y % 18446744073709551616:Nat):Int)]) :=
 Gives.ofCalls kr_ (fun w=>Any.bits_Mul Tryz.mul x y hx hy w) C

theorem prep_into {a:Value}{n k m:Nat}{tl:List Value}(_hn:k+m<=n)(hk:m<=k)(_htl:tl.length=n-k) :
  aw (List.replicate k a++tl) ((List.replicate k a++tl).take m) k=List.replicate (k+m) a++tl.drop m:=by
 have h1:(List.replicate k a++tl).take m=List.replicate m a:=by
  rw [List.take_append_of_le_length (by simpa using hk),List.take_replicate,Nat.min_eq_left hk]
 have h2:(List.replicate k a++tl).take k=List.replicate k a:=by
  rw [List.take_append_of_le_length (by simp),List.take_replicate,Nat.min_self]
 have h3:(List.replicate k a++tl).drop (k+m)=tl.drop m:=by
  rw [List.drop_append,List.length_replicate,List.drop_eq_nil_of_le (by simp),List.nil_append]
  congr 1;omega
 unfold aw
 rw [h1,h2,List.length_replicate,h3,List.replicate_append_replicate]

theorem pzrow_rep (a:Value)(n:Nat):zrow [a] n=List.replicate n a:=by
 rw [bR]
 induction n with
 | zero=>rfl
 | succ n ih=>rw [List.replicate_succ,List.flatten_cons,ih,List.replicate_succ];rfl
theorem pmul_one (n:Nat)(hn:n<18446744073709551616)(C:Mem):Gives cx.P 152 [.int .u64 (1:Int),.int .u64 n] C (.tuple #[.int .u64 0,.int .u64 n]):=by
 have h:=pmul_gives 1 n om_ hn C
 have e1:1*n / 18446744073709551616=0:=by omega
 have e2:1*n % 18446744073709551616=n:=by omega
 rw [e1,e2] at h
 exact h
theorem prepeat_fn (C:Mem)(v:Value)(n:Nat)(s:Str)(hv:Sl C 1 v [[strV s]])(hn:n<=1000000):Jog.Fn cx.P 126 [v,.int .i64 n] C [] fun u _C' L'=>∃ b,u=.slice (some ⟨b,0,none⟩) n n/\L'=[.arr u 27 1 n (List.replicate n (strV s))]:=by
 have hv0:=hv
 obtain ⟨A,c,rfl,_⟩:=hv0
 refine Fn.it kr_ Tryz.func126 48 fun w0=>?_
 refine G.z2 1 0 1 ?_
 refine G.z3 2 0 1 10 ?_
 refine G.cd (fun h10=>?_) fun h10=>?_
 ·simp at h10;omega
 ·refine G.rp 2 fun R hR=>?_
  refine D.bT (c:=1) rfl rfl rfl rfl rfl rfl rfl rfl rfl fl_ ?_
  refine D.ae ?_
  refine D.bT (c:=(n:Int)) rfl rfl rfl rfl rfl rfl rfl rfl (by rw [IntKind.wrap_u64];omega) fl_ ?_
  refine D.al (pmul_one n om_ _) rfl rfl rfl rfl rfl rfl rfl fl_ ?_
  refine D.q3 5 0 5 6 hR ?_
  refine G.rp 5 fun R hR=>?_
  refine D.aG rfl rfl rfl rfl rfl rfl rfl rfl ?_
  refine D.e3 0 6 26 hR ?_
  refine G.cd (fun h26=>?_) fun h26=>?_
  ·simp at h26;omega
  ·refine G.rp 1 fun R hR=>?_
   refine D.bT (c:=(n:Int)) rfl rfl rfl rfl rfl rfl rfl rfl (by rw [IntKind.wrap_i64];omega) fl_ ?_
   refine D.bu rfl rfl rfl rfl rfl rfl rfl rfl rfl (Nat.le_refl _) (by show 16*n<=281474976710656;omega) (by simp only [maxLen];omega) fl_ (fun b30=>?_)
   refine D.q2 1 0 7 hR ?_
   refine G.rp 2 fun R hR=>?_
   refine D.copyC (j:=0) (q:=min 1 n) rfl rfl rfl rfl rfl rfl rfl rfl rfl rfl rfl rfl hv rfl rfl (by rw [bM];show 0+min 1 n*1<=n*1;omega) fl_ ?_
   refine D.q2 1 7 8 hR ?_
   have hst0:aw (zrow [strV []] n) (([[strV s]]:List (List Value)).take (min 1 n)).flatten 0=List.replicate (min 1 n) (strV s)++List.replicate (n-min 1 n) (strV []):=by
    rw [pzrow_rep]
    cases n with
    | zero=>rfl
    | succ n=>rw [show min 1 (n+1)=1 by omega,List.replicate_succ];rfl
   refine G.aM (L':=[.arr (.slice (some ⟨b30,0,none⟩) n n) 27 1 n (List.replicate (min 1 n) (strV s)++List.replicate (n-min 1 n) (strV []))]) (by rw [<- hst0];rfl) ?_
   refine G.loop (fun fr C' L' μ=>∃ (k:Nat),(k<=n/\min 1 n<=k)/\fr=[(7,[],.slice (some ⟨b30,0,none⟩) n n),(8,[],.int .i64 k)]/\L'=[.arr (.slice (some ⟨b30,0,none⟩) n n) 27 1 n (List.replicate k (strV s)++List.replicate (n-k) (strV []))]/\μ=n-k) (h_2 7 8) ⟨min 1 n,⟨Nat.min_le_right _ _,Nat.le_refl _⟩,rfl,rfl,rfl⟩ (fun fr C0' L0' m hle0 hI=>?_)
   obtain ⟨k,⟨hk,hk1⟩,rfl,rfl,rfl⟩:=hI
   refine G.z3 4 7 8 37 ?_
   refine G.cd (fun h37=>?_) fun h37=>?_
   ·simp only [decide_eq_true_eq] at h37
    have hkn:k<n:=by omega
    have hk2:1<=k:=by omega
    refine G.aH [0,1,2,3,4,5,6,7,8,9] [] rfl kr_ (fun R hB hR=>?_)
    refine D.ps 3 ?_
    refine D.dq k n n rfl rfl rfl rfl rfl rfl rfl rfl rfl rfl rfl rfl (fun _=>⟨.inr ⟨_,rfl⟩,.inl ⟨rfl,rfl⟩,.inl ⟨rfl,rfl⟩,hk,Nat.le_refl _,Nat.le_refl _⟩) rfl rfl ?_
    refine D.ps 2 ?_
    refine D.dq 0 k n rfl rfl rfl rfl rfl rfl rfl rfl rfl rfl rfl rfl (fun _=>⟨.inl ⟨rfl,rfl⟩,.inr ⟨_,rfl⟩,.inl ⟨rfl,rfl⟩,Nat.zero_le _,hk,Nat.le_refl _⟩) rfl rfl ?_
    refine D.copyS (j:=0) (off:=k) (g0:=b30) (dl:=n-k) (dc:=n-k) (sl:=k-0) (sc:=n-0) (q:=min k (n-k)) rfl rfl rfl rfl rfl rfl rfl rfl (by show some (Value.slice (if n=k then some (⟨b30,0,none⟩:Addr) else (some (⟨b30,0,none⟩:Addr)).map (·.add (k*1))) (n-k) (n-k))=_;rw [if_neg om_];simp [Addr.add_lit]) (by show some (Value.slice (if n=0 then some (⟨b30,0,none⟩:Addr) else (some (⟨b30,0,none⟩:Addr)).map (·.add (0*1))) (k-0) (n-0))=_;split <;> simp [Addr.add_lit]) rfl rfl (by simp [oneB,strV]) (by simp;omega) fl_ ?_
    refine D.cR (((k+min k (n-k):Nat):Int)) rfl rfl rfl rfl om_ om_ om_ rfl rfl ?_
    refine D.q2 1 7 8 hR ?_
    refine G.aM (L':=[.arr (.slice (some ⟨b30,0,none⟩) n n) 27 1 n (List.replicate (k+min k (n-k)) (strV s)++List.replicate (n-(k+min k (n-k))) (strV []))]) (by rw [prep_into (n:=n) om_ (Nat.min_le_left _ _) (by simp),List.drop_replicate,Nat.sub_sub];rfl) ?_
    refine G.ap (m':=n-(k+min k (n-k))) om_ hle0 (h_2 7 8) ⟨k+min k (n-k),⟨by omega,by omega⟩,rfl,rfl,rfl⟩
   ·simp only [decide_eq_false_iff_not] at h37
    have hkn:k=n:=by omega
    subst hkn
    refine G.z1 2 4 ?_
    refine G.ay (G.dC rfl rfl ?_)
    exact ⟨b30,rfl,by simp⟩

theorem pzeros_fn (C:Mem)(n:Nat)(hn:n<=1000000):Jog.Fn cx.P 73 [.int .i64 n] C [] fun u _C' L'=>∃ b,u=.slice (some ⟨b,0,none⟩) n n/\L'=[.arr u 27 1 n (List.replicate n (strV [48]))]:=by
 refine Fn.it kr_ Tryz.func73 6 fun w0=>?_
 refine G.z1 1 0 ?_
 refine G.aA [(2,3)] rfl (fun R hR=>?_)
 refine D.af [[strV [48]]] (fun p3 C3 hle3 hs3=>?_)
 refine D.ae ?_
 refine D.call (prepeat_fn _ _ n [48] (hs3.mono mup) hn) rfl (.inr (by decide)) rfl rfl rfl rfl rfl rfl (List.Perm.refl _) fl_ (fun v5 C5 L5 hle5 hq5=>?_)
 refine D.q1 1 2 hR ?_
 obtain ⟨b,rfl,rfl⟩:=hq5
 refine G.ay (G.dC rfl rfl ?_)
 exact ⟨b,rfl,rfl⟩
theorem cQ {α:Type}{f:α->List Value}{l:List α}{i:Nat}{x:α}(h:l[i]?=some x):(l.map f)[i]?=some (f x):=by rw [List.getElem?_map,h];rfl
def dY (s:Str):List Value:=[strV s]
def encR (q:Rat):List Value:=[strV (qtx q)]
theorem bS (l:List Rat):l.map encR=(l.map qtx).map dY:=by rw [List.map_map];rfl
def pixF {α:Type}(p:α->Bool):List α->Nat->Int
 | [],_=>-1
 | x::l,k=>if p x then (k:Nat) else pixF p l (k+1)
theorem pixF_hit {α:Type}{p:α->Bool}:∀ {l:List α}{i k:Nat}{x:α},l[i]?=some x->p x=true->(∀ y∈l.take i,p y=false)->pixF p l k=((k+i:Nat):Int)
 | y::l,0,k,x,h,hp,_=>by
  simp only [List.getElem?_cons_zero,Option.some.injEq] at h
  subst h
  simp [pixF,hp]
 | y::l,i+1,k,x,h,hp,hn=>by
  simp only [List.getElem?_cons_succ] at h
  have hy:p y=false:=hn y (by simp)
  have:=pixF_hit (k:=k+1) h hp (fun z hz=>hn z (by simp [hz]))
  simp only [pixF,hy,Bool.false_eq_true,if_false,this]
  omega
theorem pixF_miss {α:Type}{p:α->Bool}:∀ {l:List α}{k:Nat},(∀ y∈l,p y=false)->pixF p l k=-1
 | [],_,_=>rfl
 | y::l,k,h=>by
  simp only [pixF,h y List.mem_cons_self,Bool.false_eq_true,if_false]
  exact pixF_miss fun z hz=>h z (List.mem_cons_of_mem _ hz)
theorem pixF_cases {α:Type}(p:α->Bool)(l:List α):(pixF p l 0=-1/\∀ y∈l,p y=false)∨∃ (i:Nat)(x:α),pixF p l 0=(i:Nat)/\l[i]?=some x/\p x=true/\∀ y∈l.take i,p y=false:=by
 by_cases h:∀ y∈l,p y=false
 ·exact .inl ⟨pixF_miss h,h⟩
 ·right
  have key:∀ (l:List α),(¬ ∀ y∈l,p y=false)->∃ (i:Nat)(x:α),l[i]?=some x/\p x=true/\∀ y∈l.take i,p y=false:=by
   intro l
   induction l with
   | nil=>intro h;exact absurd (fun y hy=>(by cases hy)) h
   | cons a l ih =>
    intro h
    by_cases ha:p a=true
    ·exact ⟨0,a,rfl,ha,by simp⟩
    ·have ha':p a=false:=by simpa using ha
     obtain ⟨i,x,h1,h2,h3⟩:=ih (fun h2=>h (fun y hy=>by
      rcases List.mem_cons.1 hy with rfl | hy
      ·exact ha'
      ·exact h2 y hy))
     refine ⟨i+1,x,by simpa using h1,h2,fun y hy=>?_⟩
     rw [List.take_succ_cons] at hy
     rcases List.mem_cons.1 hy with rfl | hy
     ·exact ha'
     ·exact h3 y hy
  obtain ⟨i,x,h1,h2,h3⟩:=key l h
  exact ⟨i,x,by rw [pixF_hit h1 h2 h3,Nat.zero_add],h1,h2,h3⟩
theorem pindex_fn (C:Mem)(v:Value)(l:List Str)(g:Nat)(ca:List Value)(pb:Str->Bool)(hv:Sl C 1 v (l.map dY))(_hen:Jog.Enters cx.P g=true)
  (hp:∀ x∈l,∀ D:Mem,C.le D->Gives cx.P g (strV x::ca) D (.bool (pb x))) :
  Gives cx.P 83 [v,.func (.func g) #[] ⟨ca⟩] C (.int .i64 (pixF pb l 0)):=by
 obtain ⟨A0,c0,rfl,hc1,hc2,_⟩:=id hv
 have hmx:maxLen<=9223372036854775807:=by simp [maxLen]
 simp only [List.length_map] at hv hc1 ⊢
 refine Fn.it kr_ Tryz.func83 19 fun w0=>?_
 refine G.z2 1 0 1 ?_
 refine G.z4 3 0 1 7 8 ?_
 refine G.loop (fun fr C' L' μ=>∃ (i:Nat),(i<=l.length/\∀ y∈l.take i,pb y=false)/\fr=[(0,[],.slice A0 l.length c0),(1,[],.func (.func g) #[] ⟨ca⟩),(7,[],.int .i64 l.length),(8,[],.int .i64 i)]/\L'=[]/\μ=l.length-i) (h_4 0 1 7 8) ⟨0,⟨Nat.zero_le _,by simp⟩,rfl,rfl,rfl⟩ (fun fr C0' L0' m hle0 hI=>?_)
 obtain ⟨i,⟨hi,hno⟩,rfl,rfl,rfl⟩:=hI
 refine G.z5 1 0 1 7 8 9 ?_
 refine G.cd (fun h9=>?_) fun h9=>?_
 ·have hil:i<l.length:=by simpa using h9
  obtain ⟨x,hx⟩:∃ x,l[i]?=some x:=⟨l[i],List.getElem?_eq_getElem hil⟩
  refine G.z5 2 0 1 5 7 8 ?_
  refine G.rp 3 fun R hR=>?_
  refine D.ak (hv.mono mup) rfl rfl rfl rfl rfl rfl rfl rfl rfl rfl om_ (cQ hx) fl_ (fun p14 hp14=>?_)
  refine D.ac hp14 ?_
  refine D.aj (hp x (List.mem_of_getElem? hx) _ mup) ?_
  refine D.e6 0 1 5 7 8 16 hR ?_
  refine G.cd (fun h16=>?_) fun h16=>?_
  ·have hyes:pb x=true:=h16
   refine G.z1 2 4 ?_
   refine G.rf ?_
   exact ⟨by rw [pixF_hit hx hyes hno,Nat.zero_add],rfl⟩
  ·have hn:pb x=false:=h16
   refine G.rg fun R hR=>?_
   refine D.aq _ ?_
   refine D.q4 1 0 1 7 8 hR ?_
   refine G.ap (m':=l.length-(i+1)) om_ hle0 (h_4 0 1 7 8) ⟨i+1,⟨by omega,fun y hy=>by
    rw [List.take_add_one,hx] at hy
    rcases List.mem_append.1 hy with hy | hy
    ·exact hno y hy
    ·simp only [Option.toList_some,List.mem_singleton] at hy
     subst hy
     exact hn⟩,rfl,rfl,rfl⟩
 ·have hil:i=l.length:=by
   have:¬ i<l.length:=by simpa using h9
   omega
  refine G.z1 1 4 ?_
  refine G.rf ?_
  exact ⟨by rw [hil,List.take_length] at hno;rw [pixF_miss hno],rfl⟩
theorem pany_fn (C:Mem)(v:Value)(l:List Str)(g:Nat)(ca:List Value)(pb:Str->Bool)(hv:Sl C 1 v (l.map dY))(hen:Jog.Enters cx.P g=true)
  (hp:∀ x∈l,∀ D:Mem,C.le D->Gives cx.P g (strV x::ca) D (.bool (pb x))) :
  Gives cx.P 40 [v,.func (.func g) #[] ⟨ca⟩] C (.bool (l.any pb)):=by
 refine Fn.it kr_ Tryz.func40 9 fun w0=>?_
 refine G.z2 1 0 1 ?_
 refine G.rp 2 fun R hR=>?_
 refine D.aj (pindex_fn _ v l g ca pb (hv.mono mup) hen (fun x hx D hD=>hp x hx D (Mem.le.trans mup hD))) ?_
 refine D.q1 2 4 hR ?_
 refine G.rf ?_
 refine ⟨?_,rfl⟩
 congr 1
 rcases pixF_cases pb l with ⟨h1,h2⟩ | ⟨i,x,h1,h2,h3,_⟩
 ·rw [h1,List.any_eq_false.2 (fun y hy=>by rw [h2 y hy];decide)]
  rfl
 ·rw [h1,List.any_eq_true.2 ⟨x,List.mem_of_getElem? h2,h3⟩]
  exact decide_eq_true om_
theorem pwrong_fn (C:Mem)(hT:Tabs C)(s:Str)(hl:s.length<=999998):Gives cx.P 35 [strV s] C (.bool (!aY s)):=by
 refine Fn.it kr_ Tryz.func35 6 fun w0=>?_
 refine G.z1 1 0 ?_
 refine G.rp 1 fun R hR=>?_
 refine D.aj (rcheck_fn _ (hT.mono mup) s hl) ?_
 refine D.q1 2 2 hR ?_
 refine G.rf ?_
 exact ⟨by cases aY s <;> rfl,rfl⟩
def bk (n:Int)(l:List Str):Int:=if (l.length:Int)=n then chkZ (l.all aY) else 5
theorem plist_fn (C:Mem)(hT:Tabs C)(v:Value)(n:Int)(l:List Str)(hv:Sl C 1 v (l.map dY))(hs:∀ s∈l,s.length<=999998):Gives cx.P 36 [v,.int .i64 n] C (.int .i64 (bk n l)):=by
 obtain ⟨A0,c0,rfl,hc1,hc2,_⟩:=id hv
 have hmx:maxLen<=9223372036854775807:=by simp [maxLen]
 simp only [List.length_map] at hv hc1 ⊢
 refine Fn.it kr_ Tryz.func36 13 fun w0=>?_
 refine G.z2 1 0 1 ?_
 refine G.z2 5 0 5 ?_
 refine G.cd (fun h5=>?_) fun h5=>?_
 ·have hne:¬ (l.length:Int)=n:=by simpa using h5
  refine G.z1 1 4 ?_
  refine G.rf ?_
  exact ⟨by unfold bk;rw [if_neg hne],rfl⟩
 ·have heq:(l.length:Int)=n:=by simpa using h5
  refine G.rp 1 fun R hR=>?_
  refine D.aj (pany_fn _ _ l _ [] (fun s=>!aY s) (hv.mono mup) rfl (fun s hs' D hD=>pwrong_fn D (hT.mono (Mem.le.trans mup hD)) s (hs s hs'))) ?_
  refine D.q1 1 10 hR ?_
  refine G.cd (fun h10=>?_) fun h10=>?_
  ·have hno:l.all aY=false:=by
    obtain ⟨s,h1,h2⟩:=List.any_eq_true.1 (show (l.any fun s=>!aY s)=true from h10)
    exact List.all_eq_false.2 ⟨s,h1,by simpa using h2⟩
   refine G.z1 1 4 ?_
   refine G.rf ?_
   exact ⟨by unfold bk;rw [if_pos heq,hno];rfl,rfl⟩
  ·have hyes:l.all aY=true:=by
    have h1:=List.any_eq_false.1 (show (l.any fun s=>!aY s)=false from h10)
    exact List.all_eq_true.2 fun s hs=>by simpa using h1 s hs
   refine G.z1 1 4 ?_
   refine G.rf ?_
   exact ⟨by unfold bk;rw [if_pos heq,hyes];rfl,rfl⟩
end Go.Proofs.YtifolnapeolhcaaGreatDoor
namespace Go.Jog
open Go

theorem St.arrObj {w0:World}{C0:Mem}{L0:List Ent}{C:Mem}{L:List Ent}{w:World}{b e s m cap:Nat}{xs:List Value}(h:St w0 C0 L0 C (.arr (.slice (some ⟨b,0,none⟩) m cap) e s m xs::L) w) :
  ∃ cs:List Value,cs.length=cap*s/\cs.take (m*s)=xs/\m<=cap/\cap<=maxLen/\St w0 C0 L0 C (.obj b (.cells ⟨cs⟩ e (0,0))::L) w:=by
 have hown:w.ownsRow 0 e s (.slice (some ⟨b,0,none⟩) m cap) m xs:=h.sep.e _ (List.mem_cons_self ..)
 obtain ⟨_,hlm,hcm,cur,hb,hcs,htake⟩:=bI hown
 have hd:=List.pairwise_cons.1 h.sep.d
 have ho:∀ k,(Ent.obj b (.cells ⟨cur.toList⟩ e (0,0))).own k->(Ent.arr (.slice (some ⟨b,0,none⟩) m cap) e s m xs).own k:=fun k hk=>by
  simp only [Ent.own] at hk;subst hk;rfl
 refine ⟨cur.toList,by simpa using hcs,htake,hlm,hcm,⟨⟨h.sep.c,fun x hx'=>?_,List.pairwise_cons.2 ⟨fun y hy k hk=>hd.1 y hy k (ho k hk),hd.2⟩,fun k ⟨x,hx',hk⟩=>?_⟩,h.ev,h.c0,h.cn,fun k ⟨x,hx',hk⟩=>?_⟩⟩
 ·rcases List.mem_cons.1 hx' with rfl | hx'
  ·exact hb
  ·exact h.sep.e x (by simp [hx'])
 ·rcases List.mem_cons.1 hx' with rfl | hx'
  ·exact h.sep.n k ⟨_,List.mem_cons_self ..,ho k hk⟩
  ·exact h.sep.n k ⟨x,by simp [hx'],hk⟩
 ·rcases List.mem_cons.1 hx' with rfl | hx'
  ·exact h.ln k ⟨_,List.mem_cons_self ..,ho k hk⟩
  ·exact h.ln k ⟨x,by simp [hx'],hk⟩
end Go.Jog
namespace Go.Jog
open Go

end Go.Jog
namespace Go.Jog
open Go Go.MapKept

section
variable {cx:Cx} {n:Nat} {ds:List (Option Nat)} {R:Rg n ds} {its:List It} {fr:Fr} {C:Mem} {L:List Ent} {i k d:Nat} {o:Oper} {g:GL} {v:Value}
variable {kd:TypeDesc} {κ:Type} [DecidableEq κ] (K:KeyT kd κ)
theorem D.insert {t kt et j b:Nat}{x y z:Operand}{m:List (κ × Value)}{key:κ}{ti:TI}(hk:k=3)(hg:gOn ds fr o.guard=true)(hd:o.dst=none)(hop:o.op=.insert t x y z)
  (hx:ev fr [] x=some (.map (some b))) (hy:ev fr [] y=some (K.enc key)) (hz:ev fr [] z=some v) (hm:L[j]?=some (.obj b (cX K.enc m)))
  (ht:cx.T.get t=some ti) (htk:ti.k=.map kt et) (hkt:cx.P.underlying kt=some kd)
  (h:D cx R its fr C (.obj b (cX K.enc (mset m key v))::L.eraseIdx j)):D cx R ((i,k,o)::its) fr C L :=
 D.eff0 (S:=fun C' L'=>C'=C/\L'=.obj b (cX K.enc (mset m key v))::L.eraseIdx j) (by subst hk;rfl) hg (fun a hs w _ hw=>by
  have hw':=St.perm hw (aa hm)
  have hb:w.heap[b]?=some (cX K.enc m):=hw'.sep.e _ (List.mem_cons_self ..)
  have hu:=und_mapK cx.hT ht htk
  have hf:=dG K key m 0 0
  have h1:(getObj b).run cx.P w=.ok (.map ⟨eK K.enc m 0⟩ m.length) w:=Go.MapKept.run_getObj_map hb
  have h2:=run_findKey (P:=cx.P) (w:=w) hkt hf
  have hrun:(Instr.mapUpdate t (.map (some b)) (K.enc key) v).run cx.P w=.ok () { w with heap:=w.heap.setIfInBounds b (cX K.enc (mset m key v)) }:=by
   unfold Instr.mapUpdate
   simp only [Sem.run_bind,run_underlying hu,Result.andThen_ok,h1,run_checkKey hkt (K.isKey key)]
   rw [h2]
   cases hi:midx m key with
   | none =>
    obtain ⟨h3,h4⟩:=mapEs_none K (v:=v) (i:=0) hi
    simp only [Option.map_none,Result.andThen_ok]
    rw [Go.MapKept.run_setObj_map (P:=cx.P) _ hb]
    congr 2
    simp only [cX,h4,<- h3,Nat.zero_add]
    congr 2
    apply Array.ext'
    simp
   | some p =>
    obtain ⟨q,u⟩:=p
    obtain ⟨h3,h4,h5⟩:=mapEs_some K (v:=v) (i:=0) hi
    have hq:(((⟨eK K.enc m 0⟩:Array MapEntry)[0+q]?).map (·.key)).getD (K.enc key)=K.enc key:=by
     rw [Nat.zero_add]
     show (((eK K.enc m 0).toArray[q]?).map (·.key)).getD (K.enc key)=K.enc key
     rw [List.getElem?_toArray,h5];rfl
    simp only [Option.map_some,Result.andThen_ok,Sem.run_bind]
    rw [hq,run_keyThatStays (d:=kd) (K.isKey key)]
    simp only [Result.andThen_ok]
    rw [Go.MapKept.run_setObj_map (P:=cx.P) _ hb]
    congr 2
    simp only [cX,h4,<- h3,Nat.zero_add]
    congr 2
    apply Array.ext'
    simp
  have hex:(execOp a.eval o).run cx.P w=.ok .skip { w with heap:=w.heap.setIfInBounds b (cX K.enc (mset m key v)) }:=by
   have e1:execOp a.eval o=(do Instr.mapUpdate t (a.eval x) (a.eval y) (a.eval z);Pure.pure .skip:Sem Next):=by unfold execOp;rw [hop]
   rw [e1,hs _ _ hx,hs _ _ hy,hs _ _ hz]
   simp only [Sem.run_bind,hrun,Result.andThen_ok,Sem.run_pure]
  unfold Oper.wp
  rw [hex]
  have hset:=heap_set (o':=cX K.enc (mset m key v)) hb
  refine ⟨C,.obj b (cX K.enc (mset m key v))::L.eraseIdx j, ?_,Mem.le.refl _,fun h2=>by omega,St.put hw' hset.1 hset.2 (by simp) rfl rfl rfl (Nat.le_refl _),rfl,rfl⟩
  rw [hd];rfl)
  (fun C' L' _ ⟨e1,e2⟩=>by subst e1;subst e2;exact h)
end
end Go.Jog
namespace Go.Jog
open Go Go.MapKept

section
variable {cx:Cx} {n:Nat} {ds:List (Option Nat)} {R:Rg n ds} {its:List It} {fr:Fr} {C:Mem} {L:List Ent} {i k d:Nat} {o:Oper} {g:GL} {v:Value}
variable {kd:TypeDesc} {κ:Type} [DecidableEq κ] (K:KeyT kd κ)

end
end Go.Jog
namespace Go.Jog
open Go Go.MapKept

structure KeyP (P:Program)(kt:TypeId)(κ:Type)[DecidableEq κ] where
 enc:κ->Value
 check:∀ a em w,(Instr.checkKey em 10000 kt (enc a)).run P w=.ok () w
 ask:∀ x es w,(Instr.findKey kt x es).run P w=(Instr.findAsking kt x es).run P w
 same:∀ a b w,(Op.equal kt (enc a) (enc b)).run P w=.ok (decide (a=b)) w
 stays:∀ a w,(Instr.keyThatStays (enc a) (enc a)).run P w=.ok (enc a) w
section
variable {κ:Type} [DecidableEq κ] {enc:κ->Value}
end
section
variable {P:Program} {kt:TypeId} {κ:Type} [DecidableEq κ] (K:KeyP P kt κ)
end
section
variable {cx:Cx} {n:Nat} {ds:List (Option Nat)} {R:Rg n ds} {its:List It} {fr:Fr} {C:Mem} {L:List Ent} {i k d:Nat} {o:Oper} {g:GL} {v:Value}
variable {κ:Type} [DecidableEq κ]
end
end Go.Jog
