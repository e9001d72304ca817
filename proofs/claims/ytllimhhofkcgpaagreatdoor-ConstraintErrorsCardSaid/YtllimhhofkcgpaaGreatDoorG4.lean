/- Laws that the proofs of this seat share, part 4. -/
import Derived.Test.YtllimhhofkcgpaaGreatDoorG3
import Derived.Test.YtllimhhofkcgpaaGreatDoorShelf
import Derived.RangeFuncBox
import Derived.RangeFuncLeaves
import Derived.Shelf.Abstract
import Derived.WalkKit
import Derived.OwnWalkIn
import Derived.TacticsInMore
import Derived.LoopNIn
import Derived.LoopIn
import Derived.Test.YtllimhhofkcgpaaGreatDoorProg
set_option maxHeartbeats 4000000
namespace Go.Proofs.YtllimhhofkcgpaaGreatDoor
open Go Go.Jog
set_option maxRecDepth 100000

theorem g9_get {l:List Nat}{i:Nat}(h:i<l.length):l[i]?=some (g9 l i):=by rw [List.getElem?_eq_getElem h,g9_some (List.getElem?_eq_getElem h)]
theorem g9_row {l:List Nat}{i:Nat}(h:i<l.length):(l.map encU)[i]?=some (encU (g9 l i)):=by rw [List.getElem?_map,g9_get h];rfl
theorem g9_out {l:List Nat}{i:Nat}(h:l.length<=i):g9 l i=0:=by
 unfold g9;rw [List.getD_eq_getElem?_getD,List.getElem?_eq_none h];rfl
theorem B9v:B9=1000000000:=rfl
theorem plus_fn (C:Mem)(va vb:Value)(a b:List Nat)(ha:Sl C 1 va (a.map encU))(hb:Sl C 1 vb (b.map encU))(hda:Dig9 a)(hdb:Dig9 b)(hla:a.length<=10000000)(hlb:b.length<=10000000) :
  Pur cx.P 158 [va,vb] C fun u C'=>NineC C' u (val9 a+val9 b):=by
 obtain ⟨A0,c0,rfl,_⟩:=id ha
 obtain ⟨B0,d0,rfl,_⟩:=id hb
 simp only [List.length_map] at ha hb ⊢
 have hB:=B9v
 refine Fn.it kr_ Tryz.func158 53 fun w0=>?_
 refine G.z2 1 0 1 ?_
 refine G.z3 5 0 1 13 ?_
 refine G.cut (fun fr C' L' μ=>∃ (la lb:List Nat)(A:Option Addr)(c:Nat)(B:Option Addr)(d:Nat),(Sl C' 1 (.slice A la.length c) (la.map encU)/\Sl C' 1 (.slice B lb.length d) (lb.map encU)/\lb.length<=la.length/\val9 la+val9 lb=val9 a+val9 b/\Dig9 la/\Dig9 lb/\la.length<=10000000)/\fr=[(0,[],.slice A la.length c),(1,[],.slice B lb.length d)]/\L'=[]) ?_ (fun fr C13 L13 μ hle13 hI=>?_)
 ·refine G.cd (fun h13=>?_) fun h13=>?_
  ·have h13':a.length<b.length:=by
    have:(a.length:Int)<b.length:=by simpa using h13
    omega
   refine G.z2 4 0 1 ?_
   refine G.aw 0 (Mem.le.refl _) (h_2 0 1) ⟨b,a,_,_,_,_,⟨hb.mono mup,ha.mono mup,by omega,by omega,hdb,hda,hlb⟩,rfl,rfl⟩
  ·have h13':¬ a.length<b.length:=fun h=>by
    have:(a.length:Int)<b.length:=by omega
    simp [this] at h13
   refine G.aw 0 (Mem.le.refl _) (h_2 0 1) ⟨a,b,_,_,_,_,⟨ha.mono mup,hb.mono mup,by omega,rfl,hda,hdb,hla⟩,rfl,rfl⟩
 ·obtain ⟨la ,lb ,A ,c ,B ,d,⟨hsa,hsb,hll,hvv,hdla,hdlb,hla8⟩,rfl,rfl⟩:=hI
  refine G.rp 2 fun R hR=>?_
  refine D.am _ ?_
  refine D.cP rfl rfl rfl rfl rfl rfl rfl rfl rfl (Nat.zero_le _) (by show 8*(la.length+1)<=281474976710656;omega) (by simp only [maxLen];omega) fl_ (fun b19=>?_)
  refine D.q3 1 0 1 5 hR ?_;clear hR R
  refine G.z4 1 0 1 5 6 ?_
  refine G.z6 3 1 5 6 20 21 22 ?_
  refine G.loop (fun fr C' L' μ=>∃ (i:Nat)(out:List Nat)(cy:Nat)(w:Value),(i<=la.length/\out.length=i/\Dig9 out/\cy<=1/\val9 out+B9 ^ i*cy=val9 (la.take i)+val9 (lb.take i))/\fr=[(1,[],.slice B lb.length d),(5,[],w),(6,[],.int .u64 cy),(20,[],.slice A la.length c),(21,[],.int .i64 la.length),(22,[],.int .i64 i)]/\L'=[.arr w 238 1 i (out.map encU).flatten]/\μ=la.length-i) (h_6 1 5 6 20 21 22) ⟨0,[],0,_,⟨Nat.zero_le _,rfl,(fun x hx=>(by cases hx)),by omega,rfl⟩,rfl,rfl,rfl⟩ (fun fr C0' L0' m hle0 hI=>?_)
  obtain ⟨i,out,cy,w,⟨hi,hol,hod,hcy,hval⟩,rfl,rfl,rfl⟩:=hI
  refine G.z7 1 1 5 6 20 21 22 23 ?_
  refine G.cd (fun h23=>?_) fun h23=>?_
  ·have hil:i<la.length:=by simpa using h23
   have hga:=g9_lt hdla i
   have hgb:=g9_lt hdlb i
   refine G.rp 1 fun R hR=>?_
   refine D.al (hsa.mono mup) rfl rfl rfl rfl rfl rfl rfl rfl rfl rfl om_ (g9_row (i:=i) hil) fl_ (fun p25 hp25=>?_)
   refine D.aa hp25 ?_
   refine D.q8 2 1 5 6 7 8 20 21 22 hR ?_;clear hR R
   refine G.rp 2 fun R hR=>?_
   refine D.int (((cy+g9 la i:Nat):Int)) rfl rfl rfl rfl (by rw [IntKind.wrap_u64];omega) rfl rfl ?_
   refine D.q7 1 1 5 6 7 20 21 22 hR ?_;clear hR R
   refine G.z8 4 1 5 6 7 20 21 22 33 ?_
   refine G.cut (fun fr C' L' μ=>(True)/\fr=[(1,[],.slice B lb.length d),(5,[],w),(6,[],.int .u64 ((cy+g9 la i+g9 lb i:Nat):Int)),(20,[],.slice A la.length c),(21,[],.int .i64 la.length),(22,[],.int .i64 i)]/\L'=[.arr w 238 1 i (out.map encU).flatten]) ?_ (fun fr C33 L33 μ hle33 hI=>?_)
   ·refine G.cd (fun h33=>?_) fun h33=>?_
    ·have hib:i<lb.length:=by simpa using h33
     refine G.rp 3 fun R hR=>?_
     refine D.al (hsb.mono mup) rfl rfl rfl rfl rfl rfl rfl rfl rfl rfl om_ (g9_row (i:=i) hib) fl_ (fun p37 hp37=>?_)
     refine D.aa hp37 ?_
     refine D.int (((cy+g9 la i+g9 lb i:Nat):Int)) rfl rfl rfl rfl (by rw [IntKind.wrap_u64];omega) rfl rfl ?_
     refine D.q6 1 1 5 6 20 21 22 hR ?_;clear hR R
     refine G.aw 0 (Mem.le.refl _) (h_6 1 5 6 20 21 22) ⟨trivial,rfl,rfl⟩
    ·have hz:g9 lb i=0:=g9_out (by have h:¬ i<lb.length:=(by simpa using h33);omega)
     refine G.aw 0 (Mem.le.refl _) (h_6 1 5 6 20 21 22) ⟨trivial,by rw [hz];rfl,rfl⟩
   ·obtain ⟨htr,rfl,rfl⟩:=hI
    refine G.rp 2 fun R hR=>?_
    refine D.df (cy+g9 la i+g9 lb i) (B9) rfl rfl rfl rfl rfl rfl om_ rfl rfl ?_
    refine D.ah [encU ((cy+g9 la i+g9 lb i) % B9)] (fun p43 C43 hle43 hs43=>?_)
    refine D.append (j:=0) rfl rfl rfl rfl rfl rfl rfl rfl rfl rfl rfl hs43 rfl (by simp only [List.length_singleton,maxLen];omega) (by show (i+1)*8<=_;omega) fl_ (fun v44=>?_)
    refine D.q6 1 1 5 6 20 21 22 hR ?_;clear hR R
    refine G.rp 1 fun R hR=>?_
    refine D.quoN (cy+g9 la i+g9 lb i) (B9) rfl rfl rfl rfl rfl rfl om_ (.inr ⟨rfl,by omega⟩) rfl rfl ?_
    refine D.q6 1 1 5 6 20 21 22 hR ?_;clear hR R
    refine G.rg fun R hR=>?_
    refine D.am _ ?_
    refine D.q6 1 1 5 6 20 21 22 hR ?_;clear hR R
    have ecy:cy+g9 la i+g9 lb i=g9 la i+g9 lb i+cy:=by omega
    refine G.aY (L':=[.arr v44 238 1 (i+1) ((out++[(g9 la i+g9 lb i+cy) % B9]).map encU).flatten]) (by rw [ecy];simp [encU]) ?_
    rw [ecy]
    refine G.ax (m':=la.length-(i+1)) om_ mup (h_6 1 5 6 20 21 22) ⟨i+1,out++[(g9 la i+g9 lb i+cy) % B9],(g9 la i+g9 lb i+cy) / B9,v44,⟨by omega,by simp [hol],hod.snoc (Nat.mod_lt _ (by decide)),carry9_le hga hgb hcy,add9_step hol hval⟩,rfl,rfl,rfl⟩
  ·have hil:i=la.length:=by
    have:¬ i<la.length:=by simpa using h23
    omega
   refine G.aI [(4,3)] rfl (fun R hR=>?_)
   refine D.ps 2 ?_
   refine D.ah [encU cy] (fun p50 C50 hle50 hs50=>?_)
   refine D.append (j:=0) rfl rfl rfl rfl rfl rfl rfl rfl rfl rfl rfl hs50 rfl (by simp only [List.length_singleton,maxLen];omega) (by show (i+1)*8<=_;omega) fl_ (fun v51=>?_)
   refine D.call (d7 _ _ (out++[cy]) (n:=i+1) (by simp [hol])) rfl (.inr (by decide)) rfl rfl rfl rfl rfl rfl (by rw [List.map_append,List.flatten_append];exact List.Perm.refl _) fl_ (fun v52 C52 L52 hle52 hq52=>?_)
   obtain ⟨rfl,hu⟩:=hq52
   refine D.q1 1 4 hR ?_;clear hR R
   refine G.rf ?_
   refine ⟨rfl,cut9 (out++[cy]),eG (hod.snoc (Nat.lt_of_le_of_lt hcy (by decide))), ?_,hu⟩
   rw [eF,val9_snoc,hol,hval,hil,List.take_length,List.take_of_length_le hll,hvv]
theorem minus_fn (C:Mem)(va vb:Value)(a b:List Nat)(ha:Sl C 1 va (a.map encU))(hb:Sl C 1 vb (b.map encU))(hda:Dig9 a)(hdb:Dig9 b)(hla:a.length<=10000000)(hlb:b.length<=a.length)(hle:val9 b<=val9 a) :
  Pur cx.P 152 [va,vb] C fun u C'=>NineC C' u (val9 a-val9 b):=by
 obtain ⟨A0,c0,rfl,_⟩:=id ha
 obtain ⟨B0,d0,rfl,_⟩:=id hb
 simp only [List.length_map] at ha hb ⊢
 have hB:=B9v
 refine Fn.it kr_ Tryz.func152 45 fun w0=>?_
 refine G.z2 1 0 1 ?_
 refine G.rp 2 fun R hR=>?_
 refine D.cP rfl rfl rfl rfl rfl rfl rfl rfl rfl (Nat.zero_le _) (by show 8*a.length<=281474976710656;omega) (by simp only [maxLen];omega) fl_ (fun b12=>?_)
 refine D.q3 1 0 1 5 hR ?_;clear hR R
 refine G.z4 1 0 1 5 6 ?_
 refine G.z6 3 1 5 6 13 14 15 ?_
 refine G.loop (fun fr C' L' μ=>∃ (i:Nat)(out:List Nat)(cy:Nat)(w:Value),(i<=a.length/\out.length=i/\Dig9 out/\cy<=1/\val9 out+val9 (b.take i)=val9 (a.take i)+B9 ^ i*cy)/\fr=[(1,[],.slice B0 b.length d0),(5,[],w),(6,[],.int .u64 cy),(13,[],.slice A0 a.length c0),(14,[],.int .i64 a.length),(15,[],.int .i64 i)]/\L'=[.arr w 238 1 i (out.map encU).flatten]/\μ=a.length-i) (h_6 1 5 6 13 14 15) ⟨0,[],0,_,⟨Nat.zero_le _,rfl,(fun x hx=>(by cases hx)),by omega,rfl⟩,rfl,rfl,rfl⟩ (fun fr C0' L0' m hle0 hI=>?_)
 obtain ⟨i,out,cy,w,⟨hi,hol,hod,hcy,hval⟩,rfl,rfl,rfl⟩:=hI
 refine G.z7 1 1 5 6 13 14 15 16 ?_
 refine G.cd (fun h16=>?_) fun h16=>?_
 ·have hil:i<a.length:=by simpa using h16
  have hga:=g9_lt hda i
  have hgb:=g9_lt hdb i
  refine G.rp 1 fun R hR=>?_
  refine D.al (ha.mono mup) rfl rfl rfl rfl rfl rfl rfl rfl rfl rfl om_ (g9_row (i:=i) hil) fl_ (fun p18 hp18=>?_)
  refine D.aa hp18 ?_
  refine D.q8 2 1 5 6 7 8 13 14 15 hR ?_;clear hR R
  refine G.z8 2 1 5 7 8 9 13 14 15 ?_
  refine G.z9 4 1 5 7 8 9 13 14 15 24 ?_
  refine G.cut (fun fr C' L' μ=>(True)/\fr=[(1,[],.slice B0 b.length d0),(5,[],w),(8,[],.int .u64 (g9 a i)),(9,[],.int .u64 ((cy+g9 b i:Nat):Int)),(13,[],.slice A0 a.length c0),(14,[],.int .i64 a.length),(15,[],.int .i64 i)]/\L'=[.arr w 238 1 i (out.map encU).flatten]) ?_ (fun fr C24 L24 μ hle24 hI=>?_)
  ·refine G.cd (fun h24=>?_) fun h24=>?_
   ·have hib:i<b.length:=by simpa using h24
    refine G.rp 3 fun R hR=>?_
    refine D.al (hb.mono mup) rfl rfl rfl rfl rfl rfl rfl rfl rfl rfl om_ (g9_row (i:=i) hib) fl_ (fun p28 hp28=>?_)
    refine D.aa hp28 ?_
    refine D.int (((cy+g9 b i:Nat):Int)) rfl rfl rfl rfl (by rw [IntKind.wrap_u64];omega) rfl rfl ?_
    refine D.q7 1 1 5 8 9 13 14 15 hR ?_;clear hR R
    refine G.aw 0 (Mem.le.refl _) (h_7 1 5 8 9 13 14 15) ⟨trivial,rfl,rfl⟩
   ·have hz:g9 b i=0:=g9_out (by have h:¬ i<b.length:=(by simpa using h24);omega)
    refine G.aw 0 (Mem.le.refl _) (h_7 1 5 8 9 13 14 15) ⟨trivial,by rw [hz];rfl,rfl⟩
  ·obtain ⟨htr,rfl,rfl⟩:=hI
   refine G.z8 1 1 5 6 8 9 13 14 15 ?_
   refine G.z9 3 1 5 6 8 9 13 14 15 33 ?_
   refine G.cut (fun fr C' L' μ=>(True)/\fr=[(1,[],.slice B0 b.length d0),(5,[],w),(6,[],.int .u64 ((bor9 (g9 a i) (g9 b i) cy:Nat):Int)),(8,[],.int .u64 ((g9 a i+B9*bor9 (g9 a i) (g9 b i) cy:Nat):Int)),(9,[],.int .u64 ((cy+g9 b i:Nat):Int)),(13,[],.slice A0 a.length c0),(14,[],.int .i64 a.length),(15,[],.int .i64 i)]/\L'=[.arr w 238 1 i (out.map encU).flatten]) ?_ (fun fr C33 L33 μ hle33 hI=>?_)
   ·refine G.cd (fun h33=>?_) fun h33=>?_
    ·have hbo:bor9 (g9 a i) (g9 b i) cy=1:=by
      have:(g9 a i:Int)<((cy+g9 b i:Nat):Int):=by simpa using h33
      unfold bor9;rw [if_pos om_]
     refine G.rp 1 fun R hR=>?_
     refine D.int (((g9 a i+B9*1:Nat):Int)) rfl rfl rfl rfl (by rw [IntKind.wrap_u64];omega) rfl rfl ?_
     refine D.q8 2 1 5 6 8 9 13 14 15 hR ?_;clear hR R
     refine G.aw 0 (Mem.le.refl _) (h_8 1 5 6 8 9 13 14 15) ⟨trivial,by rw [hbo];rfl,rfl⟩
    ·have hbo:bor9 (g9 a i) (g9 b i) cy=0:=by
      have:¬ (g9 a i:Int)<((cy+g9 b i:Nat):Int):=by simpa using h33
      unfold bor9;rw [if_neg om_]
     refine G.aw 0 (Mem.le.refl _) (h_8 1 5 6 8 9 13 14 15) ⟨trivial,by rw [hbo];rfl,rfl⟩
   ·obtain ⟨htr2,rfl,rfl⟩:=hI
    refine G.rp 3 fun R hR=>?_
    have hbl:bor9 (g9 a i) (g9 b i) cy<=1:=bor9_le _ _ _
    have hbs:cy+g9 b i<=g9 a i+B9*bor9 (g9 a i) (g9 b i) cy:=by
     unfold bor9;split <;> omega
    refine D.int (((dif9 (g9 a i) (g9 b i) cy:Nat):Int)) rfl rfl rfl rfl (by rw [IntKind.wrap_u64];unfold dif9;rw [hB] at hbs ⊢;omega) rfl rfl ?_
    refine D.ah [encU (dif9 (g9 a i) (g9 b i) cy)] (fun p40 C40 hle40 hs40=>?_)
    refine D.append (j:=0) rfl rfl rfl rfl rfl rfl rfl rfl rfl rfl rfl hs40 rfl (by simp only [List.length_singleton,maxLen];omega) (by show (i+1)*8<=_;omega) fl_ (fun v41=>?_)
    refine D.q6 1 1 5 6 13 14 15 hR ?_;clear hR R
    refine G.rg fun R hR=>?_
    refine D.am _ ?_
    refine D.q6 1 1 5 6 13 14 15 hR ?_;clear hR R
    refine G.aY (L':=[.arr v41 238 1 (i+1) ((out++[dif9 (g9 a i) (g9 b i) cy]).map encU).flatten]) (by simp [encU]) ?_
    refine G.ax (m':=a.length-(i+1)) om_ mup (h_6 1 5 6 13 14 15) ⟨i+1,out++[dif9 (g9 a i) (g9 b i) cy],bor9 (g9 a i) (g9 b i) cy,v41,⟨by omega,by simp [hol],hod.snoc (dif9_lt hga hgb hcy),bor9_le _ _ _,sub9_step hdb hcy hol hval⟩,rfl,rfl,rfl⟩
 ·have hil:i=a.length:=by
   have:¬ i<a.length:=by simpa using h16
   omega
  refine G.aI [(1,3)] rfl (fun R hR=>?_)
  refine D.ac ?_
  refine D.call (d7 _ _ out (n:=i) hol) rfl (.inr (by decide)) rfl rfl rfl rfl rfl rfl (List.Perm.refl _) fl_ (fun v44 C44 L44 hle44 hq44=>?_)
  obtain ⟨rfl,hu⟩:=hq44
  refine D.q1 1 4 hR ?_;clear hR R
  refine G.rf ?_
  refine ⟨rfl,cut9 out,eG hod, ?_,hu⟩
  rw [hil,List.take_length,List.take_of_length_le hlb] at hval
  have h0:=val9_lt hod
  rw [hol,hil] at h0
  have hc0:cy=0:=by
   rcases Nat.le_one_iff_eq_zero_or_eq_one.1 hcy with h | h
   ·exact h
   ·rw [h,Nat.mul_one] at hval;omega
  rw [hc0,Nat.mul_zero] at hval
  rw [eF]
  omega

abbrev qU (g c n:Nat):Value:=.slice (some ⟨g,0,none⟩) n c
theorem zrow_U (n:Nat):zrow ([.int .u64 0]:List Value) n=((List.replicate n 0).map encU).flatten:=by
 rw [cY,List.map_replicate];rfl
theorem g9_set_ne {l:List Nat}{i j z:Nat}(h:i≠j):g9 (l.set i z) j=g9 l j:=by
 unfold g9;rw [List.getD_eq_getElem?_getD,List.getD_eq_getElem?_getD,List.getElem?_set_ne h]
theorem g9_zeros (n j:Nat):g9 (List.replicate n 0) j=0:=by
 unfold g9;rw [List.getD_eq_getElem?_getD,List.getElem?_replicate];split <;> rfl
theorem times_fn (C:Mem)(va vb:Value)(a b:List Nat)(ha:Sl C 1 va (a.map encU))(hb:Sl C 1 vb (b.map encU))(hda:Dig9 a)(hdb:Dig9 b)(hla:a.length<=1000000)(hlb:b.length<=1000000) :
  Pur cx.P 135 [va,vb] C fun u C'=>NineC C' u (val9 a*val9 b):=by
 obtain ⟨A0,c0,rfl,_⟩:=id ha
 obtain ⟨B0,d0,rfl,_⟩:=id hb
 simp only [List.length_map] at ha hb ⊢
 have hB:=B9v
 obtain ⟨N,hN⟩:∃ N,a.length+b.length+1=N:=⟨_,rfl⟩
 refine Fn.it kr_ Tryz.func135 79 fun w0=>?_
 refine G.z2 1 0 1 ?_
 refine G.rp 4 fun R hR=>?_
 refine D.cG (((a.length+b.length:Nat):Int)) rfl rfl rfl rfl om_ om_ om_ rfl rfl ?_
 refine D.cG (((N:Nat):Int)) rfl rfl rfl rfl om_ om_ om_ rfl rfl ?_
 refine D.cP rfl rfl rfl rfl rfl rfl rfl rfl rfl (Nat.le_refl _) (by show 8*N<=281474976710656;omega) (by simp only [maxLen];omega) fl_ (fun b18=>?_)
 refine D.q3 1 0 1 5 hR ?_;clear hR R
 refine G.z5 3 1 5 19 20 21 ?_
 refine G.aY (L':=[.arr (qU b18 N N) 238 1 N ((List.replicate N 0).map encU).flatten]) (by rw [<- zrow_U];rfl) ?_
 refine G.loop (fun fr C' L' μ=>∃ (i:Nat)(o:List Nat),(i<=a.length/\o.length=N/\Dig9 o/\val9 o=val9 (a.take i)*val9 b/\∀ j,i+b.length<=j->g9 o j=0)/\fr=[(1,[],.slice B0 b.length d0),(5,[],qU b18 N N),(19,[],.slice A0 a.length c0),(20,[],.int .i64 a.length),(21,[],.int .i64 i)]/\L'=[.arr (qU b18 N N) 238 1 N (o.map encU).flatten]/\μ=a.length-i) (h_5 1 5 19 20 21) ⟨0,List.replicate N 0,⟨Nat.zero_le _,List.length_replicate,(fun x hx=>by rw [List.eq_of_mem_replicate hx];decide),by rw [val9_zeros (fun x hx=>List.eq_of_mem_replicate hx)];simp [val9],fun j _=>g9_zeros _ j⟩,rfl,rfl,rfl⟩ (fun fr C0' L0' m hle0 hI=>?_)
 obtain ⟨i,o,⟨hi,hol,hod,hval,hz⟩,rfl,rfl,rfl⟩:=hI
 refine G.z6 1 1 5 19 20 21 22 ?_
 refine G.cd (fun h22=>?_) fun h22=>?_
 ·have hil:i<a.length:=by simpa using h22
  have hx:=g9_lt hda i
  refine G.rp 1 fun R hR=>?_
  refine D.al (ha.mono mup) rfl rfl rfl rfl rfl rfl rfl rfl rfl rfl om_ (g9_row (i:=i) hil) fl_ (fun p24 hp24=>?_)
  refine D.aa hp24 ?_
  refine D.q7 2 1 5 6 7 19 20 21 hR ?_;clear hR R
  refine G.z8 1 1 5 6 7 8 19 20 21 ?_
  refine G.z11 3 1 5 6 7 8 19 20 21 26 27 28 ?_
  refine G.loop (fun fr C' L' μ=>∃ (k:Nat)(q:List Nat)(c:Nat),(k<=b.length/\q.length=N/\Dig9 q/\c<B9/\val9 q+B9 ^ (i+k)*c=val9 o+B9 ^ i*(g9 a i*val9 (b.take k))/\∀ j,i+b.length<=j->g9 q j=0)/\fr=[(1,[],.slice B0 b.length d0),(5,[],qU b18 N N),(6,[],.int .i64 i),(7,[],.int .u64 (g9 a i)),(8,[],.int .u64 c),(19,[],.slice A0 a.length c0),(20,[],.int .i64 a.length),(21,[],.int .i64 i),(26,[],.slice B0 b.length d0),(27,[],.int .i64 b.length),(28,[],.int .i64 k)]/\L'=[.arr (qU b18 N N) 238 1 N (q.map encU).flatten]/\μ=b.length-k) (h_11 1 5 6 7 8 19 20 21 26 27 28) ⟨0,o,0,⟨Nat.zero_le _,hol,hod,by decide,by simp [val9],hz⟩,rfl,rfl,rfl⟩ (fun fr C1' L1' m hle1 hI=>?_)
  obtain ⟨k,q,c,⟨hk,hql,hqd,hc,hqv,hqz⟩,rfl,rfl,rfl⟩:=hI
  refine G.z12 1 1 5 6 7 8 19 20 21 26 27 28 29 ?_
  refine G.cd (fun h29=>?_) fun h29=>?_
  ·have hkl:k<b.length:=by simpa using h29
   have hy:=g9_lt hdb k
   have ho:=g9_lt hqd (i+k)
   have hget:q[i+k]?=some (g9 q (i+k)):=g9_get om_
   have hbound:=mul9_bound hc hx hy ho
   rw [show B9*B9=1000000000000000000 from rfl] at hbound
   refine G.rp 1 fun R hR=>?_
   refine D.al (hb.mono mup) rfl rfl rfl rfl rfl rfl rfl rfl rfl rfl om_ (g9_row (i:=k) hkl) fl_ (fun p31 hp31=>?_)
   refine D.aa hp31 ?_
   refine D.q13 2 1 5 6 7 8 9 10 19 20 21 26 27 28 hR ?_;clear hR R
   refine G.rp 4 fun R hR=>?_
   refine D.cG (((i+k:Nat):Int)) rfl rfl rfl rfl om_ om_ om_ rfl rfl ?_
   refine D.ce ((i+k)*1) rfl rfl rfl rfl rfl rfl rfl rfl rfl rfl (fun _=>⟨by omega,by omega,rfl⟩) rfl rfl ?_
   refine D.loadArr (.head _) rfl rfl rfl rfl rfl rfl (fun _=>(by rw [row_read cN hget];rfl)) rfl rfl ?_
   refine D.ps 2 ?_
   refine D.int (((g9 a i*g9 b k:Nat):Int)) rfl rfl rfl rfl (by rw [<- Int.natCast_mul,IntKind.wrap_u64];omega) rfl rfl ?_
   refine D.int (((g9 q (i+k)+g9 a i*g9 b k:Nat):Int)) rfl rfl rfl rfl (by rw [IntKind.wrap_u64];omega) rfl rfl ?_
   refine D.int (((c+g9 a i*g9 b k+g9 q (i+k):Nat):Int)) rfl rfl rfl rfl (by rw [IntKind.wrap_u64];omega) rfl rfl ?_
   refine D.q12 1 1 5 6 7 8 9 19 20 21 26 27 28 hR ?_;clear hR R
   refine G.rp 3 fun R hR=>?_
   refine D.cG (((i+k:Nat):Int)) rfl rfl rfl rfl om_ om_ om_ rfl rfl ?_
   refine D.ac ?_
   refine D.df (c+g9 a i*g9 b k+g9 q (i+k)) (B9) rfl rfl rfl rfl rfl rfl om_ rfl rfl ?_
   refine D.ce ((i+k)*1) rfl rfl rfl rfl rfl rfl rfl rfl rfl rfl (fun _=>⟨by omega,by omega,rfl⟩) rfl rfl ?_
   refine D.bH (j:=0) rfl rfl rfl rfl rfl rfl rfl rfl rfl rfl rfl (by show (i+k)*1+1<=_;rw [el cN,hql];omega) ?_
   refine D.e11 1 5 6 7 8 19 20 21 26 27 28 hR ?_;clear hR R
   refine G.rp 1 fun R hR=>?_
   refine D.quoN (c+g9 a i*g9 b k+g9 q (i+k)) (B9) rfl rfl rfl rfl rfl rfl om_ (.inr ⟨rfl,by omega⟩) rfl rfl ?_
   refine D.q11 1 1 5 6 7 8 19 20 21 26 27 28 hR ?_;clear hR R
   refine G.rg fun R hR=>?_
   refine D.am _ ?_
   refine D.q11 1 1 5 6 7 8 19 20 21 26 27 28 hR ?_;clear hR R
   refine G.aY (L':=[.arr (qU b18 N N) 238 1 N ((q.set (i+k) ((c+g9 a i*g9 b k+g9 q (i+k)) % B9)).map encU).flatten]) (by rw [<- d9 cN _ (by omega:i+k<q.length)];rfl) ?_
   refine G.ax (m':=b.length-(k+1)) om_ mup (h_11 1 5 6 7 8 19 20 21 26 27 28) ⟨k+1,q.set (i+k) ((c+g9 a i*g9 b k+g9 q (i+k)) % B9),(c+g9 a i*g9 b k+g9 q (i+k)) / B9,⟨by omega,by simp [hql],hqd.set (Nat.mod_lt _ (by decide)),carry9_lt hc hx hy ho,mul9_step hget rfl hqv,fun j hj=>by rw [g9_set_ne om_];exact hqz j hj⟩,rfl,rfl,rfl⟩
  ·have hkl:k=b.length:=by
    have:¬ k<b.length:=by simpa using h29
    omega
   refine G.rp 3 fun R hR=>?_
   refine D.cG (((i+b.length:Nat):Int)) rfl rfl rfl rfl om_ om_ om_ rfl rfl ?_
   refine D.q7 1 1 5 8 11 19 20 21 hR ?_;clear hR R
   refine G.loop (fun fr C' L' μ=>∃ (m:Nat)(q2:List Nat)(c2:Nat),(i+b.length<=m/\m<=i+b.length+1/\q2.length=N/\Dig9 q2/\c2<B9/\(m=i+b.length+1->c2=0)/\(m=i+b.length->g9 q2 m=0)/\val9 q2+B9 ^ m*c2=val9 o+B9 ^ i*(g9 a i*val9 b)/\∀ j,i+b.length+1<=j->g9 q2 j=0)/\fr=[(1,[],.slice B0 b.length d0),(5,[],qU b18 N N),(8,[],.int .u64 c2),(11,[],.int .i64 m),(19,[],.slice A0 a.length c0),(20,[],.int .i64 a.length),(21,[],.int .i64 i)]/\L'=[.arr (qU b18 N N) 238 1 N (q2.map encU).flatten]/\μ=2-(m-(i+b.length))) (h_7 1 5 8 11 19 20 21) ⟨i+b.length,q,c,⟨Nat.le_refl _,by omega,hql,hqd,hc,fun h=>by omega,fun _=>hqz _ (Nat.le_refl _),by rw [hkl,List.take_length] at hqv;exact hqv,fun j hj=>hqz j om_⟩,rfl,rfl,rfl⟩ (fun fr C2' L2' m hle2 hI=>?_)
   obtain ⟨m,q2,c2,⟨hm1,hm2,hql2,hqd2,hc2,hcz,hqm,hqv2,hqz2⟩,rfl,rfl,rfl⟩:=hI
   refine G.z8 2 1 5 8 11 19 20 21 60 ?_
   refine G.cd (fun h60=>?_) fun h60=>?_
   ·have hc0:0<c2:=by
     have:(0:Int)<(c2:Int):=by simpa using h60
     omega
    have hm3:m=i+b.length:=by
     rcases Nat.lt_or_ge m (i+b.length+1) with h | h
     ·omega
     ·have:=hcz om_;omega
    have hg0:=hqm hm3
    have hget2:q2[m]?=some (g9 q2 m):=g9_get om_
    refine G.rp 3 fun R hR=>?_
    refine D.ce (m*1) rfl rfl rfl rfl rfl rfl rfl rfl rfl rfl (fun _=>⟨by omega,by omega,rfl⟩) rfl rfl ?_
    refine D.loadArr (.head _) rfl rfl rfl rfl rfl rfl (fun _=>(by rw [row_read cN hget2];rfl)) rfl rfl ?_
    refine D.int (((c2+g9 q2 m:Nat):Int)) rfl rfl rfl rfl (by rw [IntKind.wrap_u64];omega) rfl rfl ?_
    refine D.q7 1 1 5 8 11 19 20 21 hR ?_;clear hR R
    refine G.rp 3 fun R hR=>?_
    refine D.df (c2+g9 q2 m) (B9) rfl rfl rfl rfl rfl rfl om_ rfl rfl ?_
    refine D.ce (m*1) rfl rfl rfl rfl rfl rfl rfl rfl rfl rfl (fun _=>⟨by omega,by omega,rfl⟩) rfl rfl ?_
    refine D.bH (j:=0) rfl rfl rfl rfl rfl rfl rfl rfl rfl rfl rfl (by show m*1+1<=_;rw [el cN,hql2];omega) ?_
    refine D.e7 1 5 8 11 19 20 21 hR ?_;clear hR R
    refine G.rp 1 fun R hR=>?_
    refine D.quoN (c2+g9 q2 m) (B9) rfl rfl rfl rfl rfl rfl om_ (.inr ⟨rfl,by omega⟩) rfl rfl ?_
    refine D.q7 1 1 5 8 11 19 20 21 hR ?_;clear hR R
    refine G.rp 1 fun R hR=>?_
    refine D.am _ ?_
    refine D.q7 1 1 5 8 11 19 20 21 hR ?_;clear hR R
    have hcm:(c2+g9 q2 m) % B9=c2:=by rw [hg0,Nat.add_zero];exact Nat.mod_eq_of_lt hc2
    have hcd:(c2+g9 q2 m) / B9=0:=by rw [hg0,Nat.add_zero];exact Nat.div_eq_of_lt hc2
    refine G.aY (L':=[.arr (qU b18 N N) 238 1 N ((q2.set m c2).map encU).flatten]) (by rw [hcm,<- d9 cN _ (by omega:m<q2.length)];rfl) ?_
    rw [hcd]
    refine G.ax (m':=2-(m+1-(i+b.length))) om_ mup (h_7 1 5 8 11 19 20 21) ⟨m+1,q2.set m c2,0,⟨by omega,by omega,by simp [hql2],hqd2.set hc2,by decide,fun _=>rfl,fun h=>by omega,by
     have h1:=val9_set (z:=c2) hget2
     rw [hg0] at h1
     omega,fun j hj=>by rw [g9_set_ne om_];exact hqz2 j hj⟩,rfl,rfl,rfl⟩
   ·have hc0:c2=0:=by
     have:¬ (0:Int)<(c2:Int):=by simpa using h60
     omega
    refine G.rg fun R hR=>?_
    refine D.am _ ?_
    refine D.q5 1 1 5 19 20 21 hR ?_;clear hR R
    refine G.ax (m':=a.length-(i+1)) om_ mup (h_5 1 5 19 20 21) ⟨i+1,q2,⟨by omega,hql2,hqd2,by
     rw [hc0,Nat.mul_zero,Nat.add_zero] at hqv2
     rw [val9_tk,Nat.add_mul,<- hval,Nat.mul_assoc]
     exact hqv2,fun j hj=>hqz2 j om_⟩,rfl,rfl,rfl⟩
 ·have hil:i=a.length:=by
   have:¬ i<a.length:=by simpa using h22
   omega
  refine G.aI [(1,3)] rfl (fun R hR=>?_)
  refine D.ac ?_
  refine D.call (d7 _ _ o hol) rfl (.inr (by decide)) rfl rfl rfl rfl rfl rfl (List.Perm.refl _) fl_ (fun v78 C78 L78 hle78 hq78=>?_)
  obtain ⟨rfl,hu⟩:=hq78
  refine D.q1 1 4 hR ?_;clear hR R
  refine G.rf ?_
  refine ⟨rfl,cut9 o,eG hod, ?_,hu⟩
  rw [eF,hval,hil,List.take_length]

theorem can9_short {l:List Nat}(h:Can9 l){m:Nat}(hv:val9 l<B9 ^ m):l.length<=m:=by
 rcases Nat.lt_or_ge m l.length with h1 | h1
 ·have h2:=can9_low h om_
  have h3:B9 ^ m<=B9 ^ (l.length-1):=Nat.pow_le_pow_right (by decide) om_
  omega
 ·exact h1
theorem NineC.get {C:Mem}{v:Value}{n:Nat}(h:NineC C v n){m:Nat}(hn:n<B9 ^ m):∃ l,Can9 l/\val9 l=n/\l.length<=m/\Sl C 1 v (l.map encU):=by
 obtain ⟨l,h1,h2,h3⟩:=h
 exact ⟨l,h1,h2,can9_short h1 (by rw [h2];exact hn),h3⟩
theorem NineC.zero (C:Mem):NineC C (.slice none 0 0) 0:=⟨[],⟨(fun x hx=>(by cases hx)),by simp⟩,rfl,Sl.nil C 1⟩
theorem NineC.form {C:Mem}{v:Value}{n:Nat}(h:NineC C v n):∃ A m c,v=.slice A m c:=by
 obtain ⟨l,_,_,A,c,h,_⟩:=h
 exact ⟨A,_,c,h⟩
theorem bT {m n k:Nat}(h:m<B9 ^ n)(hk:n<=k):m<B9 ^ k:=Nat.lt_of_lt_of_le h (Nat.pow_le_pow_right (by decide) hk)
theorem order_n (C:Mem){u v:Value}{m n:Nat}(hu:NineC C u m)(hv:NineC C v n):Gives cx.P 149 [u,v] C (.int .i64 (ordZ m n)):=by
 obtain ⟨a,h1,h2,h3⟩:=hu
 obtain ⟨b,h4,h5,h6⟩:=hv
 rw [<- h2,<- h5]
 exact order9_fn C u v a b h3 h6 h1 h4
theorem plus_n (C:Mem){u v:Value}{m n k:Nat}(hu:NineC C u m)(hv:NineC C v n)(hm:m<B9 ^ k)(hn:n<B9 ^ k)(hk:k<=1000000):Pur cx.P 158 [u,v] C fun w D=>NineC D w (m+n):=by
 obtain ⟨a,h1,h2,h3,h4⟩:=hu.get hm
 obtain ⟨b,h5,h6,h7,h8⟩:=hv.get hn
 rw [<- h2,<- h6]
 exact plus_fn C u v a b h4 h8 h1.1 h5.1 om_ om_
theorem minus_n (C:Mem){u v:Value}{m n k:Nat}(hu:NineC C u m)(hv:NineC C v n)(hm:m<B9 ^ k)(hle:n<=m)(hk:k<=1000000):Pur cx.P 152 [u,v] C fun w D=>NineC D w (m-n):=by
 obtain ⟨a,h1,h2,h3,h4⟩:=hu.get hm
 obtain ⟨b,h5,h6,h7⟩:=hv
 rw [<- h2,<- h6]
 refine minus_fn C u v a b h4 h7 h1.1 h5.1 om_ ?_ om_
 rcases Nat.lt_or_ge a.length b.length with h | h
 ·have:=len9_lt h1.1 h5 h;omega
 ·exact h
theorem times_n (C:Mem){u v:Value}{m n k:Nat}(hu:NineC C u m)(hv:NineC C v n)(hm:m<B9 ^ k)(hn:n<B9 ^ k)(hk:k<=1000000):Pur cx.P 135 [u,v] C fun w D=>NineC D w (m*n):=by
 obtain ⟨a,h1,h2,h3,h4⟩:=hu.get hm
 obtain ⟨b,h5,h6,h7,h8⟩:=hv.get hn
 rw [<- h2,<- h6]
 exact times_fn C u v a b h4 h8 h1.1 h5.1 om_ om_
theorem trim_n (C:Mem){u:Value}{l:List Nat}(hd:Dig9 l)(hu:Sl C 1 u (l.map encU)):Pur cx.P 148 [u] C fun w D=>NineC D w (val9 l) :=
 (trim9_fn C u l hu).mono fun _w _D _L' _ ⟨h1,h2⟩=>⟨h1,cut9 l,eG hd,eF l,h2⟩
theorem small_n (C:Mem){u:Value}{m d k:Nat}(hu:NineC C u m)(hm:m<B9 ^ k)(hd:d<B9)(hk:k<=999999):Pur cx.P 151 [u,.int .u64 d] C fun w D=>NineC D w (m*d):=by
 obtain ⟨A,n,c,rfl⟩:=hu.form
 refine Fn.it kr_ Tryz.func151 10 fun w0=>?_
 refine G.z2 1 0 1 ?_
 refine G.rp 2 fun R hR=>?_
 refine D.ah [encU d] (fun p7 C7 hle7 hs7=>?_)
 refine D.aP (trim_n _ (l:=[d]) (fun x hx=>by rw [List.mem_singleton.1 hx];exact hd) hs7) rfl rfl rfl rfl rfl rfl rfl fl_ (fun v8 C8 hle8 hq8=>?_)
 refine D.aP (times_n (k:=k+1) _ (hu.mono mup) hq8 (bT hm om_) (by show d+B9*0<_;rw [Nat.pow_succ];have:0<B9 ^ k:=Nat.pow_pos (by decide);have h2:=Nat.mul_le_mul_right B9 this;omega) om_) rfl rfl rfl rfl rfl rfl rfl fl_ (fun v9 C9 hle9 hq9=>?_)
 refine D.q1 1 4 hR ?_
 refine G.rf ?_
 refine ⟨rfl, ?_⟩
 have e:val9 [d]=d:=by show d+B9*0=d;omega
 rw [e] at hq9
 exact hq9
open Go Go.Jog Go.RowKit Go.Shelf
attribute [local go_sem] Oper.semAt_some

set_option maxRecDepth 100000 in
theorem backU_in (l Bs b off len cap:Nat)(zs:Nat->Int)(hlen:len<1000000)(J:Nat->World->Prop)
  (hJ:∀ k W,J k W->W.cell? ⟨Bs,0,none⟩=some (.slice (some ⟨b,off,none⟩) len cap)/\∀ j,j<len->W.cell? ⟨b,off+j,none⟩=some (.int .u64 (zs j)))
  (hY:∀ k W,J k W->k<len->YieldAt Fence.wide 1 Tryz.prog l #[.int .i64 ((len-1-k:Nat):Int),.int .u64 (zs (len-1-k))] W fun e W'=>e=.returned (.bool true)/\J (k+1) W')
  (W:World) (h0:J 0 W) :
  CallsIn Fence.wide 2 Tryz.prog 183 #[.func (.yield l) #[] #[],.pointer (some ⟨Bs,0,none⟩)] W fun e W'=>(∃ v,e=.returned v)/\J len W':=by
 refine callsIn_of_wp Tryz.func183 rfl trivial ?_ rfl
 simp only [Tryz.ntmps183,List.size_toArray,List.length_cons,List.length_nil,Nat.reduceAdd,Nat.reduceSub,Array.replicate_succ,Array.replicate_zero,List.push_toArray,List.append_toArray,List.nil_append,List.cons_append]
 have hBs:=(hJ 0 W h0).1
 gi_wp2
 gi_loopw [3] (fun i wr=>∃ k:Nat,k<=len/\i=.int .i64 ((len:Int)-1-k)/\J k wr) (fun i _=>(intOf i+1).toNat)
 case atStart=>exact ⟨0,Nat.zero_le _,by simp,h0⟩
 case round =>
  obtain ⟨k,hk,rfl,hJs⟩:=hrel
  obtain ⟨hB2,hcx⟩:=hJ k wr hJs
  by_cases hlt:k<len
  ·obtain ⟨fn,tmps,assign,body,hy,hR⟩:=hY k wr hJs hlt
   have hcx':=hcx (len-1-k) om_
   have e1:((len-1-k:Nat):Int)=(len:Int)-1-k:=by omega
   rw [e1] at hy
   gi_wp2
   refine hR.mono ?_
   rintro e W3 ⟨rfl,hJ3⟩
   gi_wp2
   go_roundw
   case rel=>exact ⟨k+1,by omega,by congr 1;omega,hJ3⟩
   case measure=>simp [intOf];omega
  ·obtain rfl:k=len:=by omega
   gi_wp2
   go_end0
   exact ⟨⟨_,rfl⟩,hJs⟩

set_option maxRecDepth 100000 in
theorem backU_nil_in (l Bs:Nat)(A:Option Addr)(cap:Nat)(J:Nat->World->Prop)(W:World)(hBs:W.cell? ⟨Bs,0,none⟩=some (.slice A 0 cap))(h0:J 0 W) :
  CallsIn Fence.wide 2 Tryz.prog 183 #[.func (.yield l) #[] #[],.pointer (some ⟨Bs,0,none⟩)] W fun e W'=>(∃ v,e=.returned v)/\J 0 W':=by
 refine callsIn_of_wp Tryz.func183 rfl trivial ?_ rfl
 simp only [Tryz.ntmps183,List.size_toArray,List.length_cons,List.length_nil,Nat.reduceAdd,Nat.reduceSub,Array.replicate_succ,Array.replicate_zero,List.push_toArray,List.append_toArray,List.nil_append,List.cons_append]
 gi_wp2
 gi_loopw [3] (fun i wr=>i=.int .i64 (-1)/\J 0 wr) (fun _ _=>0)
 case atStart=>exact ⟨rfl,h0⟩
 case round =>
  obtain ⟨rfl,hJs⟩:=hrel
  gi_wp2
  go_end0
  exact ⟨⟨_,rfl⟩,hJs⟩

def backW (xs:List Nat):List (Value × Value):=(List.range xs.length).map fun k=>(.int .i64 ((xs.length-1-k:Nat):Int),.int .u64 ((xs.getD (xs.length-1-k) 0:Nat):Int))
theorem dK (xs:List Nat):(backW xs).length=xs.length:=by simp [backW]
theorem backW_at {xs:List Nat}{k:Nat}(h:k<xs.length):(backW xs)[k]?=some (.int .i64 ((xs.length-1-k:Nat):Int),.int .u64 ((xs.getD (xs.length-1-k) 0:Nat):Int)):=by
 simp [backW,h]
theorem backU_iter (C:Mem)(b t:Nat)(v:Value)(xs:List Nat)(hb:C b=some (.cells ⟨[v]⟩ t (0,0)))(hv:Sl C 1 v (xs.map fun n:Nat=>[Value.int .u64 (n:Int)]))(hl:xs.length<1000000) :
  Iter Tryz.prog 183 #[.pointer (some ⟨b,0,none⟩)] C (backW xs):=by
 intro l J W hC hD hY h0
 obtain ⟨A,cap,rfl,hlc,_,_,hcells⟩:=hv
 rw [List.length_map] at *
 have hcell:∀ {W:World}{k:Nat},J k W->W.cell? ⟨b,0,none⟩=some (.slice A xs.length cap):=fun {W k} hj=>by
  simp [World.cell?,hC k W hj b _ hb]
 rw [dK]
 rcases Nat.eq_zero_or_pos xs.length with h | h
 ·have h1:=hcell h0
  rw [h] at h1 ⊢
  exact backU_nil_in l b A cap J W h1 h0
 ·obtain ⟨ad,rfl,hsp,_⟩:=hcells 0 _ (List.getElem?_eq_getElem (by simpa using h))
  obtain ⟨ab,ao,asp⟩:=ad
  simp only at hsp
  subst hsp
  refine backU_in l b ab ao xs.length cap (fun j=>((xs.getD j 0:Nat):Int)) hl J (fun k W hj=>⟨hcell hj,fun j hj2=>?_⟩) (fun k W hj hk=>hY k _ W hj (backW_at hk)) W h0
  have h3:(xs.map fun n:Nat=>[Value.int .u64 (n:Int)])[j]?=some [Value.int .u64 ((xs.getD j 0:Nat):Int)]:=by
   simp [hj2]
  obtain ⟨a2,h4,_,h5⟩:=hcells j _ h3
  cases h4
  have h6:=h5 0 _ rfl
  rw [Addr.add_lit] at h6
  obtain ⟨_,blk,t2,fz,h7,h8⟩:=h6
  simp only at h7
  simp only [World.cell?,hC k W hj ab _ h7]
  simpa using h8

theorem backU_fn (C:Mem)(A:Option Addr)(n c:Nat):Pur cx.P 150 [.slice A n c] C fun r C'=>∃ b,r=.func (.func 183) #[] #[.pointer (some ⟨b,0,none⟩)]/\C' b=some (.cells ⟨[.slice A n c]⟩ 207 (0,0)):=by
 refine Fn.it kr_ Tryz.func150 4 fun w0=>?_
 refine G.rg fun R hR=>?_
 refine D.aB (fun b1=>?_)
 refine D.q1 1 1 hR ?_
 refine G.z1 2 2 ?_
 refine G.freeze 0 rfl (fun Cf hf hb1=>?_)
 refine G.rf ?_
 exact ⟨rfl,_,rfl,hb1⟩


def encW (x:Nat):List Value:=[.int .u32 x]
def NatC (C:Mem)(v:Value)(n:Nat):Prop:=∃ l,CanD l/\valD l=n/\Sl C 1 v (l.map encW)
theorem NatC.mono {C D:Mem}{v:Value}{n:Nat}(h:NatC C v n)(hl:C.le D):NatC D v n:=by
 obtain ⟨l,h1,h2,h3⟩:=h
 exact ⟨l,h1,h2,h3.mono hl⟩



abbrev qW (b n c:Nat):Value:=.slice (some ⟨b,0,none⟩) n c



theorem NatC.one {C:Mem}{v:Value}{l:List Nat}(hc:CanD l)(h:Sl C 1 v (l.map encW)):NatC C v (valD l):=⟨l,hc,rfl,h⟩
theorem NatC.form {C:Mem}{v:Value}{n:Nat}(h:NatC C v n):∃ A k c,v=.slice A k c/\(k=0 ↔ n=0)/\k<=9223372036854775807:=by
 obtain ⟨l,hl,rfl,hs⟩:=h
 obtain ⟨A,c,rfl,h1,h2,_⟩:=id hs
 refine ⟨A,l.length,c,by simp, ?_, ?_⟩
 ·rw [can_nil hl,List.length_eq_zero_iff]
 ·have hmx:maxLen<=9223372036854775807:=by simp [maxLen]
  simp only [List.length_map] at h1
  omega


def encF (b:Bool)(u w:Value):List Value:=[.bool b,u,w]
def FrC (C:Mem)(v:Value)(q:Rat):Prop:=∃ u w,v=.agg ⟨encF (decide (q.num<0)) u w⟩/\NatC C u q.num.natAbs/\NatC C w q.den
theorem FrC.mono {C D:Mem}{v:Value}{q:Rat}(h:FrC C v q)(hl:C.le D):FrC D v q:=by
 obtain ⟨u,w,h1,h2,h3⟩:=h
 exact ⟨u,w,h1,h2.mono hl,h3.mono hl⟩

theorem FrC.form {C:Mem}{v:Value}{q:Rat}(h:FrC C v q):∃ A n c A' n' c',v=.agg ⟨encF (decide (q.num<0)) (.slice A n c) (.slice A' n' c')⟩:=by
 obtain ⟨u,w,rfl,hu,hw⟩:=h
 obtain ⟨A1,n1,c1,rfl,_,_⟩:=hu.form
 obtain ⟨A2,n2,c2,rfl,_,_⟩:=hw.form
 exact ⟨_,_,_,_,_,_,rfl⟩

theorem idxByte_fn (C:Mem)(s:Str)(c:UInt8):Gives cx.P 174 [strV s,.int .u8 c.toNat] C (.int .i64 (Lib.indexByte s c)):=by
 have h:=Gives.ofCalls (f:=174) (args:=[strV s,.int .u8 c.toNat]) (P:=cx.P) kr_ (fun w=>Any.stringslite_IndexByte Tryz.idxByte ⟨s.toArray⟩ (c.toNat:Int) w) C
 simpa using h
theorem index1_fn (C:Mem)(s:Str)(c:UInt8):Gives cx.P 141 [strV s,strV [c]] C (.int .i64 (Lib.indexByte s c)):=by
 refine Fn.it kr_ Tryz.func141 143 fun w0=>?_
 refine G.z2 1 0 1 ?_
 refine G.z3 3 0 1 5 ?_
 refine G.rp 6 fun R hR=>?_
 refine D.aF rfl rfl rfl rfl rfl rfl rfl rfl ?_
 refine D.q4 1 0 1 5 16 hR ?_
 refine G.cd (fun h16=>?_) fun h16=>?_
 ·refine G.z1 1 4 ?_
  refine G.rf ?_
  refine ⟨?_,rfl⟩
  have h:([c]:Str)=s:=by simpa using h16
  subst h
  simp [Lib.indexByte]
 ·refine G.z4 3 0 1 5 24 ?_
  refine G.cd (fun h24=>?_) fun h24=>?_
  ·refine G.rp 2 fun R hR=>?_
   refine D.bf rfl rfl rfl rfl rfl rfl rfl rfl (fun _=>⟨by omega,(rfl:([c]:Str)[(0:Int).toNat]?=some c)⟩) rfl rfl ?_
   refine D.af (idxByte_fn _ s c) ?_
   refine D.q1 1 4 hR ?_
   refine G.rf ?_
   exact ⟨rfl,rfl⟩
  ·exact absurd h24 (by simp)
theorem cutL_fn (C:Mem)(s:Str)(c:UInt8)(hl:s.length<=9223372036854775807):Gives cx.P 110 [strV s,strV [c]] C (.tuple #[strV (cut1 c s).1,strV ((cut1 c s).2.getD []),.bool (cut1 c s).2.isSome]):=by
 refine Fn.it kr_ Tryz.func110 23 fun w0=>?_
 refine G.z2 3 0 1 ?_
 refine G.rp 2 fun R hR=>?_
 refine D.af (index1_fn _ s c) ?_
 refine D.q3 1 0 1 7 hR ?_
 refine G.z4 2 0 1 7 12 ?_
 refine G.cd (fun h12=>?_) fun h12=>?_
 ·have h0:0<=Lib.indexByte s c:=by simpa using h12
  obtain ⟨pre,post,h1,h2,h3⟩:=cut1_hit h0
  have hle:s.length=pre.length+1+post.length:=by rw [h2];simp;omega
  rw [h1,h3]
  refine G.aH [0,1,2,3,4,5,6,7,8,9,10,11] [] rfl kr_ (fun R hB hR=>?_)
  refine D.ps 2 ?_
  refine D.bu 0 pre.length rfl rfl rfl rfl rfl rfl rfl rfl rfl (fun _=>⟨.inl ⟨rfl,rfl⟩,.inr ⟨_,rfl⟩,.inl ⟨rfl,rfl⟩,by omega,by omega,Nat.le_refl _⟩) rfl rfl ?_
  refine D.ps 4 ?_
  refine D.cG (((pre.length+1:Nat):Int)) rfl rfl rfl rfl (by simp) om_ om_ rfl rfl ?_
  refine D.bu (pre.length+1) s.length rfl rfl rfl rfl rfl rfl rfl rfl rfl (fun _=>⟨.inr ⟨_,rfl⟩,.inl ⟨rfl,rfl⟩,.inl ⟨rfl,rfl⟩,by omega,Nat.le_refl _,Nat.le_refl _⟩) rfl rfl ?_
  refine D.q3 3 4 5 6 hR ?_
  refine G.az (G.dropAll (G.eM rfl rfl rfl rfl ?_))
  refine ⟨?_,rfl⟩
  have e1:(s.take pre.length).drop 0=pre:=by rw [h2];simp
  have e2:(s.take s.length).drop (pre.length+1)=post:=by rw [List.take_length,h2];simp
  rw [e1,e2];rfl
 ·have h0:¬ 0<=Lib.indexByte s c:=by simpa using h12
  rw [cut1_miss h0]
  refine G.z3 4 4 5 6 ?_
  refine G.az (G.dropAll (G.eM rfl rfl rfl rfl ?_))
  exact ⟨rfl,rfl⟩
theorem cut_fn (C:Mem)(s:Str)(c:UInt8)(hl:s.length<=9223372036854775807):Gives cx.P 73 [strV s,strV [c]] C (.tuple #[strV (cut1 c s).1,strV ((cut1 c s).2.getD []),.bool (cut1 c s).2.isSome]):=by
 refine Fn.it kr_ Tryz.func73 13 fun w0=>?_
 refine G.z2 3 0 1 ?_
 refine G.rp 2 fun R hR=>?_
 refine D.af (cutL_fn _ s c hl) ?_
 refine D.q3 6 4 5 6 hR ?_
 refine G.az (G.dropAll (G.eM rfl rfl rfl rfl ?_))
 exact ⟨rfl,rfl⟩
theorem hasP_fn (C:Mem)(s:Str)(c:UInt8):Gives cx.P 178 [strV s,strV [c]] C (.bool (bq c s).2):=by
 refine Fn.it kr_ Tryz.func178 18 fun w0=>?_
 refine G.z2 1 0 1 ?_
 refine G.rp 9 fun R hR=>?_
 refine D.bu 0 1 rfl rfl rfl rfl rfl rfl rfl rfl rfl (fun hg=>⟨.inl ⟨rfl,rfl⟩,.inr ⟨_,rfl⟩,.inl ⟨rfl,rfl⟩,by omega,(by have h:decide ((1:Int)<=(s.length:Int))=true:=hg.1;simp at h;omega),Nat.le_refl _⟩) rfl rfl ?_
 refine D.ps 2 ?_
 refine D.aq ?_
 refine D.q1 1 4 hR ?_
 refine G.rf ?_
 refine ⟨?_,rfl⟩
 cases s with
 | nil=>rfl
 | cons b s =>
  have h1:decide ((1:Int)<=((b::s).length:Nat))=true:=by simp;omega
  unfold bq
  by_cases hb:b=c
  ·subst hb;simp;omega
  ·simp [hb]
theorem cutPL_fn (C:Mem)(s:Str)(c:UInt8):Gives cx.P 142 [strV s,strV [c]] C (.tuple #[strV (bq c s).1,.bool (bq c s).2]):=by
 refine Fn.it kr_ Tryz.func142 15 fun w0=>?_
 refine G.z2 2 0 1 ?_
 refine G.rp 2 fun R hR=>?_
 refine D.af (hasP_fn _ s c) ?_
 refine D.q3 1 0 1 9 hR ?_
 refine G.cd (fun h9=>?_) fun h9=>?_
 ·have h:¬ s.head?=some c:=fun h=>by unfold bq at h9;rw [if_pos h] at h9;cases h9
  refine G.z2 3 4 5 ?_
  refine G.az (G.dropAll (G.aK rfl rfl rfl ?_))
  unfold bq
  rw [if_neg h]
  exact ⟨rfl,rfl⟩
 ·have h:s.head?=some c:=Classical.byContradiction fun h=>by unfold bq at h9;rw [if_neg h] at h9;cases h9
  have hlen:1<=s.length:=by cases s with
   | nil=>cases h
   | cons b s=>simp
  refine G.rp 3 fun R hR=>?_
  refine D.bu 1 s.length rfl rfl rfl rfl rfl rfl rfl rfl rfl (fun _=>⟨.inr ⟨_,rfl⟩,.inl ⟨rfl,rfl⟩,.inl ⟨rfl,rfl⟩,by omega,Nat.le_refl _,Nat.le_refl _⟩) rfl rfl ?_
  refine D.q2 2 4 5 hR ?_
  refine G.az (G.dropAll (G.aK rfl rfl rfl ?_))
  unfold bq
  rw [if_pos h]
  refine ⟨?_,rfl⟩
  rw [List.take_length,List.drop_one];rfl
theorem cutP_fn (C:Mem)(s:Str)(c:UInt8):Gives cx.P 111 [strV s,strV [c]] C (.tuple #[strV (bq c s).1,.bool (bq c s).2]):=by
 refine Fn.it kr_ Tryz.func111 11 fun w0=>?_
 refine G.z2 2 0 1 ?_
 refine G.rp 2 fun R hR=>?_
 refine D.af (cutPL_fn _ s c) ?_
 refine D.q2 4 4 5 hR ?_
 refine G.az (G.dropAll (G.aK rfl rfl rfl ?_))
 exact ⟨rfl,rfl⟩


def zeroF:Value:=.agg ⟨encF false (.slice none 0 0) (.slice none 0 0)⟩
def ReadAt (D:Mem)(v:Value):Option Rat->Prop
 | none=>v=zeroF
 | some q=>FrC D v q

structure Tabs (C:Mem):Prop where
 pow : VarC cx.P C "internal/strconv.uint64pow10" (Lib.pow10Tab.map fun z => Value.int .u64 z).toArray
theorem Tabs.mono {C D:Mem}(h:Tabs C)(hl:C.le D):Tabs D:=⟨h.pow.mono hl⟩
theorem itoa_g (C:Mem)(hT:Tabs C)(n:Int)(h0:-9223372036854775808<=n)(h1:n<=9223372036854775807):Gives cx.P 127 [.int .i64 n] C (strV (Lib.itoa n)) :=
 itoa_fn Tryz.itoa n h0 h1 C hT.pow kr_

structure FV where
 b:Bool
 A:Option Addr
 n:Nat
 c:Nat
 A2:Option Addr
 n2:Nat
 c2:Nat
def FV.enc (x:FV):List Value:=[.bool x.b,.slice x.A x.n x.c,.slice x.A2 x.n2 x.c2]
theorem FrC.fv {C:Mem}{v:Value}{q:Rat}(h:FrC C v q):∃ x:FV,v=.agg ⟨x.enc⟩:=by
 obtain ⟨A,n,c,A',n',c',rfl⟩:=h.form
 exact ⟨⟨_,A,n,c,A',n',c'⟩,rfl⟩
theorem ReadAt.fv {D:Mem}{v:Value}:∀ {o:Option Rat},ReadAt D v o->∃ x:FV,v=.agg ⟨x.enc⟩
 | none,h=>⟨⟨false,none,0,0,none,0,0⟩,h⟩
 | some _,h=>FrC.fv h
def RowsF (C:Mem)(xs:List FV)(qs:List Rat):Prop:=xs.length=qs.length/\∀ (i:Nat)(x:FV)(q:Rat),xs[i]?=some x->qs[i]?=some q->FrC C (.agg ⟨x.enc⟩) q
theorem RowsF.mono {C D:Mem}{xs:List FV}{qs:List Rat}(h:RowsF C xs qs)(hl:C.le D):RowsF D xs qs:=⟨h.1,fun i x q h1 h2=>(h.2 i x q h1 h2).mono hl⟩
theorem RowsF.nil (C:Mem):RowsF C [] []:=⟨rfl,fun i x q h=>by simp at h⟩
theorem RowsF.snoc {C:Mem}{xs:List FV}{qs:List Rat}{x:FV}{q:Rat}(h:RowsF C xs qs)(hx:FrC C (.agg ⟨x.enc⟩) q):RowsF C (xs++[x]) (qs++[q]):=by
 refine ⟨by simp [h.1],fun i y p h1 h2=>?_⟩
 rcases Nat.lt_or_ge i xs.length with hi | hi
 ·rw [List.getElem?_append_left hi] at h1
  rw [List.getElem?_append_left (by rw [<- h.1];exact hi)] at h2
  exact h.2 i y p h1 h2
 ·rw [List.getElem?_append_right hi] at h1
  rw [List.getElem?_append_right (by rw [<- h.1];exact hi)] at h2
  cases hk:i-xs.length with
  | zero =>
   rw [<- h.1,hk] at h2
   rw [hk] at h1
   simp at h1 h2
   subst h1 h2
   exact hx
  | succ k=>rw [hk] at h1;simp at h1
def FrL (C:Mem)(v:Value)(qs:List Rat):Prop:=∃ xs:List FV,Sl C 3 v (xs.map FV.enc)/\RowsF C xs qs
theorem FrL.mono {C D:Mem}{v:Value}{qs:List Rat}(h:FrL C v qs)(hl:C.le D):FrL D v qs:=by
 obtain ⟨xs,h1,h2⟩:=h
 exact ⟨xs,h1.mono hl,h2.mono hl⟩
theorem FrL.form {C:Mem}{v:Value}{qs:List Rat}(h:FrL C v qs):∃ A c,v=.slice A qs.length c:=by
 obtain ⟨xs,h1,h2⟩:=h
 obtain ⟨A,c,rfl,_⟩:=h1
 exact ⟨A,c,by rw [List.length_map,show xs.length=qs.length from h2.1]⟩
theorem RowsF.get {C:Mem}{xs:List FV}{qs:List Rat}{i:Nat}{q:Rat}(h:RowsF C xs qs)(hq:qs[i]?=some q):∃ x,xs[i]?=some x/\(xs.map FV.enc)[i]?=some x.enc/\FrC C (.agg ⟨x.enc⟩) q:=by
 have hi:i<qs.length:=(List.getElem?_eq_some_iff.1 hq).1
 have hx:xs[i]?=some (xs[i]'(Nat.lt_of_lt_of_eq hi h.1.symm)):=List.getElem?_eq_getElem _
 exact ⟨_,hx,by rw [List.getElem?_map,hx];rfl,h.2 i _ q hx hq⟩



theorem split_fn (C:Mem)(s:Str):Gives cx.P 159 [strV s] C (.tuple #[.bool (bq 45 s).2,strV (bq 45 s).1]):=by
 refine Fn.it kr_ Tryz.func159 17 fun w0=>?_
 refine G.z1 2 0 ?_
 refine G.z1 2 4 ?_
 refine G.rp 5 fun R hR=>?_
 refine D.bf (b:=s.headD 0) rfl rfl rfl rfl rfl rfl rfl rfl (fun hg=>⟨by omega,(by
  cases s with
  | nil=>exact Bool.noConfusion (show false=true from hg.1)
  | cons b s=>rfl)⟩) rfl rfl ?_
 refine D.ac ?_
 refine D.aq ?_
 refine D.e2 4 13 hR ?_
 refine G.cd (fun h13=>?_) fun h13=>?_
 ·have hh:s.head?=some 45:=by
   cases s with
   | nil=>cases h13
   | cons b s =>
    have h1:b=45:=by
     refine UInt8.toNat_inj.1 ?_
     show b.toNat=45
     simp at h13
     omega
    rw [h1];rfl
  have hlen:1<=s.length:=by cases s with
   | nil=>cases hh
   | cons b s=>simp
  refine G.aH [0,1,2,3] [] rfl kr_ (fun R hB hR=>?_)
  refine D.ac ?_
  refine D.bu 1 s.length rfl rfl rfl rfl rfl rfl rfl rfl rfl (fun _=>⟨.inr ⟨_,rfl⟩,.inl ⟨rfl,rfl⟩,.inl ⟨rfl,rfl⟩,by omega,Nat.le_refl _,Nat.le_refl _⟩) rfl rfl ?_
  refine D.q2 2 2 3 hR ?_
  refine G.az (G.dropAll (G.aK rfl rfl rfl ?_))
  unfold bq
  rw [if_pos hh]
  refine ⟨?_,rfl⟩
  rw [List.take_length,List.drop_one];rfl
 ·have hh:¬ s.head?=some 45:=by
   cases s with
   | nil=>simp
   | cons b s =>
    intro h
    have h1:b=45:=by simpa using h
    subst h1
    simp at h13
  refine G.z2 3 2 3 ?_
  refine G.az (G.dropAll (G.aK rfl rfl rfl ?_))
  unfold bq
  rw [if_neg hh]
  exact ⟨rfl,rfl⟩
def canonB (s:Str):Bool:=(bq 45 s).1.all digB && !((bq 45 s).1 == []) && !((bq 45 s).1.head? == some 48 && ((bq 45 s).2 || decide (1<(bq 45 s).1.length)))
def bj (s:Str):Bool:=canonB s && decide ((bq 45 s).1.length<=200)

theorem cut_p_fn (C:Mem)(v:Value)(l:List Nat)(hv:Sl C 1 v (l.map encN)):Pur cx.P 187 [v] C fun u C'=>Sl C' 1 u ((cutP l).map encN):=by
 obtain ⟨A0,c0,rfl,hlc,_⟩:=id hv
 simp only [List.length_map] at hv hlc ⊢
 refine Fn.it kr_ Tryz.func187 21 fun w0=>?_
 refine G.z1 1 0 ?_
 refine G.loop (fun fr C' L' μ=>∃ (k:Nat)(A:Option Addr)(c:Nat),(k<=l.length/\Sl C' 1 (.slice A k c) ((l.take k).map encN)/\cutN l l.length=cutN l k)/\fr=[(0,[],.slice A k c)]/\L'=[]/\μ=k+1) (h_1 0) ⟨l.length,A0,c0,⟨Nat.le_refl _,by rw [List.take_length];exact hv,rfl⟩,rfl,rfl,rfl⟩ (fun fr C0' L0' m hle0 hI=>?_)
 obtain ⟨k,A,c,⟨hk,hs,ht⟩,rfl,rfl,rfl⟩:=hI
 obtain ⟨_,c9,hqe,hkc,_⟩:=id hs
 have hmx:maxLen<=9223372036854775807:=by simp [maxLen]
 have hkc2:k<=c:=by
  rw [List.length_map,List.length_take] at hkc
  injection hqe with h1 h2 h3
  omega
 have hrow:0<k->((l.take k).map encN)[((k:Int)-1).toNat]?=some (encN (gP l (k-1))):=fun h=>by
  rw [show ((k:Int)-1).toNat=k-1 by omega,List.getElem?_map,List.getElem?_take,if_pos om_,List.getElem?_eq_getElem (by omega:k-1<l.length)]
  unfold gP
  rw [List.getD_eq_getElem?_getD,List.getElem?_eq_getElem (by omega:k-1<l.length)];rfl
 refine G.rp 7 fun R hR=>?_
 refine D.am _ ?_
 refine D.index rfl rfl rfl rfl rfl rfl rfl rfl rfl rfl (fun hg=>⟨hs,(by have h:decide ((0:Int)<(k:Int))=true:=hg.1;simp at h;omega),hrow (by have h:decide ((0:Int)<(k:Int))=true:=hg.1;simp at h;omega)⟩) fl_ rfl (fun p11 hp11=>?_)
 refine D.aU rfl rfl rfl rfl rfl rfl hp11 rfl rfl rfl ?_
 refine D.ac ?_
 refine D.aq ?_
 refine D.e2 0 14 hR ?_
 refine G.cd (fun h14=>?_) fun h14=>?_
 ·have hk0:0<k/\gP l (k-1)=0:=by
   have:(0:Int)<(k:Int)/\((gP l (k-1):Nat):Int)=0:=by simpa using h14
   omega
  refine G.rp 3 fun R hR=>?_
  refine D.cG (((k-1:Nat):Int)) rfl rfl rfl rfl om_ om_ om_ rfl rfl ?_
  refine D.dr 0 (k-1) c rfl rfl rfl rfl rfl rfl rfl rfl rfl rfl rfl rfl (fun _=>⟨.inl ⟨rfl,rfl⟩,.inr ⟨_,rfl⟩,.inl ⟨rfl,rfl⟩,by omega,by omega,Nat.le_refl _⟩) rfl rfl ?_
  refine D.q1 1 0 hR ?_
  have hsub:=Sl.sub hs (l:=0) (h:=k-1) (m:=c) (Nat.zero_le _) (by simp;omega) om_ (Nat.le_refl _)
  have esub:(((l.take k).map encN).take (k-1)).drop 0=(l.take (k-1)).map encN:=by
   rw [List.drop_zero,<- List.map_take,List.take_take,Nat.min_eq_left om_]
  rw [esub] at hsub
  have etr:cutN l l.length=cutN l (k-1):=by
   rw [ht]
   obtain ⟨j,rfl⟩:∃ j,k=j+1:=⟨k-1,by omega⟩
   simp only [Nat.add_sub_cancel] at hk0 ⊢
   rw [cutN,if_pos]
   unfold gP at hk0
   rw [List.getD_eq_getElem?_getD,List.getElem?_eq_getElem om_] at hk0
   rw [List.getElem?_eq_getElem om_]
   exact congrArg some hk0.2
  refine G.ax (m':=k-1+1) om_ mup (h_1 0) ⟨k-1,_,c,⟨by omega,hsub.mono mup,etr⟩,rfl,rfl,rfl⟩
 ·have hk0:¬ (0<k/\gP l (k-1)=0):=fun hh=>by
   have h1:(decide ((0:Int)<(k:Int)) && (((gP l (k-1):Nat):Int) == 0))=true:=by
    rw [hh.2];simp;omega
   rw [h1] at h14
   cases h14
  refine G.z1 2 2 ?_
  refine G.rf ?_
  refine ⟨rfl, ?_⟩
  have e:cutN l k=k:=by
   cases k with
   | zero=>rfl
   | succ j =>
    simp only [Nat.add_sub_cancel] at hk0
    rw [cutN,if_neg]
    intro h
    refine hk0 ⟨by omega, ?_⟩
    unfold gP
    rw [List.getD_eq_getElem?_getD,h];rfl
  unfold cutP
  rw [ht,e]
  exact hs
theorem cutO_fn (C:Mem)(v:Value)(l:List Nat){n:Nat}(hn:l.length=n):Jog.Fn cx.P 187 [v] C [.arr v 3 1 n (l.map encN).flatten] fun u C' L'=>L'=[]/\Sl C' 1 u ((cutP l).map encN) :=
 Jog.Fn.give (l.map encN) kr_ (by intro r hr;obtain ⟨y,_,rfl⟩:=List.mem_map.1 hr;rfl) (by rw [List.length_map,hn]) (fun C' _ hs=>cut_p_fn C' v l hs)
def PieC (C:Mem)(v:Value)(n:Nat):Prop:=∃ l,CanP l/\valP l=n/\Sl C 1 v (l.map encN)
theorem PieC.mono {C D:Mem}{v:Value}{n:Nat}(h:PieC C v n)(hl:C.le D):PieC D v n:=by
 obtain ⟨l,h1,h2,h3⟩:=h
 exact ⟨l,h1,h2,h3.mono hl⟩
theorem pless_fn (C:Mem)(va vb:Value)(a b:List Nat)(ha:Sl C 1 va (a.map encN))(hb:Sl C 1 vb (b.map encN))(hca:CanP a)(hcb:CanP b):Gives cx.P 188 [va,vb] C (.bool (decide (valP a<valP b))):=by
 have hmx:maxLen<=9223372036854775807:=by simp [maxLen]
 obtain ⟨A0,c0,rfl,hla,hla2,_⟩:=id ha
 obtain ⟨B0,d0,rfl,hlb,hlb2,_⟩:=id hb
 simp only [List.length_map] at ha hb hla hlb ⊢
 refine Fn.it kr_ Tryz.func188 41 fun w0=>?_
 refine G.z2 1 0 1 ?_
 refine G.z3 5 0 1 10 ?_
 refine G.cd (fun h10=>?_) fun h10=>?_
 ·have hne:a.length≠b.length:=fun e=>by
   rw [e] at h10;simp at h10
  refine G.z1 6 4 ?_
  refine G.rf ?_
  refine ⟨?_,rfl⟩
  congr 1
  rw [decide_eq_decide]
  rcases Nat.lt_or_ge a.length b.length with h | h
  ·have:=lenP_lt hca.1 hcb h
   constructor
   ·intro _;exact this
   ·intro _;omega
  ·have:=lenP_lt hcb.1 hca om_
   constructor <;> intro _ <;> omega
 ·have hlen:a.length=b.length:=by
   have:(a.length:Int)=b.length:=by simpa using h10
   omega
  refine G.rp 2 fun R hR=>?_
  refine D.am _ ?_
  refine D.q3 1 0 1 5 hR ?_
  refine G.loop (fun fr C' L' μ=>∃ (k:Nat),(k<=a.length/\a.drop k=b.drop k)/\fr=[(0,[],.slice A0 a.length c0),(1,[],.slice B0 b.length d0),(5,[],.int .i64 ((k:Int)-1))]/\L'=[]/\μ=k+1) (h_3 0 1 5) ⟨a.length,⟨Nat.le_refl _,by rw [List.drop_length,hlen,List.drop_length]⟩,rfl,rfl,rfl⟩ (fun fr C0' L0' m hle0 hI=>?_)
  obtain ⟨k,⟨hk,he⟩,rfl,rfl,rfl⟩:=hI
  refine G.z4 2 0 1 5 20 ?_
  refine G.cd (fun h20=>?_) fun h20=>?_
  ·have hk0:0<k:=by
    have:(0:Int)<=(k:Int)-1:=by simpa using h20
    omega
   obtain ⟨j,rfl⟩:∃ j,k=j+1:=⟨k-1,by omega⟩
   obtain ⟨x,hx⟩:∃ x,a[j]?=some x:=⟨a[j],List.getElem?_eq_getElem om_⟩
   obtain ⟨y,hy⟩:∃ y,b[j]?=some y:=⟨b[j],List.getElem?_eq_getElem om_⟩
   have hrx:(a.map encN)[(((j+1:Nat):Int)-1).toNat]?=some (encN x):=by
    rw [show (((j+1:Nat):Int)-1).toNat=j by omega,List.getElem?_map,hx];rfl
   have hry:(b.map encN)[(((j+1:Nat):Int)-1).toNat]?=some (encN y):=by
    rw [show (((j+1:Nat):Int)-1).toNat=j by omega,List.getElem?_map,hy];rfl
   refine G.aH [0,1,2,3,4,5,6,7,8] [] rfl kr_ (fun R hB hR=>?_)
   refine D.ps 2 ?_
   refine D.al (ha.mono mup) rfl rfl rfl rfl rfl rfl rfl rfl rfl rfl om_ hrx fl_ (fun p25 hp25=>?_)
   refine D.aa hp25 ?_
   refine D.ps 2 ?_
   refine D.al (hb.mono mup) rfl rfl rfl rfl rfl rfl rfl rfl rfl rfl om_ hry fl_ (fun p29 hp29=>?_)
   refine D.aa hp29 ?_
   refine D.q4 1 0 1 5 31 hR ?_
   refine G.cd (fun h31=>?_) fun h31=>?_
   ·have hxy:x≠y:=fun e=>by
     subst e;simp at h31
    refine G.aH [0,1,2,3,4,5,6,7,8,9] [] rfl kr_ (fun R hB hR=>?_)
    refine D.ps 2 ?_
    refine D.al (ha.mono mup) rfl rfl rfl rfl rfl rfl rfl rfl rfl rfl om_ hrx fl_ (fun p34 hp34=>?_)
    refine D.aa hp34 ?_
    refine D.ps 2 ?_
    refine D.al (hb.mono mup) rfl rfl rfl rfl rfl rfl rfl rfl rfl rfl om_ hry fl_ (fun p38 hp38=>?_)
    refine D.aa hp38 ?_
    refine D.q1 2 4 hR ?_
    refine G.rf ?_
    refine ⟨?_,rfl⟩
    congr 1
    rw [decide_eq_decide]
    rcases Nat.lt_or_ge x y with h | h
    ·have:=atP_lt hca.1 hlen hx hy h he
     constructor
     ·intro _;exact this
     ·intro _;omega
    ·have:=atP_lt hcb.1 hlen.symm hy hx om_ he.symm
     constructor <;> intro _ <;> omega
   ·have hxy:x=y:=by
     have:(x:Int)=y:=by simpa using h31
     omega
    refine G.rp 1 fun R hR=>?_
    refine D.am _ ?_
    refine D.q3 1 0 1 5 hR ?_
    rw [show ((j+1:Nat):Int)-1-1=(j:Int)-1 by omega]
    refine G.ax (m':=j+1) om_ mup (h_3 0 1 5) ⟨j,⟨by omega,by
     rw [List.drop_eq_getElem_cons (by omega:j<a.length),List.drop_eq_getElem_cons (by omega:j<b.length),he,(List.getElem?_eq_some_iff.1 hx).2,(List.getElem?_eq_some_iff.1 hy).2,hxy]⟩,rfl,rfl,rfl⟩
  ·have hk0:k=0:=by
    have:¬ (0:Int)<=(k:Int)-1:=by simpa using h20
    omega
   subst hk0
   refine G.z1 1 4 ?_
   refine G.rf ?_
   refine ⟨?_,rfl⟩
   have:a=b:=by simpa using he
   subst this
   simp

theorem cutS_step {s:Str}{lo i:Nat}{c:UInt8}(hlo:lo<=i)(hc:s[i]?=some c):decV (cutS s lo (i+1))=10*decV (cutS s lo i)+(c.toNat-48):=by
 have hlt:=(List.getElem?_eq_some_iff.1 hc).1
 have e:cutS s lo (i+1)=cutS s lo i++[c]:=by
  unfold cutS
  rw [List.take_add_one,hc,Option.toList_some,List.drop_append,List.length_take,Nat.min_eq_left om_,show lo-i=0 by omega]
  rfl
 rw [e]
 unfold decV
 rw [List.foldl_append]
 rfl
theorem cutS_nil (s:Str)(lo:Nat):cutS s lo lo=[]:=by
 unfold cutS
 rw [List.drop_eq_nil_iff,List.length_take]
 omega
theorem take_fn (C:Mem)(s:Str)(hs:∀ c∈s,digB c=true)(hl:s.length<=100000):Pur cx.P 163 [strV s] C fun u D=>PieC D u (decV s):=by
 refine Fn.it kr_ Tryz.func163 35 fun w0=>?_
 refine G.z1 1 0 ?_
 refine G.z2 1 0 3 ?_
 refine G.z3 3 0 3 4 ?_
 refine G.nilArr 3 1 ?_
 refine G.loop (fun fr C' L' μ=>∃ (e j:Nat)(ei:Int)(out:List Nat)(w:Value),((ei=e/\e+4*j=s.length∨ei<=0/\e=0)/\-4<=ei/\ei<=100000/\e<=s.length/\out.length=j/\j<=100000/\DigP out/\valP out=decV (s.drop e))/\fr=[(0,[],strV s),(3,[],w),(4,[],.int .i64 ei)]/\L'=[.arr w 3 1 j (out.map encN).flatten]/\μ=e+1) (h_3 0 3 4) ⟨s.length,0,(s.length:Int),[],_,⟨.inl ⟨rfl,rfl⟩,by omega,by omega,Nat.le_refl _,rfl,by omega,(fun x hx=>(by cases hx)),by rw [List.drop_length];rfl⟩,rfl,rfl,rfl⟩ (fun fr C0' L0' m hle0 hI=>?_)
 obtain ⟨e,j,ei,out,w,⟨hei,hem,heM,hes,hol,hjM,hod,hov⟩,rfl,rfl,rfl⟩:=hI
 refine G.z4 2 0 3 4 10 ?_
 refine G.cd (fun h10=>?_) fun h10=>?_
 ·obtain ⟨rfl,hej⟩:ei=e/\e+4*j=s.length:=by
   have h0:0<ei:=by simpa using h10
   rcases hei with h | h
   ·exact h
   ·omega
  have he0:0<e:=by
   have h0:(0:Int)<(e:Int):=by simpa using h10
   omega
  refine G.z4 1 0 3 4 5 ?_
  refine G.rp 1 fun R hR=>?_
  refine D.am _ ?_
  refine D.max (((e-4:Nat):Int)) rfl rfl rfl rfl rfl rfl om_ rfl rfl ?_
  refine D.q5 1 0 3 4 5 6 hR ?_
  rw [show (Value.int .i64 0)=.int .i64 ((decV (cutS s (e-4) (e-4)):Nat):Int) by rw [cutS_nil];rfl]
  refine G.loop (fun fr C' L' μ=>∃ (i:Nat),(e-4<=i/\i<=e)/\fr=[(0,[],strV s),(3,[],w),(4,[],.int .i64 (e:Int)),(5,[],.int .i64 (decV (cutS s (e-4) i):Nat)),(6,[],.int .i64 i)]/\L'=[.arr w 3 1 j (out.map encN).flatten]/\μ=e-i) (h_5 0 3 4 5 6) ⟨e-4,⟨Nat.le_refl _,by omega⟩,rfl,rfl,rfl⟩ (fun fr C1' L1' m hle1 hI=>?_)
  obtain ⟨i,⟨hi1,hi2⟩,rfl,rfl,rfl⟩:=hI
  refine G.z6 3 0 3 4 5 6 18 ?_
  refine G.cd (fun h18=>?_) fun h18=>?_
  ·have hie:i<e:=by simpa using h18
   obtain ⟨c,hc⟩:∃ c,s[i]?=some c:=⟨s[i]'om_,List.getElem?_eq_getElem _⟩
   have hcd:=hs c (List.mem_of_getElem? hc)
   have hcd2:48<=c.toNat/\c.toNat<=57:=by unfold digB at hcd;simpa using hcd
   have hlt:decV (cutS s (e-4) i)<10000:=cutS_lt hs om_
   refine G.rp 1 fun R hR=>?_
   refine D.cG (((10*decV (cutS s (e-4) i):Nat):Int)) rfl rfl rfl rfl om_ om_ om_ rfl rfl ?_
   refine D.ps 2 ?_
   refine D.bf rfl rfl rfl rfl rfl rfl rfl rfl (fun _=>⟨by omega,hc⟩) rfl rfl ?_
   refine D.cR (c:=((c.toNat:Nat):Int)) rfl rfl rfl rfl rfl rfl rfl rfl (by rw [IntKind.wrap_i64];omega) fl_ ?_
   refine D.cG (((10*decV (cutS s (e-4) i)+c.toNat:Nat):Int)) rfl rfl rfl rfl om_ om_ om_ rfl rfl ?_
   refine D.cG (((10*decV (cutS s (e-4) i)+(c.toNat-48):Nat):Int)) rfl rfl rfl rfl om_ om_ om_ rfl rfl ?_
   refine D.q5 1 0 3 4 5 6 hR ?_
   refine G.rp 1 fun R hR=>?_
   refine D.am _ ?_
   refine D.q5 1 0 3 4 5 6 hR ?_
   rw [<- cutS_step hi1 hc]
   refine G.ax (m':=e-(i+1)) om_ mup (h_5 0 3 4 5 6) ⟨i+1,⟨by omega,by omega⟩,rfl,rfl,rfl⟩
  ·have hie:i=e:=by
    have:¬ i<e:=by simpa using h18
    omega
   subst hie
   refine G.rp 2 fun R hR=>?_
   refine D.ah [encN (decV (cutS s (i-4) i))] (fun p31 C31 hle31 hs31=>?_)
   refine D.append (j:=0) rfl rfl rfl rfl rfl rfl rfl rfl rfl rfl rfl hs31 rfl (by simp only [List.length_singleton,maxLen];omega) (by show (j+1)*8<=_;omega) fl_ (fun v32=>?_)
   refine D.q3 1 0 3 4 hR ?_
   refine G.rp 1 fun R hR=>?_
   refine D.am _ ?_
   refine D.q3 1 0 3 4 hR ?_
   refine G.aY (L':=[.arr v32 3 1 (j+1) ((out++[decV (cutS s (i-4) i)]).map encN).flatten]) (by simp [encN]) ?_
   refine G.ax (m':=i-4+1) om_ mup (h_3 0 3 4) ⟨i-4,j+1,(i:Int)-4,out++[decV (cutS s (i-4) i)],v32,⟨by
    rcases Nat.lt_or_ge i 4 with h | h
    ·exact .inr ⟨by omega,by omega⟩
    ·exact .inl ⟨by omega,by omega⟩,by omega,by omega,by omega,by simp [hol],by omega,hod.snoc (cutS_lt hs om_),take_step hej hol om_ hov⟩,rfl,rfl,rfl⟩
 ·have he0:e=0:=by
   have h0:¬ 0<ei:=by simpa using h10
   rcases hei with h | h
   ·omega
   ·exact h.2
  refine G.aI [(1,3)] rfl (fun R hR=>?_)
  refine D.ac ?_
  refine D.call (cutO_fn _ _ out hol) rfl (.inr (by decide)) rfl rfl rfl rfl rfl rfl (List.Perm.refl _) fl_ (fun v34 C34 L34 hle34 hq34=>?_)
  obtain ⟨rfl,hu⟩:=hq34
  refine D.q1 1 2 hR ?_
  refine G.rf ?_
  refine ⟨rfl,cutP out,cutP_can hod, ?_,hu⟩
  rw [eE,hov,he0,List.drop_zero]

theorem itoaN_g (C:Mem)(hT:Tabs C)(n:Nat)(h:n<=1000000000000000000):Gives cx.P 127 [.int .i64 n] C (strV (decS n)):=by
 have h1:=itoa_g C hT (n:Int) om_ om_
 rwa [itoa_nat] at h1
theorem itoaZ_g (C:Mem)(hT:Tabs C)(z:Int)(h0:-9223372036854775808<=z)(h1:z<=9223372036854775807):Gives cx.P 127 [.int .i64 z] C (strV (txt z)):=by
 have h:=itoa_g C hT z h0 h1
 rwa [itoa_txt] at h
theorem itoaK_g (C:Mem)(hT:Tabs C)(x:Nat)(hx:x<10000):Gives cx.P 127 [.int .i64 (10000+x:Nat)] C (strV (49::padS 4 x)):=by
 have h:=itoaN_g C hT (10000+x) om_
 rwa [tenK hx] at h
theorem cO {n k:Nat}(h:n<10 ^ k)(hk:0<k):(decS n).length<=k:=by
 apply Classical.byContradiction
 intro hn
 have h1:=canS_low (aO n).1 om_
 rw [(aO n).2] at h1
 have h2:10 ^ k<=10 ^ ((decS n).length-1):=Nat.pow_le_pow_right (by decide) om_
 omega
theorem decS_valP_len {l:List Nat}(h:DigP l):(decS (valP l)).length<=4*l.length+1:=by
 refine cO ?_ om_
 have h1:=valP_lt h
 rw [<- pow_BP] at h1
 have h2:10 ^ (4*l.length)<=10 ^ (4*l.length+1):=Nat.pow_le_pow_right (by decide) om_
 omega
theorem gP_row {l:List Nat}{k:Nat}(h:k<l.length):(l.map encN)[k]?=some (encN (gP l k))/\l[k]?=some (gP l k):=by
 have e:l[k]?=some (gP l k):=by
  unfold gP;rw [List.getD_eq_getElem?_getD,List.getElem?_eq_getElem h];rfl
 exact ⟨by rw [List.getElem?_map,e];rfl,e⟩
theorem give_fn (C:Mem)(hT:Tabs C)(v:Value)(l:List Nat)(hv:Sl C 1 v (l.map encN))(hc:CanP l)(hl:l.length<=100000):Gives cx.P 190 [v] C (strV (decS (valP l))):=by
 obtain ⟨A0,c0,rfl,_⟩:=id hv
 simp only [List.length_map] at hv ⊢
 have hd:=hc.1
 refine Fn.it kr_ Tryz.func190 34 fun w0=>?_
 refine G.z1 1 0 ?_
 refine G.z2 3 0 8 ?_
 refine G.cd (fun h8=>?_) fun h8=>?_
 ·have h0:l=[]:=by
   have:(l.length:Int)=0:=by simpa using h8
   exact List.eq_nil_of_length_eq_zero om_
  refine G.z1 1 2 ?_
  refine G.rf ?_
  refine ⟨?_,rfl⟩
  rw [h0,show decS (valP [])=[48] by rw [decS];rfl];rfl
 ·have h0:0<l.length:=by
   have:¬ (l.length:Int)=0:=by simpa using h8
   omega
  have hrl:(l.map encN)[((l.length:Int)-1).toNat]?=some (encN (gP l (l.length-1))):=by rw [show ((l.length:Int)-1).toNat=l.length-1 by omega];exact (gP_row om_).1
  have hgl:gP l (l.length-1)<10000:=gP_lt hd _
  have hdr:valP (l.drop (l.length-1))=gP l (l.length-1):=by
   rw [List.drop_eq_getElem_cons om_,List.drop_of_length_le om_]
   have h1:=(gP_row (l:=l) (k:=l.length-1) om_).2
   rw [(List.getElem?_eq_some_iff.1 h1).2]
   simp [valP]
  have hgp:0<gP l (l.length-1):=by
   have h1:=(gP_row (l:=l) (k:=l.length-1) om_).2
   have h2:=hc.2
   rw [List.getLast?_eq_getElem?,h1] at h2
   rcases Nat.eq_zero_or_pos (gP l (l.length-1)) with h | h
   ·rw [h] at h2;exact absurd rfl h2
   ·exact h
  refine G.rp 3 fun R hR=>?_
  refine D.am _ ?_
  refine D.al (hv.mono mup) rfl rfl rfl rfl rfl rfl rfl rfl rfl rfl om_ hrl fl_ (fun p13 hp13=>?_)
  refine D.aa hp13 ?_
  refine D.ai (itoaN_g _ (hT.mono mup) (gP l (l.length-1)) om_) rfl rfl rfl rfl rfl rfl rfl fl_ ?_
  refine D.q2 1 0 3 hR ?_
  refine G.rp 2 fun R hR=>?_
  refine D.am _ ?_
  refine D.q3 1 0 3 4 hR ?_
  rw [show (l.length:Int)-2=((l.length-1:Nat):Int)-1 by omega]
  refine G.loop (fun fr C' L' μ=>∃ (k:Nat)(o:Str),(k<l.length/\CanS o/\decV o=valP (l.drop k)/\0<decV o/\o.length<=25+4*(l.length-k))/\fr=[(0,[],.slice A0 l.length c0),(3,[],strV o),(4,[],.int .i64 ((k:Int)-1))]/\L'=[]/\μ=k+1) (h_3 0 3 4) ⟨l.length-1,decS (gP l (l.length-1)),⟨by omega,(aO _).1,by rw [(aO _).2,hdr],by rw [(aO _).2];exact hgp,by
   have h2:=cO (k:=4) (n:=gP l (l.length-1)) hgl om_
   omega⟩,rfl,rfl,rfl⟩ (fun fr C0' L0' m hle0 hI=>?_)
  obtain ⟨k,o,⟨hk,hoc,hov,ho0,hol⟩,rfl,rfl,rfl⟩:=hI
  refine G.z4 2 0 3 4 20 ?_
  refine G.cd (fun h20=>?_) fun h20=>?_
  ·have hk0:0<k:=by
    have:(0:Int)<=(k:Int)-1:=by simpa using h20
    omega
   obtain ⟨j,rfl⟩:∃ j,k=j+1:=⟨k-1,by omega⟩
   rw [show ((j+1:Nat):Int)-1=(j:Int) by omega]
   obtain ⟨hrj,hgj⟩:=gP_row (l:=l) (k:=j) om_
   have hx:=gP_lt hd j
   have hx2:gP l j<10000:=hx
   have hpl:=(padS_ok 4 (gP l j) hx).1
   refine G.rp 2 fun R hR=>?_
   refine D.al (hv.mono mup) rfl rfl rfl rfl rfl rfl rfl rfl rfl rfl om_ hrj fl_ (fun p25 hp25=>?_)
   refine D.aa hp25 ?_
   refine D.cG (((10000+gP l j:Nat):Int)) rfl rfl rfl rfl om_ om_ om_ rfl rfl ?_
   refine D.af (itoaK_g _ (hT.mono mup) _ hx2) ?_
   refine D.q4 1 0 3 4 5 hR ?_
   refine G.rp 2 fun R hR=>?_
   refine D.bu 1 (49::padS 4 (gP l j)).length rfl rfl rfl rfl rfl rfl rfl rfl rfl (fun _=>⟨.inr ⟨_,rfl⟩,.inl ⟨rfl,rfl⟩,.inl ⟨rfl,rfl⟩,by simp,Nat.le_refl _,Nat.le_refl _⟩) rfl rfl ?_
   refine D.cg rfl rfl rfl rfl rfl rfl (fun _=>(by simp only [List.length_drop,List.length_take,List.length_cons];omega)) rfl rfl ?_
   refine D.q3 1 0 3 4 hR ?_
   refine G.rp 1 fun R hR=>?_
   refine D.am _ ?_
   refine D.q3 1 0 3 4 hR ?_
   rw [List.take_length,List.drop_one,List.tail_cons]
   obtain ⟨g1,g2,g3⟩:=give_step hd hgj hoc hov ho0
   refine G.ax (m':=j+1) om_ mup (h_3 0 3 4) ⟨j,o++padS 4 (gP l j),⟨by omega,g1,g2,g3,by rw [List.length_append,hpl];omega⟩,rfl,rfl,rfl⟩
  ·have hk0:k=0:=by
    have:¬ (0:Int)<=(k:Int)-1:=by simpa using h20
    omega
   subst hk0
   refine G.z1 2 2 ?_
   refine G.rf ?_
   refine ⟨?_,rfl⟩
   rw [canS_dec hoc,hov,List.drop_zero]
def sgZ (m:Bool)(n:Nat):Int:=if m then -(n:Int) else n
theorem txt_sg (m:Bool)(n:Nat)(h:m=true->0<n):txt (sgZ m n)=if m then 45::decS n else decS n:=by
 unfold txt sgZ
 cases m with
 | false=>simp
 | true=>have:=h rfl;simp;omega
theorem made_fn (C:Mem)(hT:Tabs C)(m:Bool)(v:Value)(l:List Nat)(hv:Sl C 1 v (l.map encN))(hd:DigP l)(hl:l.length<=100000):Gives cx.P 165 [.bool m,v] C (strV (txt (sgZ m (valP l)))):=by
 have hcc:=cutP_can hd
 have hcl:(cutP l).length<=100000:=by unfold cutP;rw [List.length_take];omega
 have hnil:(cutP l).length=0 ↔ valP l=0:=by rw [<- eE,canP_nil hcc,List.length_eq_zero_iff]
 refine Fn.it kr_ Tryz.func165 18 fun w0=>?_
 refine G.z2 1 0 1 ?_
 refine G.rp 1 fun R hR=>?_
 refine D.aX (cut_p_fn _ _ l hv) (fun v6 C6 hle6 hq6=>?_)
 obtain ⟨A1,c1,rfl,_⟩:=id hq6
 rw [List.length_map] at hq6
 rw [List.length_map]
 refine D.q2 1 0 1 hR ?_
 refine G.rp 5 fun R hR=>?_
 refine D.aq ?_
 refine D.e2 1 12 hR ?_
 refine G.cd (fun h12=>?_) fun h12=>?_
 ·have hm:m=true/\0<valP l:=by
   simp at h12
   refine ⟨h12.1, ?_⟩
   have h2:=h12.2
   rcases Nat.eq_zero_or_pos (valP l) with h | h
   ·have:=hnil.2 h;omega
   ·exact h
  refine G.rp 1 fun R hR=>?_
  refine D.af (give_fn _ (hT.mono mup) _ (cutP l) (hq6.mono mup) hcc hcl) ?_
  refine D.cg rfl rfl rfl rfl rfl rfl (fun _=>(by have:=decS_valP_len hcc.1;simp only [List.length_cons,List.length_nil];omega)) rfl rfl ?_
  refine D.q1 1 4 hR ?_
  refine G.rf ?_
  refine ⟨?_,rfl⟩
  rw [txt_sg m _ (fun _=>hm.2),if_pos hm.1,eE];rfl
 ·have hm:m=true->valP l=0:=fun h=>by
   rcases Nat.eq_zero_or_pos (cutP l).length with h0 | h0
   ·exact hnil.1 h0
   ·exfalso
    have h1:decide ((0:Int)<((cutP l).length:Nat))=true:=decide_eq_true om_
    rw [h,h1] at h12
    cases h12
  refine G.rp 1 fun R hR=>?_
  refine D.af (give_fn _ (hT.mono mup) _ (cutP l) (hq6.mono mup) hcc hcl) ?_
  refine D.q1 1 4 hR ?_
  refine G.rf ?_
  refine ⟨?_,rfl⟩
  rw [eE]
  congr 1
  cases m with
  | false=>rw [txt_sg false _ (fun h=>by cases h)];rfl
  | true=>rw [hm rfl];rfl

def gI (p:List Int)(i:Nat):Int:=p.getD i 0
theorem gI_row {p:List Int}{k:Nat}(h:k<p.length):(p.map encI)[k]?=some (encI (gI p k))/\p[k]?=some (gI p k):=by
 have e:p[k]?=some (gI p k):=by
  unfold gI;rw [List.getD_eq_getElem?_getD,List.getElem?_eq_getElem h];rfl
 exact ⟨by rw [List.getElem?_map,e];rfl,e⟩
theorem gI_out {p:List Int}{k:Nat}(h:p.length<=k):gI p k=0:=by
 unfold gI;rw [List.getD_eq_getElem?_getD,List.getElem?_eq_none h];rfl
theorem valI_tk (p:List Int)(k:Nat):valI (p.take (k+1))=valI (p.take k)+(10000:Int) ^ k*gI p k:=by
 rcases Nat.lt_or_ge k p.length with h | h
 ·exact valI_take (gI_row h).2
 ·rw [gI_out h,List.take_of_length_le h,List.take_of_length_le om_];simp
theorem quo_exact (o:Int):(o-o % 10000).tdiv 10000=(o-o % 10000) / 10000:=Int.tdiv_eq_ediv_of_dvd (Int.dvd_of_emod_eq_zero om_)
theorem carry_fn (C:Mem)(v:Value)(p:List Int)(hv:Sl C 1 v (p.map encI))(hpos:0<=valI p)(hb:∀ x∈p, -1000000000000<=x/\x<=1000000000000)(hl:p.length<=100000):Pur cx.P 189 [v] C fun u D=>PieC D u (valI p).toNat:=by
 obtain ⟨A0,c0,rfl,_⟩:=id hv
 simp only [List.length_map] at hv ⊢
 refine Fn.it kr_ Tryz.func189 43 fun w0=>?_
 refine G.z1 1 0 ?_
 refine G.z2 1 0 3 ?_
 refine G.z3 1 0 3 4 ?_
 refine G.z4 1 0 3 4 5 ?_
 refine G.nilArr 3 1 ?_
 refine G.loop (fun fr C' L' μ=>∃ (i:Nat)(o:Int)(out:List Nat)(w:Value),(out.length=i/\DigP out/\-1000000000000<=o/\o<=1000000000000/\valI (p.take i)=(valP out:Nat)+(10000:Int) ^ i*o/\(p.length<=i->(i:Int)+o<=1000000100000))/\fr=[(0,[],.slice A0 p.length c0),(3,[],w),(4,[],.int .i64 o),(5,[],.int .i64 i)]/\L'=[.arr w 3 1 i (out.map encN).flatten]/\μ=(p.length-i)*4611686018427387904+o.natAbs) (h_4 0 3 4 5) ⟨0,0,[],_,⟨rfl,(fun x hx=>(by cases hx)),by omega,by omega,by simp [valI,valP],fun h=>by omega⟩,rfl,rfl,rfl⟩ (fun fr C0' L0' m hle0 hI=>?_)
 obtain ⟨i,o,out,w,⟨hol,hod,ho1,ho2,hov,hi2⟩,rfl,rfl,rfl⟩:=hI
 have hopos:p.length<=i->0<=o:=fun h=>by
  refine over_pos hol hod (V:=valI p) hpos ?_
  rw [<- hov,List.take_of_length_le h]
 have hiM:(i:Int)<=1000000100000:=by
  rcases Nat.lt_or_ge i p.length with h | h
  ·omega
  ·have:=hopos h;have:=hi2 h;omega
 refine G.rp 7 fun R hR=>?_
 refine D.aF rfl rfl rfl rfl rfl rfl rfl rfl ?_
 refine D.e5 0 3 4 5 14 hR ?_
 refine G.cd (fun h14=>?_) fun h14=>?_
 ·have hgo:i<p.length∨o≠0:=by
   simp at h14
   omega
  have hgb:-1000000000000<=gI p i/\gI p i<=1000000000000:=by
   rcases Nat.lt_or_ge i p.length with h | h
   ·exact hb _ (List.mem_of_getElem? (gI_row h).2)
   ·rw [gI_out h];omega
  refine G.z5 4 0 3 4 5 20 ?_
  refine G.cut (fun fr C' L' μ=>(True)/\fr=[(0,[],.slice A0 p.length c0),(3,[],w),(4,[],.int .i64 (o+gI p i)),(5,[],.int .i64 i)]/\L'=[.arr w 3 1 i (out.map encN).flatten]) ?_ (fun fr C20 L20 μ hle20 hI=>?_)
  ·refine G.cd (fun h20=>?_) fun h20=>?_
   ·have hil:i<p.length:=by simpa using h20
    refine G.rp 3 fun R hR=>?_
    refine D.al (hv.mono mup) rfl rfl rfl rfl rfl rfl rfl rfl rfl rfl om_ (gI_row hil).1 fl_ (fun p24 hp24=>?_)
    refine D.aa hp24 ?_
    refine D.am _ ?_
    refine D.q4 1 0 3 4 5 hR ?_
    refine G.aw 0 (Mem.le.refl _) (h_4 0 3 4 5) ⟨trivial,rfl,rfl⟩
   ·have hil:p.length<=i:=by
     have:¬ i<p.length:=by simpa using h20
     omega
    rw [show o=o+gI p i by rw [gI_out hil,Int.add_zero]]
    refine G.aw 0 (Mem.le.refl _) (h_4 0 3 4 5) ⟨trivial,by rw [gI_out hil];simp,rfl⟩
  ·obtain ⟨_,rfl,rfl⟩:=hI
   refine G.rp 1 fun R hR=>?_
   refine D.remT (Int.tmod (o+gI p i) 10000) rfl rfl rfl rfl rfl rfl om_ rfl rfl rfl ?_
   refine D.q5 1 0 3 4 5 6 hR ?_
   have hrp:=rest_pos (o+gI p i)
   have htm:-10000<=Int.tmod (o+gI p i) 10000/\Int.tmod (o+gI p i) 10000<10000:=by
    have:=Int.emod_nonneg (o+gI p i) (show (10000:Int)≠0 by decide)
    have:=Int.emod_lt_of_pos (o+gI p i) (show (0:Int)<10000 by decide)
    split at hrp <;> omega
   refine G.z6 2 0 3 4 5 6 30 ?_
   refine G.cut (fun fr C' L' μ=>(True)/\fr=[(0,[],.slice A0 p.length c0),(3,[],w),(4,[],.int .i64 (o+gI p i)),(5,[],.int .i64 i),(6,[],.int .i64 (((o+gI p i) % 10000).toNat:Nat))]/\L'=[.arr w 3 1 i (out.map encN).flatten]) ?_ (fun fr C30 L30 μ hle30 hI=>?_)
   ·refine G.cd (fun h30=>?_) fun h30=>?_
    ·have hneg:Int.tmod (o+gI p i) 10000<0:=by simpa using h30
     rw [if_pos hneg] at hrp
     refine G.rp 1 fun R hR=>?_
     refine D.cG (((((o+gI p i) % 10000).toNat:Nat):Int)) rfl rfl rfl rfl om_ om_ om_ rfl rfl ?_
     refine D.q5 1 0 3 4 5 6 hR ?_
     refine G.aw 0 (Mem.le.refl _) (h_5 0 3 4 5 6) ⟨trivial,rfl,rfl⟩
    ·have hneg:¬ Int.tmod (o+gI p i) 10000<0:=by simpa using h30
     rw [if_neg hneg] at hrp
     rw [show Int.tmod (o+gI p i) 10000=((((o+gI p i) % 10000).toNat:Nat):Int) by omega]
     refine G.aw 0 (Mem.le.refl _) (h_5 0 3 4 5 6) ⟨trivial,rfl,rfl⟩
   ·obtain ⟨_,rfl,rfl⟩:=hI
    refine G.rp 2 fun R hR=>?_
    refine D.ah [encN (((o+gI p i) % 10000).toNat)] (fun p35 C35 hle35 hs35=>?_)
    refine D.append (j:=0) rfl rfl rfl rfl rfl rfl rfl rfl rfl rfl rfl hs35 rfl (by simp only [List.length_singleton,maxLen];omega) (by show (i+1)*8<=_;omega) fl_ (fun v36=>?_)
    refine D.q5 1 0 3 4 5 6 hR ?_
    refine G.rp 2 fun R hR=>?_
    refine D.cG ((o+gI p i-(o+gI p i) % 10000)) rfl rfl rfl rfl om_ om_ om_ rfl rfl ?_
    refine D.quoT ((o+gI p i-(o+gI p i) % 10000) / 10000) rfl rfl rfl rfl rfl rfl om_ (quo_exact _) (by rw [IntKind.wrap_i64];omega) rfl rfl ?_
    refine D.q4 1 0 3 4 5 hR ?_
    refine G.rp 1 fun R hR=>?_
    refine D.am _ ?_
    refine D.q4 1 0 3 4 5 hR ?_
    have hm:(p.length-(i+1))*4611686018427387904+((o+gI p i-(o+gI p i) % 10000) / 10000).natAbs<(p.length-i)*4611686018427387904+o.natAbs:=by
     rcases Nat.lt_or_ge i p.length with h2 | h2
     ·omega
     ·have h3:=hopos h2
      rw [gI_out h2]
      omega
    refine G.aY (L':=[.arr v36 3 1 (i+1) ((out++[((o+gI p i) % 10000).toNat]).map encN).flatten]) (by simp [encN]) ?_
    refine G.ax (m':=(p.length-(i+1))*4611686018427387904+((o+gI p i-(o+gI p i) % 10000) / 10000).natAbs) om_ mup (h_4 0 3 4 5) ⟨i+1,(o+gI p i-(o+gI p i) % 10000) / 10000,out++[((o+gI p i) % 10000).toNat],v36,⟨by simp [hol],hod.snoc (by show ((o+gI p i) % 10000).toNat<10000;omega),by omega,by omega,by
     refine carry_one hol ?_
     rw [valI_tk,hov,Int.mul_add]
     omega,fun h=>by
     rcases Nat.lt_or_ge i p.length with h2 | h2
     ·omega
     ·have h3:=hopos h2
      have h4:=hi2 h2
      rw [gI_out h2] at *
      omega⟩,rfl,rfl,rfl⟩
 ·have hgo:p.length<=i/\o=0:=by
   simp at h14
   omega
  refine G.aI [(1,3)] rfl (fun R hR=>?_)
  refine D.ac ?_
  refine D.call (cutO_fn _ _ out hol) rfl (.inr (by decide)) rfl rfl rfl rfl rfl rfl (List.Perm.refl _) fl_ (fun v42 C42 L42 hle42 hq42=>?_)
  obtain ⟨rfl,hu⟩:=hq42
  refine D.q1 1 2 hR ?_
  refine G.rf ?_
  refine ⟨rfl,cutP out,cutP_can hod, ?_,hu⟩
  rw [List.take_of_length_le hgo.1,hgo.2] at hov
  rw [eE]
  omega

theorem valI_set:∀ (l:List Int)(i:Nat)(x:Int),i<l.length->valI (l.set i x)=valI l+(10000:Int) ^ i*(x-gI l i)
 | [],i,x,h=>by simp at h
 | a::l,0,x,_=>by
  show x+10000*valI l=a+10000*valI l+1*(x-a)
  omega
 | a::l,i+1,x,h=>by
  have ih:=valI_set l i x (by simpa using h)
  show a+10000*valI (l.set i x)=a+10000*valI l+(10000:Int) ^ (i+1)*(x-gI l i)
  rw [ih,Int.mul_add,<- Int.mul_assoc,Int.pow_succ,Int.mul_comm ((10000:Int) ^ i) 10000]
  omega
theorem valI_zero (l:List Int):valI (l++[0])=valI l:=by rw [valI_snoc];omega
structure Joins (p q:List Nat)(k:Int)(i:Nat)(o:List Int):Prop where
 len:o.length=max p.length i
 val:valI o=(valP p:Nat)+k*(valP (q.take i):Nat)
 rest:∀ j,i<=j->gI o j=(gP p j:Nat)
 lim:∀ x∈o, -100000000<=x/\x<=100000000
theorem gI_nat (p:List Nat)(j:Nat):gI (p.map fun x:Nat=>(x:Int)) j=(gP p j:Nat):=by
 unfold gI gP
 rw [List.getD_eq_getElem?_getD,List.getD_eq_getElem?_getD,List.getElem?_map]
 cases p[j]? <;> rfl
theorem joins_start (p q:List Nat)(k:Int)(hp:DigP p):Joins p q k 0 (p.map fun x:Nat=>(x:Int)):=by
 refine ⟨by simp,by rw [valI_nat];simp [valP],fun j _=>gI_nat p j,fun x hx=>?_⟩
 obtain ⟨y,hy,rfl⟩:=List.mem_map.1 hx
 have:y<10000:=hp y hy
 omega
theorem Joins.zero {p q:List Nat}{k:Int}{i:Nat}{o:List Int}(h:Joins p q k i o)(hl:o.length<=i):valI (o++[0])=(valP p:Nat)+k*(valP (q.take i):Nat)/\(∀ j,i<=j->gI (o++[0]) j=(gP p j:Nat))/\(∀ x∈o++[0], -100000000<=x/\x<=100000000):=by
 refine ⟨by rw [valI_zero,h.val],fun j hj=>?_,fun x hx=>?_⟩
 ·have h1:=h.rest j hj
  have h2:gI o j=0:=by unfold gI;rw [List.getD_eq_getElem?_getD,List.getElem?_eq_none om_];rfl
  rw [<- h1,h2]
  unfold gI
  rw [List.getD_eq_getElem?_getD,List.getElem?_append_right om_]
  cases j-o.length <;> rfl
 ·rcases List.mem_append.1 hx with h1 | h1
  ·exact h.lim x h1
  ·simp at h1;subst h1;omega
theorem gI_set_ne {o:List Int}{i j:Nat}{x:Int}(h:i≠j):gI (o.set i x) j=gI o j:=by
 unfold gI
 rw [List.getD_eq_getElem?_getD,List.getD_eq_getElem?_getD,List.getElem?_set_ne h]
theorem joins_step {p q:List Nat}{k:Int}{i y:Nat}{o:List Int}(hp:DigP p)(hq:DigP q)(hk:-9999<=k/\k<=9999)(hy:q[i]?=some y)(hlen:o.length=max p.length (i+1))
  (hv:valI o=(valP p:Nat)+k*(valP (q.take i):Nat)) (hr:∀ j,i<=j->gI o j=(gP p j:Nat)) (hm:∀ x∈o, -100000000<=x/\x<=100000000) :
  Joins p q k (i+1) (o.set i (gI o i+k*(y:Nat))):=by
 have hy1:y<10000:=hq y (List.mem_of_getElem? hy)
 have hg:gP p i<10000:=gP_lt hp i
 have hmul:-99980001<=k*(y:Int)/\k*(y:Int)<=99980001:=by
  have h0:(0:Int)<=y:=by omega
  have h1:k*(y:Int)<=9999*(y:Int):=Int.mul_le_mul_of_nonneg_right hk.2 h0
  have h2:(-9999:Int)*(y:Int)<=k*(y:Int):=Int.mul_le_mul_of_nonneg_right hk.1 h0
  omega
 refine ⟨by rw [List.length_set];exact hlen, ?_,fun j hj=>?_,fun x hx=>?_⟩
 ·rw [valI_set o i _ om_,hv,valP_take hy]
  have e:((valP (q.take i)+BP ^ i*y:Nat):Int)=(valP (q.take i):Nat)+(10000:Int) ^ i*(y:Int):=by
   rw [Int.natCast_add,Int.natCast_mul,Int.natCast_pow];rfl
  rw [e,Int.mul_add,show gI o i+k*(y:Int)-gI o i=k*(y:Int) by omega,Int.mul_left_comm]
  omega
 ·rw [gI_set_ne om_];exact hr j om_
 ·rcases List.mem_or_eq_of_mem_set hx with h1 | h1
  ·exact hm x h1
  ·subst h1
   rw [hr i (Nat.le_refl _)]
   omega
theorem gI_someI {p:List Int}{k:Nat}(h:k<p.length):p[k]?=some (gI p k):=by
 unfold gI;rw [List.getD_eq_getElem?_getD,List.getElem?_eq_getElem h];rfl
theorem canP_short {l:List Nat}(h:CanP l){m:Nat}(hv:valP l<BP ^ m):l.length<=m:=by
 apply Classical.byContradiction
 intro hn
 have h1:=canP_low h om_
 have h2:BP ^ m<=BP ^ (l.length-1):=Nat.pow_le_pow_right (by decide) om_
 omega
theorem encI_len (x:Int):(encI x).length=1:=rfl
theorem encN_len (x:Nat):(encN x).length=1:=rfl
theorem carryO_fn (C:Mem)(v:Value)(p:List Int){n:Nat}(hn:p.length=n)(hpos:0<=valI p)(hb:∀ x∈p, -1000000000000<=x/\x<=1000000000000)(hl:p.length<=100000):Jog.Fn cx.P 189 [v] C [.arr v 3 1 n (p.map encI).flatten] fun u C' L'=>L'=[]/\PieC C' u (valI p).toNat :=
 Jog.Fn.give (p.map encI) kr_ (by intro r hr;obtain ⟨y,_,rfl⟩:=List.mem_map.1 hr;rfl) (by rw [List.length_map,hn]) (fun C' _ hs=>carry_fn C' v p hs hpos hb hl)
theorem joined_fn (C:Mem)(vp vq:Value)(p q:List Nat)(k:Int)(hp:Sl C 1 vp (p.map encN))(hq:Sl C 1 vq (q.map encN))(hdp:DigP p)(hdq:DigP q)(hk:-9999<=k/\k<=9999)(hpos:0<=(valP p:Int)+k*(valP q:Int))(hlp:p.length<=50000)(hlq:q.length<=50000) :
  Pur cx.P 164 [vp,vq,.int .i64 k,.int .i64 0] C fun u D=>PieC D u ((valP p:Int)+k*(valP q:Int)).toNat:=by
 obtain ⟨A0,c0,rfl,_⟩:=id hq
 simp only [List.length_map] at hq ⊢
 refine Fn.it kr_ Tryz.func164 45 fun w0=>?_
 refine G.z4 1 0 1 2 3 ?_
 refine G.rg fun R hR=>?_
 refine D.bK [] rfl rfl rfl rfl rfl rfl rfl rfl rfl rfl rfl rfl fl_ (fun b11=>?_)
 refine D.ac ?_
 refine D.append (j:=0) rfl rfl rfl rfl rfl rfl rfl rfl rfl rfl rfl hp (by rw [List.all_eq_true];intro r hr;obtain ⟨y,_,rfl⟩:=List.mem_map.1 hr;rfl) (by rw [List.length_map];simp only [List.length_nil,maxLen];omega) (by rw [List.length_map];show (0+p.length)*8<=_;omega) fl_ (fun v13=>?_)
 refine D.q4 1 1 2 3 9 hR ?_
 refine G.z5 1 1 2 3 9 10 ?_
 refine G.aY (L':=[.arr v13 3 1 (p.map fun x:Nat=>(x:Int)).length (((p.map fun x:Nat=>(x:Int)).map encI).flatten)]) (by rw [List.map_map];simp;rfl) ?_
 refine G.loop (fun fr C' L' μ=>∃ (i:Nat)(o:List Int)(w:Value),(i<=q.length/\Joins p q k i o)/\fr=[(1,[],.slice A0 q.length c0),(2,[],.int .i64 k),(3,[],.int .i64 0),(9,[],w),(10,[],.int .i64 i)]/\L'=[.arr w 3 1 o.length (o.map encI).flatten]/\μ=q.length-i) (h_5 1 2 3 9 10) ⟨0,_,_,⟨Nat.zero_le _,joins_start p q k hdp⟩,rfl,rfl,rfl⟩ (fun fr C0' L0' m hle0 hI=>?_)
 obtain ⟨i,o,w,⟨hi,hJ⟩,rfl,rfl,rfl⟩:=hI
 refine G.z6 4 1 2 3 9 10 17 ?_
 refine G.cd (fun h17=>?_) fun h17=>?_
 ·have hil:i<q.length:=by simpa using h17
  have hol:=hJ.len
  refine G.loop (fun fr C' L' μ=>∃ (o2:List Int)(w2:Value),((o2=o∨(o2=o++[0]/\o.length<=i)))/\fr=[(1,[],.slice A0 q.length c0),(2,[],.int .i64 k),(3,[],.int .i64 0),(9,[],w2),(10,[],.int .i64 i)]/\L'=[.arr w2 3 1 o2.length (o2.map encI).flatten]/\μ=i+1-o2.length) (h_5 1 2 3 9 10) ⟨o,w,.inl rfl,rfl,rfl,rfl⟩ (fun fr C1' L1' m hle1 hI=>?_)
  obtain ⟨o2,w2,ho2,rfl,rfl,rfl⟩:=hI
  refine G.rowSlice 0 rfl (fun Aw cw he=>?_)
  subst he
  have ho2l:o2.length<=50002:=by
   have h1:o2.length<=o.length+1:=by
    have h2:=ho2.imp (fun e=>congrArg List.length e) (fun e=>congrArg List.length e.1)
    rw [List.length_append,List.length_singleton] at h2
    omega
   omega
  refine G.rp 4 fun R hR=>?_
  refine D.cG (((i:Nat):Int)) rfl rfl rfl rfl om_ om_ om_ rfl rfl ?_
  refine D.q6 1 1 2 3 9 10 25 hR ?_
  refine G.cd (fun h25=>?_) fun h25=>?_
  ·have hle2:o2.length<=i:=by
    have:(o2.length:Int)<=i:=by simpa using h25
    omega
   have ho3:o2=o:=by
    refine ho2.elim id fun h=>?_
    have:=h.1 ▸ hle2
    rw [List.length_append,List.length_singleton] at this
    omega
   subst ho3
   refine G.rp 1 fun R hR=>?_
   refine D.ah [encI 0] (fun p27 C27 hle27 hs27=>?_)
   refine D.append (j:=0) rfl rfl rfl rfl rfl rfl rfl rfl rfl rfl rfl hs27 rfl (by simp only [List.length_singleton,maxLen];omega) (by show (o2.length+1)*8<=_;omega) fl_ (fun v28=>?_)
   refine D.q5 1 1 2 3 9 10 hR ?_
   refine G.aY (L':=[.arr v28 3 1 (o2++[0]).length ((o2++[0]).map encI).flatten]) (by simp [encI]) ?_
   have hm1:i+1-(o2++[0]).length<i+1-o2.length:=by rw [List.length_append,List.length_singleton];omega
   refine G.ax (m':=i+1-(o2++[0]).length) om_ mup (h_5 1 2 3 9 10) ⟨o2++[0],v28,.inr ⟨rfl,hle2⟩,rfl,rfl,rfl⟩
  ·have hlt:i<o2.length:=by
    have:¬ (o2.length:Int)<=i:=by simpa using h25
    omega
   have hfacts:o2.length=max p.length (i+1)/\valI o2=(valP p:Nat)+k*(valP (q.take i):Nat)/\(∀ j,i<=j->gI o2 j=(gP p j:Nat))/\(∀ x∈o2, -100000000<=x/\x<=100000000):=by
    refine ho2.elim (fun h=>?_) fun h=>?_
    ·subst h
     exact ⟨by omega,hJ.val,hJ.rest,hJ.lim⟩
    ·obtain ⟨h1,h2⟩:=h
     subst h1
     have h3:=hJ.zero h2
     exact ⟨by rw [List.length_append,List.length_singleton];omega,h3⟩
   obtain ⟨hlen,hv2,hr2,hm2⟩:=hfacts
   obtain ⟨hrq,hgq⟩:=gP_row (l:=q) (k:=i) hil
   have hgl:gP q i<10000:=gP_lt hdq i
   have hmul:-99980001<=k*((gP q i:Nat):Int)/\k*((gP q i:Nat):Int)<=99980001:=by
    have h0:(0:Int)<=((gP q i:Nat):Int):=by omega
    have h1:k*((gP q i:Nat):Int)<=9999*((gP q i:Nat):Int):=Int.mul_le_mul_of_nonneg_right hk.2 h0
    have h2:(-9999:Int)*((gP q i:Nat):Int)<=k*((gP q i:Nat):Int):=Int.mul_le_mul_of_nonneg_right hk.1 h0
    omega
   have hgo:=hm2 _ (List.mem_of_getElem? (gI_someI hlt))
   refine G.rowForm 0 (m:=o2.length-1) (v:=.slice Aw o2.length cw) (t:=3) (s:=1) (xs:=(o2.map encI).flatten) (by rw [show o2.length-1+1=o2.length by omega];rfl) (fun g0 cc hgc=>?_)
   injection hgc with hgc1 hgc2 hgc3
   subst hgc1 hgc3
   refine G.aH [0,1,2,3,4,5,6,7,8,9,10,11,12,13,14] [] rfl kr_ (fun R hB hR=>?_)
   refine D.ps 3 ?_
   refine D.cG (((i:Nat):Int)) rfl rfl rfl rfl om_ om_ om_ rfl rfl ?_
   refine D.ce (i*1) rfl rfl rfl rfl rfl rfl rfl rfl rfl rfl (fun _=>⟨by omega,by omega,rfl⟩) rfl rfl ?_
   refine D.loadArr (.head _) rfl rfl rfl rfl rfl rfl (fun _=>(by rw [row_read encI_len (gI_someI hlt)];rfl)) rfl rfl ?_
   refine D.ps 3 ?_
   refine D.al (hq.mono mup) rfl rfl rfl rfl rfl rfl rfl rfl rfl rfl om_ hrq fl_ (fun p38 hp38=>?_)
   refine D.aa hp38 ?_
   refine D.am _ ?_
   refine D.am _ ?_
   refine D.ce (i*1) rfl rfl rfl rfl rfl rfl rfl rfl rfl rfl (fun _=>⟨by omega,by omega,rfl⟩) rfl rfl ?_
   refine D.bH (j:=0) rfl rfl rfl rfl rfl rfl rfl rfl rfl rfl rfl (by show i*1+1<=_;rw [el encI_len];omega) ?_
   refine D.e5 1 2 3 9 10 hR ?_
   refine G.rp 1 fun R hR=>?_
   refine D.am _ ?_
   refine D.q5 1 1 2 3 9 10 hR ?_
   refine G.aY (L':=[.arr (.slice (some ⟨g0,0,none⟩) o2.length cw) 3 1 (o2.set i (gI o2 i+k*((gP q i:Nat):Int))).length ((o2.set i (gI o2 i+k*((gP q i:Nat):Int))).map encI).flatten]) (by rw [<- d9 encI_len _ hlt,List.length_set];rfl) ?_
   refine G.ax (m':=q.length-(i+1)) om_ mup (h_5 1 2 3 9 10) ⟨i+1,_,_,⟨by omega,joins_step hdp hdq hk hgq hlen hv2 hr2 hm2⟩,rfl,rfl,rfl⟩
 ·have hil:i=q.length:=by
   have:¬ i<q.length:=by simpa using h17
   omega
  have hval:valI o=(valP p:Int)+k*(valP q:Int):=by rw [hJ.val,hil,List.take_length]
  refine G.aI [(1,3)] rfl (fun R hR=>?_)
  refine D.ac ?_
  refine D.call (carryO_fn _ _ o rfl (by rw [hval];exact hpos) (fun x hx=>by have:=hJ.lim x hx;omega) (by have:=hJ.len;omega)) rfl (.inr (by decide)) rfl rfl rfl rfl rfl rfl (List.Perm.refl _) fl_ (fun v44 C44 L44 hle44 hq44=>?_)
  obtain ⟨rfl,hu⟩:=hq44
  refine D.q1 1 8 hR ?_
  refine G.rf ?_
  rw [hval] at hu
  exact ⟨rfl,hu⟩

theorem zrow_N (n:Nat):zrow ([.int .i64 0]:List Value) n=((List.replicate n 0).map encN).flatten:=by
 rw [cY,List.map_replicate];rfl
theorem valP_drop {l:List Nat}{j:Nat}(h:j<l.length):valP (l.drop j)=gP l j+BP*valP (l.drop (j+1)):=by
 rw [List.drop_eq_getElem_cons h,(List.getElem?_eq_some_iff.1 (gP_row h).2).2];rfl
theorem valP_set_drop {l:List Nat}{j x:Nat}(h:j<l.length):valP ((l.set j x).drop j)=x+BP*valP (l.drop (j+1)):=by
 rw [valP_drop (by rw [List.length_set];exact h),List.drop_set_of_lt om_]
 congr 1
 unfold gP
 rw [List.getD_eq_getElem?_getD,List.getElem?_set_self h];rfl
theorem digP_set {l:List Nat}(h:DigP l){j x:Nat}(hx:x<BP):DigP (l.set j x):=fun y hy=>by
 rcases List.mem_or_eq_of_mem_set hy with h1 | h1
 ·exact h y h1
 ·rw [h1];exact hx
theorem parts_fn (C:Mem)(vp vq:Value)(p q:List Nat)(hp:Sl C 1 vp (p.map encN))(hq:Sl C 1 vq (q.map encN))(hdp:DigP p)(hcq:CanP q)(hQ:0<valP q)(hlp:p.length<=10000)(hlq:q.length<=10000) :
  Pur cx.P 162 [vp,vq] C fun u D=>∃ u1 u2,u=.tuple #[u1,u2]/\PieC D u1 (valP p / valP q)/\PieC D u2 (valP p % valP q):=by
 obtain ⟨A0,c0,rfl,_⟩:=id hp
 obtain ⟨B0,d0,rfl,_⟩:=id hq
 simp only [List.length_map] at hp hq ⊢
 refine Fn.it kr_ Tryz.func162 58 fun w0=>?_
 refine G.z2 2 0 1 ?_
 refine G.rp 2 fun R hR=>?_
 refine D.cP rfl rfl rfl rfl rfl rfl rfl rfl rfl (Nat.le_refl _) (by show 8*p.length<=281474976710656;omega) (by simp only [maxLen];omega) fl_ (fun b14=>?_)
 refine D.q3 1 0 1 6 hR ?_
 refine G.z4 1 0 1 6 7 ?_
 refine G.rp 2 fun R hR=>?_
 refine D.am _ ?_
 refine D.q5 1 0 1 6 7 8 hR ?_
 refine G.aY (L':=[.arr (qW b14 p.length p.length) 3 1 p.length ((List.replicate p.length 0).map encN).flatten]) (by rw [<- zrow_N];rfl) ?_
 refine G.loop (fun fr C' L' μ=>∃ (k:Nat)(o l:List Nat)(vr:Value),(k<=p.length/\o.length=p.length/\DigP o/\valP (o.drop k)=valP (p.drop k) / valP q/\Sl C' 1 vr (l.map encN)/\CanP l/\valP l=valP (p.drop k) % valP q)/\fr=[(0,[],.slice A0 p.length c0),(1,[],.slice B0 q.length d0),(6,[],qW b14 p.length p.length),(7,[],vr),(8,[],.int .i64 ((k:Int)-1))]/\L'=[.arr (qW b14 p.length p.length) 3 1 p.length (o.map encN).flatten]/\μ=k+1) (h_5 0 1 6 7 8) ⟨p.length,List.replicate p.length 0,[],.slice none 0 0,⟨Nat.le_refl _,List.length_replicate,(fun x hx=>by rw [List.eq_of_mem_replicate hx];decide),by rw [List.drop_length,List.drop_of_length_le (by simp)];simp [valP],Sl.nil _ _,⟨fun x hx=>(by cases hx),by simp⟩,by rw [List.drop_length];simp [valP]⟩,rfl,rfl,rfl⟩ (fun fr C0' L0' m hle0 hI=>?_)
 obtain ⟨k,o,l,vr,⟨hk,hol,hod,hov,hs,hcl,hlv⟩,rfl,rfl,rfl⟩:=hI
 refine G.z6 2 0 1 6 7 8 19 ?_
 refine G.cd (fun h19=>?_) fun h19=>?_
 ·have hk0:0<k:=by
   have:(0:Int)<=(k:Int)-1:=by simpa using h19
   omega
  obtain ⟨j,rfl⟩:∃ j,k=j+1:=⟨k-1,by omega⟩
  rw [show ((j+1:Nat):Int)-1=(j:Int) by omega]
  obtain ⟨hrj,hgj⟩:=gP_row (l:=p) (k:=j) om_
  have hx:gP p j<BP:=gP_lt hdp j
  have hx2:gP p j<10000:=hx
  have hllen:l.length<=q.length:=canP_short hcl (by rw [hlv];exact Nat.lt_trans (Nat.mod_lt _ hQ) (valP_lt hcq.1))
  have hrd:DigP (gP p j::l):=fun y hy=>by
   rcases List.mem_cons.1 hy with h | h
   ·rw [h];exact hx
   ·exact hcl.1 y h
  refine G.aI [(7,3)] rfl (fun R hR=>?_)
  refine D.ps 2 ?_
  refine D.al (hp.mono mup) rfl rfl rfl rfl rfl rfl rfl rfl rfl rfl om_ hrj fl_ (fun p24 hp24=>?_)
  refine D.aa hp24 ?_
  refine D.bK [encN (gP p j)] rfl rfl rfl rfl rfl rfl rfl rfl rfl rfl rfl rfl fl_ (fun b26=>?_)
  refine D.ac ?_
  refine D.append (j:=0) rfl rfl rfl rfl rfl rfl rfl rfl rfl rfl rfl (hs.mono mup) (by rw [List.all_eq_true];intro r hr;obtain ⟨y,_,rfl⟩:=List.mem_map.1 hr;rfl) (by rw [List.length_map];simp only [List.length_singleton,maxLen];omega) (by rw [List.length_map];show (1+l.length)*8<=_;omega) fl_ (fun v28=>?_)
  refine D.call (cutO_fn _ _ (gP p j::l) (n:=1+(l.map encN).length) (by rw [List.length_map];simp;omega)) rfl (.inr (by decide)) rfl rfl rfl rfl rfl rfl (List.Perm.refl _) fl_ (fun v29 C29 L29 hle29 hq29=>?_)
  obtain ⟨rfl,hu⟩:=hq29
  refine D.q5 1 0 1 6 7 8 hR ?_
  obtain ⟨r,hrc,hrv,hrs,hrl⟩:∃ r,CanP r/\valP r=gP p j+BP*(valP (p.drop (j+1)) % valP q)/\Sl C29 1 v29 (r.map encN)/\r.length<=20000:=⟨cutP (gP p j::l),cutP_can hrd,by rw [eE];show gP p j+BP*valP l=_;rw [hlv],hu,by unfold cutP;rw [List.length_take,List.length_cons];omega⟩
  have hdm:=div_piece (t:=valP (p.drop (j+1))) (x:=gP p j) hQ
  rw [<- valP_drop om_,<- hrv] at hdm
  have hdl:valP r / valP q<BP:=by rw [hrv];exact div_piece_lt hQ hx
  have hdl2:valP r / valP q<10000:=hdl
  refine G.z7 2 0 1 6 7 8 9 10 ?_
  refine G.loop (fun fr C' L' μ=>∃ (low high:Nat),(low<=valP r / valP q/\valP r / valP q<=high/\high<=9999)/\fr=[(0,[],.slice A0 p.length c0),(1,[],.slice B0 q.length d0),(6,[],qW b14 p.length p.length),(7,[],v29),(8,[],.int .i64 j),(9,[],.int .i64 low),(10,[],.int .i64 high)]/\L'=[.arr (qW b14 p.length p.length) 3 1 p.length (o.map encN).flatten]/\μ=high-low) (h_7 0 1 6 7 8 9 10) ⟨0,9999,⟨Nat.zero_le _,by omega,Nat.le_refl _⟩,rfl,rfl,rfl⟩ (fun fr C1' L1' m hle1 hI=>?_)
  obtain ⟨low,high,⟨hlo,hhi,hh9⟩,rfl,rfl,rfl⟩:=hI
  refine G.z8 3 0 1 6 7 8 9 10 32 ?_
  refine G.cd (fun h32=>?_) fun h32=>?_
  ·have hlh:low<high:=by simpa using h32
   obtain ⟨hv1,hv2⟩:=halving hQ hlo hhi hlh
   refine G.rp 2 fun R hR=>?_
   refine D.am _ ?_
   refine D.am _ ?_
   refine D.quoT ((((low+high+1) / 2:Nat):Int)) rfl rfl rfl rfl rfl rfl om_ (by rw [Int.tdiv_eq_ediv_of_nonneg om_];omega) (by rw [IntKind.wrap_i64];omega) rfl rfl ?_
   refine D.q8 1 0 1 6 7 8 9 10 11 hR ?_
   refine G.rp 3 fun R hR=>?_
   refine D.aP (joined_fn _ _ _ [] q ((((low+high+1) / 2:Nat):Int)) (Sl.nil _ _) (hq.mono mup) (fun x hx=>(by cases hx)) hcq.1 om_ (by rw [<- Int.natCast_mul];omega) (by simp) om_) rfl rfl rfl rfl rfl rfl rfl fl_ (fun v41 C41 hle41 hq41=>?_)
   obtain ⟨l2,hc2,hv3,hs2⟩:=hq41
   have hv4:valP l2=valP q*((low+high+1) / 2):=by
    have h0:((valP ([]:List Nat):Nat):Int)=0:=rfl
    rw [hv3,h0,Int.zero_add,<- Int.natCast_mul,Int.toNat_natCast,Nat.mul_comm]
   refine D.af (pless_fn _ _ _ r l2 (hrs.mono mup) (hs2.mono mup) hrc hc2) ?_
   refine D.e9 0 1 6 7 8 9 10 11 42 hR ?_
   refine G.cd (fun h42=>?_) fun h42=>?_
   ·have hlt:valP r<valP q*((low+high+1) / 2):=by
     rw [<- hv4];simpa using h42
    have hv5:=hv1 hlt
    refine G.rp 1 fun R hR=>?_
    refine D.am _ ?_
    refine D.q7 1 0 1 6 7 8 9 10 hR ?_
    rw [show ((((low+high+1) / 2:Nat):Int))-1=(((low+high+1) / 2-1:Nat):Int) by omega]
    refine G.ax (m':=(low+high+1) / 2-1-low) om_ mup (h_7 0 1 6 7 8 9 10) ⟨low,(low+high+1) / 2-1,⟨hv5.1,hv5.2,by omega⟩,rfl,rfl,rfl⟩
   ·have hlt:¬ valP r<valP q*((low+high+1) / 2):=by
     rw [<- hv4];simpa using h42
    have hv5:=hv2 hlt
    refine G.z7 2 0 1 6 7 8 9 10 ?_
    refine G.ax (m':=high-(low+high+1) / 2) om_ mup (h_7 0 1 6 7 8 9 10) ⟨(low+high+1) / 2,high,⟨hv5.1,hv5.2,hh9⟩,rfl,rfl,rfl⟩
  ·have hlh:low=valP r / valP q:=by
    have:¬ low<high:=by simpa using h32
    omega
   have hrm:((valP r:Nat):Int) + -(low:Int)*((valP q:Nat):Int)=((valP r % valP q:Nat):Int):=by
    have h1:=Nat.div_add_mod (valP r) (valP q)
    rw [<- hlh] at h1
    have h2:((valP q*low+valP r % valP q:Nat):Int)=(valP r:Nat):=by rw [h1]
    rw [Int.natCast_add,Int.natCast_mul] at h2
    rw [Int.neg_mul,Int.mul_comm (low:Int)]
    omega
   refine G.rp 3 fun R hR=>?_
   refine D.ce (j*1) rfl rfl rfl rfl rfl rfl rfl rfl rfl rfl (fun _=>⟨by omega,by omega,rfl⟩) rfl rfl ?_
   refine D.bH (j:=0) rfl rfl rfl rfl rfl rfl rfl rfl rfl rfl rfl (by show j*1+1<=_;rw [el encN_len];omega) ?_
   refine D.e6 0 1 6 7 8 9 hR ?_
   refine G.rp 4 fun R hR=>?_
   rw [show IntKind.i64.wrap (0-(low:Int))=-(low:Int) by rw [IntKind.wrap_i64];omega]
   refine D.aP (joined_fn _ _ _ r q (-(low:Int)) (hrs.mono mup) (hq.mono mup) hrc.1 hcq.1 om_ (by rw [hrm];omega) om_ om_) rfl rfl rfl rfl rfl rfl rfl fl_ (fun v54 C54 hle54 hq54=>?_)
   obtain ⟨l3,hc3,hv6,hs3⟩:=hq54
   rw [hrm,Int.toNat_natCast] at hv6
   refine D.q5 1 0 1 6 7 8 hR ?_
   refine G.rp 1 fun R hR=>?_
   refine D.am _ ?_
   refine D.q5 1 0 1 6 7 8 hR ?_
   refine G.aY (L':=[.arr (qW b14 p.length p.length) 3 1 p.length ((o.set j low).map encN).flatten]) (by rw [<- d9 encN_len _ (by omega:j<o.length)];rfl) ?_
   refine G.ax (m':=j+1) om_ mup (h_5 0 1 6 7 8) ⟨j,o.set j low,l3,_,⟨by omega,by rw [List.length_set];exact hol,digP_set hod (by show low<BP;omega),by rw [valP_set_drop om_,hov,hdm.1,hlh];omega,hs3.mono mup,hc3,by rw [hv6,hdm.2,hrv]⟩,rfl,rfl,rfl⟩
 ·have hk0:k=0:=by
   have:¬ (0:Int)<=(k:Int)-1:=by simpa using h19
   omega
  subst hk0
  refine G.aI [(1,3)] rfl (fun R hR=>?_)
  refine D.ac ?_
  refine D.call (cutO_fn _ _ o hol) rfl (.inr (by decide)) rfl rfl rfl rfl rfl rfl (List.Perm.refl _) fl_ (fun v56 C56 L56 hle56 hq56=>?_)
  obtain ⟨rfl,hu⟩:=hq56
  refine D.q2 3 4 5 hR ?_
  refine G.az (G.dropAll (G.aK rfl rfl rfl ?_))
  exact ⟨rfl,_,_,rfl,⟨cutP o,cutP_can hod,by rw [eE,<- List.drop_zero (l:=o),hov,List.drop_zero],hu⟩,⟨l,hcl,by rw [hlv,List.drop_zero],hs.mono mup⟩⟩

theorem bU (z:Int):bq 45 (txt z)=(decS z.natAbs,decide (z<0)):=by
 unfold txt
 split
 ·rename_i h
  rw [decide_eq_true h];rfl
 ·rename_i h
  rw [decide_eq_false h]
  unfold bq
  rw [if_neg]
  intro h0
  have h1:=(aO z.natAbs).1.1 45 (List.mem_of_mem_head? h0)
  revert h1;decide
theorem txt_zero (z:Int):txt z=[48] ↔ z=0:=by
 constructor
 ·intro h
  have h1:(bq 45 (txt z)).1=[48]:=by rw [h];rfl
  rw [bU] at h1
  have h2:=(aO z.natAbs).2
  have h3:decS z.natAbs=[48]:=h1
  rw [h3] at h2
  have h4:decV [48]=0:=rfl
  omega
 ·rintro rfl
  unfold txt
  rw [if_neg om_,show decS (0:Int).natAbs=decS 0 from rfl,decS];rfl
theorem txtEq0 (z:Int):((⟨(txt z).toArray⟩:ByteArray).data.toList == (⟨#[48]⟩:ByteArray).data.toList)=decide (z=0):=by
 show (txt z == [48])=_
 rw [eqStr,decide_eq_decide];exact txt_zero z
theorem bM (n:Nat):txt (n:Int)=decS n:=by
 unfold txt
 rw [if_neg om_];rfl
theorem dy (C:Mem)(z:Int):Gives cx.P 159 [strV (txt z)] C (.tuple #[.bool (decide (z<0)),strV (decS z.natAbs)]):=by
 have h:=split_fn C (txt z)
 rwa [bU] at h
theorem decV_tk10 {s:Str}{i:Nat}{c:UInt8}(h:s[i]?=some c):decV (s.take (i+1))=10*decV (s.take i)+(c.toNat-48):=by
 rw [decV_tk h];omega
theorem decV_le17 {s:Str}(hs:∀ c∈s,digB c=true)(hl:s.length<=17)(i:Nat):decV (s.take i)<100000000000000000:=by
 have h1:=co (s:=s.take i) (fun c hc=>hs c (List.mem_of_mem_take hc))
 have h2:10 ^ (s.take i).length<=10 ^ 17:=Nat.pow_le_pow_right (by decide) (by rw [List.length_take];omega)
 omega
theorem small_fn (C:Mem)(z:Int)(hl:(decS z.natAbs).length<=17):Gives cx.P 186 [strV (txt z)] C (.tuple #[.int .i64 z,.bool true]):=by
 obtain ⟨s,hsd⟩:∃ s,decS z.natAbs=s:=⟨_,rfl⟩
 have hs:=(aO z.natAbs).1.1
 have hv:=(aO z.natAbs).2
 rw [hsd] at hl hs hv
 refine Fn.it kr_ Tryz.func186 45 fun w0=>?_
 refine G.z1 2 0 ?_
 refine G.rp 1 fun R hR=>?_
 refine D.ai (by have h:=dy C z;rw [hsd] at h;exact h) rfl rfl rfl rfl rfl rfl rfl fl_ ?_
 refine D.q2 5 4 5 hR ?_
 refine G.z3 3 4 5 16 ?_
 refine G.cd (fun h16=>?_) fun h16=>?_
 ·exfalso
  have:(s.length:Int) > 19:=by simpa using h16
  omega
 ·refine G.z3 1 4 5 6 ?_
  refine G.z4 1 4 5 6 7 ?_
  refine G.loop (fun fr C' L' μ=>∃ (i:Nat),(i<=s.length)/\fr=[(4,[],.bool (decide (z<0))),(5,[],strV s),(6,[],.int .i64 (-((decV (s.take i):Nat):Int))),(7,[],.int .i64 i)]/\L'=[]/\μ=s.length-i) (h_4 4 5 6 7) ⟨0,Nat.zero_le _,rfl,rfl,rfl⟩ (fun fr C0' L0' m hle0 hI=>?_)
  obtain ⟨i,hi,rfl,rfl,rfl⟩:=hI
  refine G.z5 4 4 5 6 7 20 ?_
  refine G.cd (fun h20=>?_) fun h20=>?_
  ·have hil:i<s.length:=by simpa using h20
   obtain ⟨c,hc⟩:∃ c,s[i]?=some c:=⟨s[i],List.getElem?_eq_getElem hil⟩
   have hcd:=hs c (List.mem_of_getElem? hc)
   have hcr:48<=c.toNat/\c.toNat<=57:=by simpa [digB] using hcd
   have hV:=decV_le17 hs hl i
   have htd:(-9223372036854775808+(((c.toNat:Nat):Int)-48)).tdiv 10=-((9223372036854775808-(((c.toNat:Nat):Int)-48)) / 10):=by
    rw [show (-9223372036854775808+(((c.toNat:Nat):Int)-48))=-(9223372036854775808-(((c.toNat:Nat):Int)-48)) by omega,Int.neg_tdiv,Int.tdiv_eq_ediv_of_nonneg om_]
   refine G.rp 2 fun R hR=>?_
   refine D.bf rfl rfl rfl rfl rfl rfl rfl rfl (fun _=>⟨by omega,hc⟩) rfl rfl ?_
   refine D.cR (c:=((c.toNat:Nat):Int)) rfl rfl rfl rfl rfl rfl rfl rfl (by rw [IntKind.wrap_i64];omega) fl_ ?_
   refine D.am _ ?_
   refine D.q5 1 4 5 6 7 8 hR ?_
   refine G.rp 2 fun R hR=>?_
   refine D.am _ ?_
   refine D.quoT (-((9223372036854775808-(((c.toNat:Nat):Int)-48)) / 10)) rfl rfl rfl rfl rfl rfl om_ htd (by rw [IntKind.wrap_i64];omega) rfl rfl ?_
   refine D.q6 1 4 5 6 7 8 32 hR ?_
   refine G.cd (fun h32=>?_) fun h32=>?_
   ·exfalso
    simp only [decide_eq_true_eq] at h32
    omega
   ·refine G.rp 1 fun R hR=>?_
    refine D.am _ ?_
    refine D.ac ?_
    refine D.am _ ?_
    refine D.q4 1 4 5 6 7 hR ?_
    refine G.rp 1 fun R hR=>?_
    refine D.am _ ?_
    refine D.q4 1 4 5 6 7 hR ?_
    rw [show 10 * -((decV (s.take i):Nat):Int)-(((c.toNat:Nat):Int)-48)=-((decV (s.take (i+1)):Nat):Int) by rw [decV_tk10 hc];omega]
    refine G.ax (m':=s.length-(i+1)) om_ mup (h_4 4 5 6 7) ⟨i+1,om_,rfl,rfl,rfl⟩
  ·have hil:i=s.length:=by
    have:¬ i<s.length:=by simpa using h20
    omega
   rw [hil,List.take_length,hv]
   refine G.z2 2 6 37 ?_
   refine G.cd (fun h37=>?_) fun h37=>?_
   ·have hz:z<0:=by simpa using h37
    refine G.z2 3 2 3 ?_
    refine G.az (G.dropAll (G.aK rfl rfl rfl ?_))
    refine ⟨?_,rfl⟩
    rw [show -((z.natAbs:Nat):Int)=z by omega]
   ·have hz:¬ z<0:=by simpa using h37
    have hzl:z.natAbs<100000000000000000:=by
     have:=decV_le17 hs hl s.length
     rwa [List.take_length,hv] at this
    refine G.z2 3 6 40 ?_
    refine G.cd (fun h40=>?_) fun h40=>?_
    ·exfalso
     simp at h40
     omega
    ·refine G.z2 4 2 3 ?_
     refine G.az (G.dropAll (G.aK rfl rfl rfl ?_))
     refine ⟨?_,rfl⟩
     rw [show IntKind.i64.wrap (0 - -((z.natAbs:Nat):Int))=z by rw [IntKind.wrap_i64];omega]
theorem brief_fn (C:Mem)(z:Int):Gives cx.P 161 [strV (txt z)] C (.tuple #[.int .i64 (if (decS z.natAbs).length<=17 then z else 0),.bool (decide ((decS z.natAbs).length<=17))]):=by
 refine Fn.it kr_ Tryz.func161 18 fun w0=>?_
 refine G.z1 2 0 ?_
 refine G.rp 1 fun R hR=>?_
 refine D.af (dy C z) ?_
 refine D.q2 5 0 5 hR ?_
 refine G.z2 3 0 13 ?_
 refine G.cd (fun h13=>?_) fun h13=>?_
 ·have hn:¬ (decS z.natAbs).length<=17:=by
   have:((decS z.natAbs).length:Int) > 17:=by simpa using h13
   omega
  refine G.z2 2 2 3 ?_
  refine G.az (G.dropAll (G.aK rfl rfl rfl ?_))
  rw [if_neg hn,decide_eq_false hn]
  exact ⟨rfl,rfl⟩
 ·have hn:(decS z.natAbs).length<=17:=by
   have:¬ ((decS z.natAbs).length:Int) > 17:=by simpa using h13
   omega
  refine G.rp 1 fun R hR=>?_
  refine D.af (small_fn _ z hn) ?_
  refine D.q2 4 2 3 hR ?_
  refine G.az (G.dropAll (G.aK rfl rfl rfl ?_))
  rw [if_pos hn,decide_eq_true hn]
  exact ⟨rfl,rfl⟩
theorem of_ref_fn (C:Mem)(hT:Tabs C)(z:Int)(h0:-9223372036854775808<=z)(h1:z<=9223372036854775807):Gives cx.P 81 [.int .i64 z] C (strV (txt z)):=by
 refine Fn.it kr_ Tryz.func81 5 fun w0=>?_
 refine G.z1 1 0 ?_
 refine G.rp 1 fun R hR=>?_
 refine D.af (itoaZ_g _ hT z h0 h1) ?_
 refine D.q1 1 2 hR ?_
 refine G.rf ?_
 exact ⟨rfl,rfl⟩
theorem sign_ref_fn (C:Mem)(z:Int):Gives cx.P 123 [strV (txt z)] C (.int .i64 (if z<0 then -1 else if z=0 then 0 else 1)):=by
 refine Fn.it kr_ Tryz.func123 13 fun w0=>?_
 refine G.z1 1 0 ?_
 refine G.rp 1 fun R hR=>?_
 refine D.af (dy C z) ?_
 refine D.q2 5 0 3 hR ?_
 refine G.z2 1 0 10 ?_
 refine G.cd (fun h10=>?_) fun h10=>?_
 ·have hz:z<0:=by simpa using h10
  refine G.z1 1 2 ?_
  refine G.rf ?_
  rw [if_pos hz]
  exact ⟨rfl,rfl⟩
 ·have hz:¬ z<0:=by simpa using h10
  rw [if_neg hz]
  refine G.z1 2 12 ?_
  refine G.cd (fun h12=>?_) fun h12=>?_
  ·rw [txtEq0] at h12
   have hz0:z=0:=by simpa using h12
   refine G.z1 1 2 ?_
   refine G.rf ?_
   rw [if_pos hz0]
   exact ⟨rfl,rfl⟩
  ·rw [txtEq0] at h12
   have hz0:¬ z=0:=by simpa using h12
   refine G.z1 1 2 ?_
   refine G.rf ?_
   rw [if_neg hz0]
   exact ⟨rfl,rfl⟩
theorem neg_ref_fn (C:Mem)(z:Int)(hl:(decS z.natAbs).length<=1000000):Gives cx.P 124 [strV (txt z)] C (strV (txt (-z))):=by
 refine Fn.it kr_ Tryz.func124 18 fun w0=>?_
 refine G.z1 1 0 ?_
 refine G.rp 1 fun R hR=>?_
 refine D.af (dy C z) ?_
 refine D.q3 5 0 3 4 hR ?_
 refine G.rp 4 fun R hR=>?_
 refine D.aF rfl rfl rfl rfl rfl rfl rfl rfl ?_
 refine D.e2 4 14 hR ?_
 refine G.cd (fun h14=>?_) fun h14=>?_
 ·rw [txtEq0] at h14
  have hz:z<=0:=by simp at h14;omega
  refine G.z1 2 2 ?_
  refine G.rf ?_
  refine ⟨?_,rfl⟩
  rw [show txt (-z)=decS z.natAbs by rw [show -z=((z.natAbs:Nat):Int) by omega,bM]]
 ·rw [txtEq0] at h14
  have hz:0<z:=by simp at h14;omega
  refine G.rp 1 fun R hR=>?_
  refine D.cg rfl rfl rfl rfl rfl rfl (fun _=>(by simp only [List.length_cons,List.length_nil];omega)) rfl rfl ?_
  refine D.q1 1 2 hR ?_
  refine G.rf ?_
  refine ⟨?_,rfl⟩
  rw [show txt (-z)=45::decS z.natAbs by unfold txt;rw [if_pos om_];congr 2;omega];rfl
theorem abs_ref_fn (C:Mem)(z:Int):Gives cx.P 160 [strV (txt z)] C (strV (decS z.natAbs)):=by
 refine Fn.it kr_ Tryz.func160 11 fun w0=>?_
 refine G.z1 1 0 ?_
 refine G.rp 1 fun R hR=>?_
 refine D.af (dy C z) ?_
 refine D.q1 5 4 hR ?_
 refine G.z1 2 2 ?_
 refine G.rf ?_
 exact ⟨rfl,rfl⟩

theorem BP200:BP ^ 200=10 ^ 800:=by decide +kernel
theorem ec {n:Nat}(h:n<BP ^ 200):(decS n).length<=800:=cO (by rw [<- BP200];exact h) om_
theorem PieC.take {D:Mem}{u:Value}{n:Nat}(h:PieC D u n)(hn:n<BP ^ 201):∃ l,CanP l/\valP l=n/\l.length<=201/\Sl D 1 u (l.map encN):=by
 obtain ⟨l,h1,h2,h3⟩:=h
 exact ⟨l,h1,h2,canP_short h1 (by rw [h2];exact hn),h3⟩
theorem takeN_fn (C:Mem)(n:Nat)(h:n<BP ^ 200):Pur cx.P 163 [strV (decS n)] C fun u D=>∃ l,CanP l/\valP l=n/\l.length<=200/\Sl D 1 u (l.map encN) :=
 (take_fn C (decS n) (aO n).1.1 (by have:=ec h;omega)).mono fun u D _ _ ⟨h0,l,h1,h2,h3⟩=>⟨h0,l,h1,by rw [h2,(aO n).2],canP_short h1 (by rw [h2,(aO n).2];exact h),h3⟩
theorem BP_lt:BP ^ 200+BP ^ 200<BP ^ 201:=by decide +kernel
theorem brief_lt {z:Int}(h:(decS z.natAbs).length<=17):z.natAbs<100000000000000000:=by
 have h1:=co (aO z.natAbs).1.1
 rw [(aO z.natAbs).2] at h1
 have h2:10 ^ (decS z.natAbs).length<=10 ^ 17:=Nat.pow_le_pow_right (by decide) h
 omega
theorem sg_same {z w:Int}(h:decide (z<0)=decide (w<0)):sgZ (decide (z<0)) (z.natAbs+w.natAbs)=z+w:=by
 rw [decide_eq_decide] at h
 unfold sgZ
 by_cases hz:z<0
 ·have:=h.1 hz;rw [decide_eq_true hz,if_pos rfl];omega
 ·have:¬ w<0:=fun h1=>hz (h.2 h1)
  rw [decide_eq_false hz,if_neg (by simp)];omega
theorem sg_more {z w:Int}(h:decide (z<0)≠decide (w<0))(hl:¬ z.natAbs<w.natAbs):sgZ (decide (z<0)) (z.natAbs-w.natAbs)=z+w:=by
 rw [ne_eq,decide_eq_decide] at h
 unfold sgZ
 by_cases hz:z<0
 ·have:¬ w<0:=fun h1=>h ⟨fun _=>h1,fun _=>hz⟩
  rw [decide_eq_true hz,if_pos rfl];omega
 ·have:w<0:=Classical.byContradiction fun h1=>h ⟨fun h2=>absurd h2 hz,fun h2=>absurd h2 h1⟩
  rw [decide_eq_false hz,if_neg (by simp)];omega

theorem split_dec (C:Mem)(n:Nat):Gives cx.P 159 [strV (decS n)] C (.tuple #[.bool false,strV (decS n)]):=by
 have h:=dy C (n:Int)
 rw [bM,decide_eq_false om_] at h
 exact h
theorem brief_dec (C:Mem)(n:Nat):Gives cx.P 161 [strV (decS n)] C (.tuple #[.int .i64 (if (decS n).length<=17 then (n:Int) else 0),.bool (decide ((decS n).length<=17))]):=by
 have h:=brief_fn C (n:Int)
 rw [bM] at h
 exact h
theorem briefN_lt {n:Nat}(h:(decS n).length<=17):n<100000000000000000:=brief_lt (z:=(n:Int)) h
theorem of_dec (C:Mem)(hT:Tabs C)(n:Nat)(h:n<=9223372036854775807):Gives cx.P 81 [.int .i64 n] C (strV (decS n)):=by
 have h:=of_ref_fn C hT (n:Int) om_ om_
 rwa [bM] at h
theorem made_dec (C:Mem)(hT:Tabs C)(v:Value)(l:List Nat)(hv:Sl C 1 v (l.map encN))(hd:DigP l)(hl:l.length<=100000):Gives cx.P 165 [.bool false,v] C (strV (decS (valP l))):=by
 have h:=made_fn C hT false v l hv hd hl
 rw [show sgZ false (valP l)=((valP l:Nat):Int) from rfl,bM] at h
 exact h
theorem wrapN {q:Nat}(h:q<=9223372036854775807):IntKind.i64.wrap ((q:Nat):Int)=(q:Nat):=by rw [IntKind.wrap_i64];omega
theorem divmod_ref_fn (C:Mem)(hT:Tabs C)(a b:Nat)(ha:a<BP ^ 200)(hb:b<BP ^ 200)(hb0:0<b):Gives cx.P 126 [strV (decS a),strV (decS b)] C (.tuple #[strV (decS (a / b)),strV (decS (a % b))]):=by
 have hBl:=BP_lt
 refine Fn.it kr_ Tryz.func126 93 fun w0=>?_
 refine G.z2 2 0 1 ?_
 refine G.rp 1 fun R hR=>?_
 refine D.af (brief_dec C a) ?_
 refine D.q4 5 0 1 6 7 hR ?_
 refine G.rp 1 fun R hR=>?_
 refine D.af (brief_dec _ b) ?_
 refine D.q6 5 0 1 6 7 8 9 hR ?_
 refine G.rp 3 fun R hR=>?_
 refine D.aq ?_
 refine D.e5 0 1 6 8 31 hR ?_
 refine G.cd (fun h31=>?_) fun h31=>?_
 ·have hs:(decS a).length<=17/\(decS b).length<=17:=by simpa using h31
  have h1:=briefN_lt hs.1
  have h2:=briefN_lt hs.2
  rw [if_pos hs.1,if_pos hs.2]
  have h0:=Nat.div_le_self a b
  refine G.aH [0,1,2,3,4,5,6,7] [] rfl kr_ (fun R hB hR=>?_)
  refine D.ps 2 ?_
  refine D.quoT (((a / b:Nat):Int)) rfl rfl rfl rfl rfl rfl om_ (by rw [Int.tdiv_eq_ediv_of_nonneg om_];rfl) (wrapN om_) rfl rfl ?_
  refine D.ps 2 ?_
  refine D.rem rfl rfl rfl rfl rfl rfl om_ om_ rfl rfl ?_
  refine D.q4 2 6 8 10 11 hR ?_
  refine G.z5 2 6 8 10 11 39 ?_
  refine G.cd (fun h39=>?_) fun h39=>?_
  ·exfalso
   have h3:=Int.emod_nonneg (a:Int) (show (b:Int)≠0 by omega)
   simp only [decide_eq_true_eq] at h39
   omega
  ·rw [<- Int.natCast_emod]
   have h3:=Nat.div_le_self a b
   have h4:=Nat.mod_lt a hb0
   refine G.rp 1 fun R hR=>?_
   refine D.ai (of_dec _ hT (a / b) om_) rfl rfl rfl rfl rfl rfl rfl fl_ ?_
   refine D.ac ?_
   refine D.ai (of_dec _ hT (a % b) om_) rfl rfl rfl rfl rfl rfl rfl fl_ ?_
   refine D.q2 2 4 5 hR ?_
   refine G.az (G.dropAll (G.aK rfl rfl rfl ?_))
   exact ⟨rfl,rfl⟩
 ·refine G.rp 1 fun R hR=>?_
  refine D.af (split_dec _ a) ?_
  refine D.q3 5 1 12 13 hR ?_
  refine G.rp 1 fun R hR=>?_
  refine D.af (split_dec _ b) ?_
  refine D.q4 5 12 13 14 15 hR ?_
  refine G.rp 1 fun R hR=>?_
  refine D.aX (takeN_fn _ a ha) (fun v67 C67 hle67 hq67=>?_)
  obtain ⟨lp,hcp,hvp,hlp,hsp⟩:=hq67
  refine D.ac ?_
  refine D.aX (takeN_fn _ b hb) (fun v69 C69 hle69 hq69=>?_)
  obtain ⟨lq,hcq,hvq,hlq,hsq⟩:=hq69
  refine D.aP (parts_fn _ _ _ lp lq (hsp.mono mup) (hsq.mono mup) hcp.1 hcq om_ om_ om_) rfl rfl rfl rfl rfl rfl rfl fl_ (fun v70 C70 hle70 hq70=>?_)
  obtain ⟨u1,u2,rfl,hu1,hu2⟩:=hq70
  rw [hvp,hvq] at hu1 hu2
  obtain ⟨l1,hc1,hv1,hl1,hs1⟩:=PieC.take hu1 (by have:=Nat.div_le_self a b;omega)
  obtain ⟨l2,hc2,hv2,hl2,hs2⟩:=PieC.take hu2 (by have:=Nat.mod_lt a hb0;omega)
  obtain ⟨A2,c2,rfl,_⟩:=id hs2
  refine D.q5 5 12 14 15 16 17 hR ?_
  refine G.rp 5 fun R hR=>?_
  refine D.aq ?_
  refine D.e6 12 14 15 16 17 78 hR ?_
  refine G.cd (fun h78=>?_) fun h78=>?_
  ·exfalso
   simp at h78
  ·refine G.rp 4 fun R hR=>?_
   refine D.ai (made_dec _ (hT.mono mup) _ l1 (hs1.mono mup) hc1.1 om_) rfl rfl rfl rfl rfl rfl rfl fl_ ?_
   refine D.ac ?_
   refine D.ai (made_dec _ (hT.mono mup) _ l2 (hs2.mono mup) hc2.1 om_) rfl rfl rfl rfl rfl rfl rfl fl_ ?_
   refine D.q2 2 4 5 hR ?_
   refine G.az (G.dropAll (G.aK rfl rfl rfl ?_))
   rw [hv1,hv2]
   exact ⟨rfl,rfl⟩
theorem decEq0 (n:Nat):((⟨(decS n).toArray⟩:ByteArray).data.toList == (⟨#[48]⟩:ByteArray).data.toList)=decide (n=0):=by
 have h:=txtEq0 (n:Int)
 rw [bM] at h
 rw [h,decide_eq_decide];omega
theorem gcd_ref_fn (C:Mem)(hT:Tabs C)(z w:Int)(hz:z.natAbs<BP ^ 200)(hw:w.natAbs<BP ^ 200):Gives cx.P 125 [strV (txt z),strV (txt w)] C (strV (decS (Nat.gcd z.natAbs w.natAbs))):=by
 refine Fn.it kr_ Tryz.func125 22 fun w0=>?_
 refine G.z2 1 0 1 ?_
 refine G.rp 1 fun R hR=>?_
 refine D.af (abs_ref_fn _ z) ?_
 refine D.ac ?_
 refine D.af (abs_ref_fn _ w) ?_
 refine D.q2 2 0 1 hR ?_
 refine G.loop (fun fr C' L' μ=>∃ (a b:Nat),(a<BP ^ 200/\b<BP ^ 200/\Nat.gcd a b=Nat.gcd z.natAbs w.natAbs)/\fr=[(0,[],strV (decS a)),(1,[],strV (decS b))]/\L'=[]/\μ=b+1) (h_2 0 1) ⟨z.natAbs,w.natAbs,⟨hz,hw,rfl⟩,rfl,rfl,rfl⟩ (fun fr C0' L0' m hle0 hI=>?_)
 obtain ⟨a,b,⟨ha,hb,hg⟩,rfl,rfl,rfl⟩:=hI
 refine G.z3 2 0 1 12 ?_
 refine G.cd (fun h12=>?_) fun h12=>?_
 ·have hb0:0<b:=by
   rw [decEq0] at h12
   have:b≠0:=by simpa using h12
   omega
  have hlt:=Nat.mod_lt a hb0
  refine G.rp 2 fun R hR=>?_
  refine D.af (divmod_ref_fn _ (hT.mono mup) a b ha hb hb0) ?_
  refine D.q2 5 1 6 hR ?_
  refine G.z2 4 0 1 ?_
  refine G.ax (m':=a % b+1) om_ mup (h_2 0 1) ⟨b,a % b,⟨hb,by omega,by rw [<- hg,euclid a b hb0]⟩,rfl,rfl,rfl⟩
 ·have hb0:b=0:=by
   rw [decEq0] at h12
   simpa using h12
  refine G.z1 2 4 ?_
  refine G.rf ?_
  refine ⟨?_,rfl⟩
  rw [<- hg,hb0,Nat.gcd_zero_right]
def decZ (s:Str):Int:=sgZ (bq 45 s).2 (decV (bq 45 s).1)
theorem canS_zero {t:Str}(h:CanS t):t.head?=some 48 ↔ decV t=0:=by
 constructor
 ·intro h0
  have h1:=h.2.2 h0
  cases t with
  | nil=>cases h0
  | cons b t =>
   have hb:b=48:=by simpa using h0
   have ht:t=[]:=by cases t with
    | nil=>rfl
    | cons c t=>simp at h1
   subst hb ht;rfl
 ·intro h0
  have:=canS_unique h (aO 0).1 (by rw [h0,(aO 0).2])
  rw [this,decS];rfl
theorem canon_iff {s:Str}:canonB s=true ↔ CanS (bq 45 s).1/\((bq 45 s).2=true->0<decV (bq 45 s).1):=by
 obtain ⟨t,neg,hdp⟩:∃ t b,bq 45 s=(t,b):=⟨_,_,rfl⟩
 unfold canonB
 rw [hdp]
 simp only [Bool.and_eq_true,Bool.not_eq_true',beq_eq_false_iff_ne,ne_eq,List.all_eq_true,Bool.and_eq_false_imp,beq_iff_eq,Bool.or_eq_false_iff,decide_eq_false_iff_not]
 constructor
 ·rintro ⟨⟨h1,h2⟩,h3⟩
  have hc:CanS t:=⟨h1,h2,fun h=>by
   have:=(h3 h).2
   have:0<t.length:=List.length_pos_iff.2 h2
   omega⟩
  refine ⟨hc,fun hn=>?_⟩
  rcases Nat.eq_zero_or_pos (decV t) with h | h
  ·have:=(h3 ((canS_zero hc).2 h)).1
   rw [hn] at this;cases this
  ·exact h
 ·rintro ⟨hc,h⟩
  refine ⟨⟨hc.1,hc.2.1⟩,fun h0=>?_⟩
  have h1:=(canS_zero hc).1 h0
  have h2:=hc.2.2 h0
  refine ⟨?_,by omega⟩
  cases hn:neg with
  | false=>rfl
  | true=>have:=h hn;omega
theorem dropP_put (s:Str):s=if (bq 45 s).2 then 45::(bq 45 s).1 else (bq 45 s).1:=by
 unfold bq
 split
 ·rename_i h
  cases s with
  | nil=>cases h
  | cons b s =>
   have hb:b=45:=by simpa using h
   subst hb;rfl
 ·rfl
theorem canon_txt {s:Str}(h:canonB s=true):s=txt (decZ s):=by
 obtain ⟨h1,h2⟩:=canon_iff.1 h
 unfold decZ
 rw [txt_sg _ _ h2,<- canS_dec h1]
 exact dropP_put s
def restOk (zn:Int):Option Str->Bool
 | none=>true
 | some b=>decide (1<decZ b) && !(zn == 0) && (Nat.gcd zn.natAbs (decZ b).natAbs == 1)
def aV (s:Str):Bool:=bj (cut1 47 s).1 && bj ((cut1 47 s).2.getD [49]) && restOk (decZ (cut1 47 s).1) (cut1 47 s).2
theorem rightI_iff {s:Str}:bj s=true ↔ okD (bq 45 s).1=true/\((bq 45 s).2=true->0<decV (bq 45 s).1):=by
 unfold bj
 rw [Bool.and_eq_true,canon_iff,okD_can,decide_eq_true_eq]
 constructor
 ·rintro ⟨⟨h1,h2⟩,h3⟩;exact ⟨⟨h1,h3⟩,h2⟩
 ·rintro ⟨⟨h1,h3⟩,h2⟩;exact ⟨⟨h1,h2⟩,h3⟩
theorem decZ_abs (s:Str):(decZ s).natAbs=decV (bq 45 s).1:=by
 unfold decZ sgZ;split <;> omega
theorem ratOk_len {s:Str}{n:Nat}(h:s.length<=n):(cut1 47 s).1.length<=n/\((cut1 47 s).2.getD [49]).length<=n+1:=by
 rcases ed 47 s with ⟨h1,_⟩ | ⟨pre,post,h1,h2,_⟩
 ·rw [h1];exact ⟨h,by simp⟩
 ·have e:=congrArg List.length h2
  rw [List.length_append,List.length_cons] at e
  rw [h1]
  simp only [Option.getD_some]
  omega
theorem one_val:([49]:Str)=txt 1:=by
 unfold txt
 rw [if_neg om_,show decS (1:Int).natAbs=decS 1 from rfl,decS];rfl
theorem decEq1 (n:Nat):((⟨(decS n).toArray⟩:ByteArray).data.toList == (⟨#[49]⟩:ByteArray).data.toList)=(n == 1):=by
 show (decS n == [49])=_
 rw [eqStr,Bool.eq_iff_iff,decide_eq_true_eq,beq_iff_eq]
 constructor
 ·intro h
  have h2:=(aO n).2
  rw [h] at h2
  exact h2.symm
 ·rintro rfl
  rw [decS];rfl

theorem parse9_fn (C:Mem)(s:Str)(hd:∀ c∈s,digB c=true)(h0:s≠[])(hl:s.length<=18):Gives cx.P 147 [strV s,.int .i64 10,.int .i64 64] C (.tuple #[.int .u64 (decV s),.nilIface]):=by
 refine Fn.it kr_ Tryz.func147 26 fun w0=>?_
 refine G.z3 2 0 1 2 ?_
 refine G.rp 3 fun R hR=>?_
 refine D.ai (parseU_fn Tryz.parseU s hd h0 hl _ kr_) rfl rfl rfl rfl rfl rfl rfl fl_ ?_
 refine D.q5 5 0 1 2 8 9 hR ?_
 refine G.rp 1 fun R hR=>?_
 refine D.ifaceNil false rfl rfl rfl rfl rfl (.inr ⟨rfl,rfl⟩) kr_ rfl rfl ?_
 refine D.e6 0 1 2 8 9 18 hR ?_
 refine G.cd (fun h18=>?_) fun h18=>?_
 ·cases h18
 ·refine G.z2 3 6 7 ?_
  refine G.az (G.dropAll (G.aK rfl rfl rfl ?_))
  exact ⟨rfl,rfl⟩
theorem small10_fn (C:Mem)(i:Nat)(h:i<100):Gives cx.P 203 [.int .i64 i] C (strV (decS i)):=by
 have h1:=Gives.ofCalls (f:=203) (args:=[.int .i64 i]) (P:=cx.P) kr_ (fun w=>Any.internal_strconv_small Tryz.small10 i h w) C
 rw [bZ] at h1
 exact h1
theorem nDig_dec (u:Nat):Lib.nDigits u=(decS u).length:=by rw [<- bZ,Lib.decDigits_length]
theorem formatI_fn (C:Mem)(hT:Tabs C)(u:Nat)(hu:u<9223372036854775808):Gives cx.P 185 [.int .u64 u,.int .i64 10] C (strV (decS u)):=by
 refine Fn.it kr_ Tryz.func185 32 fun w0=>?_
 refine G.z2 1 0 1 ?_
 refine G.z3 2 0 1 10 ?_
 refine G.cd (fun h10=>?_) fun h10=>?_
 ·refine G.z2 2 0 12 ?_
  refine G.cd (fun h12=>?_) fun h12=>?_
  ·have h12':u<100:=by
    have:(u:Int)<100:=by simpa using h12
    omega
   refine G.rp 1 fun R hR=>?_
   refine D.cR (c:=(u:Int)) rfl rfl rfl rfl rfl rfl rfl rfl (by rw [IntKind.wrap_i64];omega) fl_ ?_
   refine D.af (small10_fn _ u h12') ?_
   refine D.q1 1 4 hR ?_
   refine G.rf ?_
   exact ⟨rfl,rfl⟩
  ·have h12':100<=u:=by
    have:¬ (u:Int)<100:=by simpa using h12
    omega
   have hnd:Lib.nDigits u<=19:=by
    rw [nDig_dec]
    exact cO om_ om_
   refine G.rg fun R hR=>?_
   refine D.aj (fun b5=>?_)
   refine D.e2 0 5 hR ?_
   refine G.rp 1 fun R hR=>?_
   refine D.ai (numDigits_fn Tryz.nDig u om_ om_ _ (hT.pow.mono mup) kr_) rfl rfl rfl rfl rfl rfl rfl fl_ ?_
   refine D.q3 1 0 5 6 hR ?_
   refine G.aI [(3,3)] rfl (fun R hR=>?_)
   refine D.ac ?_
   refine D.sliceA 0 (Lib.nDigits u) 24 rfl rfl rfl rfl rfl rfl rfl rfl rfl rfl rfl rfl (fun _=>⟨.inl ⟨rfl,rfl⟩,.inr ⟨_,rfl⟩,.inl ⟨rfl,rfl⟩,by omega,by omega,by decide⟩) rfl rfl ?_
   refine D.ac ?_
   refine D.call (format10_fn Tryz.fmt10 b5 24 u 295 (List.replicate 24 (Value.int .u8 0)) om_ (fun j hj=>(by rw [List.getElem?_replicate,if_pos om_])) om_ _ kr_) rfl (.inr (by decide)) rfl rfl rfl rfl rfl rfl (List.Perm.refl _) fl_ (fun v21 C21 L21 hle21 hq21=>?_)
   refine D.e2 5 6 hR ?_
   obtain ⟨_,rfl,cs,rfl,hcl,hcx⟩:=hq21
   refine G.freeze 0 rfl (fun C7 hle7 hb7=>?_)
   have hds:(decS u).length=Lib.nDigits u:=(nDig_dec u).symm
   have hsl:Sl C7 1 (.slice (some ⟨b5,0,none⟩) ((decS u).map fun b=>[Value.int .u8 b.toNat]).length 24) ((decS u).map fun b=>[Value.int .u8 b.toNat]) :=
    Sl.ofBlock hb7 (by intro r hr;obtain ⟨y,_,rfl⟩:=List.mem_map.1 hr;rfl) (fun j v hj=>by
     rw [dW,List.getElem?_map] at hj
     cases hx:(decS u)[j]? with
     | none=>rw [hx] at hj;cases hj
     | some x=>rw [hx] at hj;cases hj;simpa using hcx j x hx) (by simp;omega) (by simp [maxLen])
   rw [List.length_map,hds] at hsl
   refine G.rp 1 fun R hR=>?_
   refine D.sliceA 0 (Lib.nDigits u) 24 rfl rfl rfl rfl rfl rfl rfl rfl rfl rfl rfl rfl (fun _=>⟨.inl ⟨rfl,rfl⟩,.inr ⟨_,rfl⟩,.inl ⟨rfl,rfl⟩,by omega,by omega,by decide⟩) rfl rfl ?_
   refine D.strOf (hsl.mono mup) rfl rfl rfl rfl rfl rfl rfl rfl rfl rfl rfl fl_ ?_
   refine D.q1 1 4 hR ?_
   refine G.rf ?_
   exact ⟨rfl,rfl⟩
 ·exact absurd h10 (by decide)
theorem format9_fn (C:Mem)(hT:Tabs C)(u:Nat)(hu:u<9223372036854775808):Gives cx.P 154 [.int .u64 u,.int .i64 10] C (strV (decS u)):=by
 refine Fn.it kr_ Tryz.func154 8 fun w0=>?_
 refine G.z2 1 0 1 ?_
 refine G.rp 2 fun R hR=>?_
 refine D.af (formatI_fn _ (hT.mono mup) u hu) ?_
 refine D.q1 1 4 hR ?_
 refine G.rf ?_
 exact ⟨rfl,rfl⟩

theorem quick_fn (C:Mem)(z:Int)(m:Nat)(hm:m<=18):Gives cx.P 115 [strV (txt z),.int .i64 m] C (.tuple #[.int .i64 (if (txt z).length<=m then z else 0),.bool (decide ((txt z).length<=m))]):=by
 refine Fn.it kr_ Tryz.func115 20 fun w0=>?_
 refine G.z2 2 0 1 ?_
 refine G.z2 4 0 11 ?_
 refine G.cd (fun h11=>?_) fun h11=>?_
 ·have h11':¬ (txt z).length<=m:=by
   have:(m:Int)<((txt z).length:Int):=by simpa using h11
   omega
  refine G.z2 2 4 5 ?_
  refine G.az (G.dropAll (G.aK rfl rfl rfl ?_))
  exact ⟨by rw [if_neg h11',decide_eq_false h11'],rfl⟩
 ·have h11':(txt z).length<=m:=by
   have:¬ (m:Int)<((txt z).length:Int):=by simpa using h11
   omega
  refine G.rp 1 fun R hR=>?_
  refine D.ai (atoi_fn Tryz.atoi z om_ _ kr_) rfl rfl rfl rfl rfl rfl rfl fl_ ?_
  refine D.q2 5 6 7 hR ?_
  refine G.aH [0,1,2,3,4] [] rfl kr_ (fun R hB hR=>?_)
  refine D.ps 2 ?_
  refine D.ifaceNil true rfl rfl rfl rfl rfl (.inl ⟨rfl,rfl⟩) kr_ rfl rfl ?_
  refine D.q2 2 4 5 hR ?_
  refine G.az (G.dropAll (G.aK rfl rfl rfl ?_))
  exact ⟨by rw [if_pos h11',decide_eq_true h11'],rfl⟩
theorem open_fn (C:Mem)(z:Int)(hl:(decS z.natAbs).length<=1000000):Pur cx.P 116 [strV (txt z)] C fun u D=>∃ p,u=.agg ⟨[.bool (decide (z<0)),p]⟩/\NineC D p z.natAbs:=by
 obtain ⟨S,hS⟩:∃ S,decS z.natAbs=S:=⟨_,rfl⟩
 have hcan:=(aO z.natAbs).1
 have hdv:=(aO z.natAbs).2
 rw [hS] at hl hcan hdv
 refine Fn.it kr_ Tryz.func116 44 fun w0=>?_
 refine G.rg fun R hR=>?_
 refine D.aj (fun b2=>?_)
 refine D.e2 0 2 hR ?_
 refine G.rp 1 fun R hR=>?_
 refine D.af (cutP_fn _ (txt z) 45) ?_
 rw [bU,hS]
 refine D.q3 5 2 3 4 hR ?_
 refine G.rp 2 fun R hR=>?_
 refine D.quoN (S.length) (9) rfl rfl rfl rfl rfl rfl om_ (.inl ⟨rfl,by omega⟩) rfl rfl ?_
 refine D.cG (((S.length / 9+1:Nat):Int)) rfl rfl rfl rfl om_ om_ om_ rfl rfl ?_
 refine D.cP rfl rfl rfl rfl rfl rfl rfl rfl rfl (Nat.zero_le _) (by show 8*(S.length / 9+1)<=281474976710656;omega) (by simp only [maxLen];omega) fl_ (fun b18=>?_)
 refine D.q4 1 2 3 4 5 hR ?_
 rw [show (strV S:Value)=strV (S.take S.length) by rw [List.take_length]]
 refine G.loop (fun fr C' L' μ=>∃ (q j:Nat)(out:List Nat)(w:Value),(q<=S.length/\(q=0∨q+9*j=S.length)/\out.length=j/\j<=S.length/\(q=0∨j<S.length)/\Dig9 out/\val9 out=decV (S.drop q))/\fr=[(2,[],.pointer (some ⟨b2,0,none⟩)),(3,[],strV (S.take q)),(4,[],.bool (decide (z<0))),(5,[],w)]/\L'=[.arr w 238 1 j (out.map encU).flatten,.obj b2 (.cells ⟨[.bool false,.slice none 0 0]⟩ 209 (0,0))]/\μ=q+1) (h_4 2 3 4 5) ⟨S.length,0,[],_,⟨Nat.le_refl _,by omega,rfl,Nat.zero_le _,by have:=List.length_pos_iff.2 hcan.2.1;omega,(fun x hx=>(by cases hx)),by rw [List.drop_length];rfl⟩,rfl,rfl,rfl⟩ (fun fr C0' L0' m hle0 hI=>?_)
 obtain ⟨q,j,out,w,⟨hel,hej,hol,hjl,hj2,hod,hov⟩,rfl,rfl,rfl⟩:=hI
 refine G.z5 3 2 3 4 5 21 ?_
 refine G.cd (fun h21=>?_) fun h21=>?_
 ·have htl:(⟨(S.take q).toArray⟩:ByteArray).data.toList.length=q:=by
   show (S.take q).length=q
   rw [List.length_take];omega
  have htl2:(S.take q).length=q:=htl
  have hq0:0<q:=by
   have h:(0:Int)<(((⟨(S.take q).toArray⟩:ByteArray).data.toList.length:Nat):Int):=by simpa using h21
   omega
  have hcutl:(cutS S (q-9) q).length<=9/\0<(cutS S (q-9) q).length:=by
   unfold cutS;rw [List.length_drop,List.length_take];omega
  have hcutd:∀ c∈cutS S (q-9) q,digB c=true:=fun c hc=>hcan.1 c (List.mem_of_mem_take (List.mem_of_mem_drop hc))
  refine G.rp 2 fun R hR=>?_
  refine D.cG (((q:Int)-9)) rfl rfl rfl rfl om_ om_ om_ rfl rfl ?_
  refine D.max (((q-9:Nat):Int)) rfl rfl rfl rfl rfl rfl om_ rfl rfl ?_
  refine D.q5 1 2 3 4 5 6 hR ?_
  refine G.rp 2 fun R hR=>?_
  refine D.bu (q-9) (S.take q).length rfl rfl rfl rfl rfl rfl rfl rfl rfl (fun _=>⟨.inr ⟨_,rfl⟩,.inl ⟨rfl,rfl⟩,.inl ⟨rfl,rfl⟩,by omega,Nat.le_refl _,Nat.le_refl _⟩) rfl rfl ?_
  rw [show (((S.take q).take (S.take q).length).drop (q-9))=cutS S (q-9) q from by rw [List.take_length];rfl]
  refine D.ai (parse9_fn _ (cutS S (q-9) q) hcutd (List.length_pos_iff.1 hcutl.2) om_) rfl rfl rfl rfl rfl rfl rfl fl_ ?_
  refine D.q6 5 2 3 4 5 6 7 hR ?_
  refine G.aH [0,1,4,5,6,2,3,7,8] [] rfl kr_ (fun R hB hR=>?_)
  refine D.ps 4 ?_
  refine D.bu 0 (q-9) rfl rfl rfl rfl rfl rfl rfl rfl rfl (fun _=>⟨.inl ⟨rfl,rfl⟩,.inr ⟨_,rfl⟩,.inl ⟨rfl,rfl⟩,by omega,by omega,Nat.le_refl _⟩) rfl rfl ?_
  refine D.ah [encU (decV (cutS S (q-9) q))] (fun p35 C35 hle35 hs35=>?_)
  refine D.append (j:=0) rfl rfl rfl rfl rfl rfl rfl rfl rfl rfl rfl hs35 rfl (by simp only [List.length_singleton,maxLen];omega) (by show (j+1)*8<=_;omega) fl_ (fun v36=>?_)
  refine D.q4 2 2 3 4 5 hR ?_
  rw [show ((S.take q).take (q-9)).drop 0=S.take (q-9) from by rw [List.drop_zero,List.take_take,Nat.min_eq_left om_]]
  refine G.aY (L':=[.arr v36 238 1 (j+1) ((out++[decV (cutS S (q-9) q)]).map encU).flatten,.obj b2 (.cells ⟨[.bool false,.slice none 0 0]⟩ 209 (0,0))]) (by simp [encU]) ?_
  refine G.ax (m':=q-9+1) om_ mup (h_4 2 3 4 5) ⟨q-9,j+1,out++[decV (cutS S (q-9) q)],v36,⟨by omega,by omega,by simp [hol],by omega,by omega,hod.snoc (cutS9_lt hcan.1 om_),take9_step om_ hol om_ hov⟩,rfl,rfl,rfl⟩
 ·have hq0:q=0:=by
   have htl2:(S.take q).length=q:=by rw [List.length_take];omega
   have h:¬ (0:Int)<(((S.take q).length:Nat):Int):=by simpa using h21
   omega
  subst hq0
  rw [List.drop_zero,hdv] at hov
  refine G.aI [(2,3)] rfl (fun R hR=>?_)
  refine D.ps 2 ?_
  refine D.call (d7 _ _ out (n:=j) hol) rfl (.inr (by decide)) rfl rfl rfl rfl rfl rfl (List.Perm.refl _) fl_ (fun v42 C42 L42 hle42 hq42=>?_)
  obtain ⟨rfl,hu⟩:=hq42
  obtain ⟨Au,cu,rfl,_⟩:=id hu
  refine D.ak [.bool (decide (z<0)),_] ?_
  refine D.ag (j:=0) ?_
  refine D.e1 2 hR ?_
  refine G.az (G.di (.head _) rfl rfl rfl rfl ?_)
  exact ⟨rfl,_,rfl,cut9 out,eG hod,by rw [eF,hov],hu⟩
end Go.Proofs.YtllimhhofkcgpaaGreatDoor
