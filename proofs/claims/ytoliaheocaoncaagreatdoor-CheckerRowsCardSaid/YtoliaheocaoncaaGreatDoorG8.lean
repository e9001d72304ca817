/- Laws that the proofs of this seat share, part 8. -/
import Derived.Test.YtoliaheocaoncaaGreatDoorG7
import Derived.Test.YtoliaheocaoncaaGreatDoorShelf
import Derived.Test.YtoliaheocaoncaaGreatDoorCards
import Derived.Test.YtoliaheocaoncaaGreatDoorTie
import Derived.Stop.LaidErr
import Derived.Lib.LaidTab
import Derived.Carry
import Derived.Deep.Strs
import Derived.Laws.IdiomArrays
set_option maxHeartbeats 4000000
namespace Go.Proofs.YtoliaheocaoncaaGreatDoor
open Go Go.Jog
set_option maxRecDepth 100000

def gR (l:List Rel)(i:Int):Rel:=l.getD i.toNat default
theorem gR_at {l:List Rel}{i:Int}(h0:0<=i)(h1:i<l.length):l[i.toNat]?=some (gR l i)/\(l.map Rel.enc)[i.toNat]?=some (gR l i).enc:=by
 have e:l[i.toNat]?=some (gR l i):=by
  unfold gR
  rw [List.getD_eq_getElem?_getD,List.getElem?_eq_getElem (by omega)];rfl
 exact ⟨e,by rw [List.getElem?_map,e];rfl⟩
def arcB (l:List Rel)(i:Int):Bool:=decide (0<=i) && decide (i<l.length) && decide (1<=(gR l i).kind) && decide ((gR l i).kind<=3)
theorem arcB_in {l:List Rel}{i:Int}(h:arcB l i=true):0<=i/\i<l.length:=by
 unfold arcB at h
 simp at h
 omega
theorem carc_fn (C:Mem)(v:Value)(l:List Rel)(i:Int)(hv:Sl C 3 v (l.map Rel.enc)):Gives cx.P 23 [v,.int .i64 i] C (.bool (arcB l i)):=by
 obtain ⟨A,c,rfl,_⟩:=id hv
 simp only [List.length_map] at hv ⊢
 refine Fn.it (by kernel_rfl) Tryz.func23 29 fun w0=>?_
 refine G.z2 1 0 1 ?_
 refine G.rp 7 fun R hR=>?_
 refine D.aE rfl rfl rfl rfl rfl rfl rfl rfl ?_
 refine D.ps 3 ?_
 refine D.index rfl rfl rfl rfl rfl rfl rfl rfl rfl rfl (fun hg=>⟨hv,(by have h:(decide (0<=i) && decide (i<(l.length:Int)))=true:=hg.1;simp at h;omega),(by have h:(decide (0<=i) && decide (i<(l.length:Int)))=true:=hg.1;simp at h;exact (gR_at h.1 h.2).2)⟩) (fun _=>rfl) rfl (fun p16 hp16=>?_)
 refine D.fieldP rfl rfl rfl rfl rfl rfl rfl rfl rfl rfl hp16 (fun _=>rfl) rfl (fun p17 hp17=>?_)
 refine D.cU rfl rfl rfl rfl rfl rfl hp17 rfl rfl rfl ?_
 refine D.ac ?_
 refine D.aE rfl rfl rfl rfl rfl rfl rfl rfl ?_
 refine D.ps 3 ?_
 refine D.index rfl rfl rfl rfl rfl rfl rfl rfl rfl rfl (fun hg=>⟨hv,(by have h:(decide (0<=i) && decide (i<(l.length:Int)) && decide (1<=(gR l i).kind))=true:=hg.1;simp at h;omega),(by have h:(decide (0<=i) && decide (i<(l.length:Int)) && decide (1<=(gR l i).kind))=true:=hg.1;simp at h;exact (gR_at h.1.1 h.1.2).2)⟩) (fun _=>rfl) rfl (fun p24 hp24=>?_)
 refine D.fieldP rfl rfl rfl rfl rfl rfl rfl rfl rfl rfl hp24 (fun _=>rfl) rfl (fun p25 hp25=>?_)
 refine D.cU rfl rfl rfl rfl rfl rfl hp25 rfl rfl rfl ?_
 refine D.ac ?_
 refine D.aE rfl rfl rfl rfl rfl rfl rfl rfl ?_
 refine D.q1 1 4 hR ?_
 refine G.rf ?_
 exact ⟨rfl,rfl⟩
def stepsM (l:List Rel)(ix:Int):Str->List Int->Option Str
 | u,[]=>some u
 | u,i::r=>if arcB l i && !(i == ix) && decide ((gR l i).lower=u) then stepsM l ix (gR l i).upper r else none
def impB (l:List Rel)(ix:Int)(bs:List Int):Bool:=arcB l ix && !(decide (bs.length=0)) && (match stepsM l ix (gR l ix).lower bs with
 | some u=>decide (u=(gR l ix).upper)
 | none=>false)
theorem implied_fn (C:Mem)(v vb:Value)(l:List Rel)(ix:Int)(bs:List Int)(hv:Sl C 3 v (l.map Rel.enc))(hb:Sl C 1 vb (bs.map encI)):Gives cx.P 8 [v,.int .i64 ix,vb] C (.bool (impB l ix bs)):=by
 obtain ⟨A,c,rfl,hl1,hl2,_⟩:=id hv
 obtain ⟨Ab,cb,rfl,hb1,hb2,_⟩:=id hb
 have hmx:maxLen<=9223372036854775807:=by simp [maxLen]
 simp only [List.length_map] at hv hb hb1 hl1 ⊢
 refine Fn.it (by kernel_rfl) Tryz.func8 61 fun w0=>?_
 refine G.z3 1 0 1 2 ?_
 refine G.rp 2 fun R hR=>?_
 refine D.ai (carc_fn _ _ l ix hv) ?_
 refine D.ps 5 ?_
 refine D.ay rfl rfl rfl rfl rfl rfl rfl rfl ?_
 refine D.e4 0 1 2 18 hR ?_
 refine G.cd (fun h18=>?_) fun h18=>?_
 ·have hno:impB l ix bs=false:=by
   unfold impB
   cases h1:arcB l ix with
   | false=>rfl
   | true =>
    rw [h1] at h18
    have h2:bs.length=0:=by simpa using h18
    simp [h2]
  refine G.z1 1 6 ?_
  refine G.rf ?_
  exact ⟨by rw [hno],rfl⟩
 ·have h1:arcB l ix=true:=by
   cases h1:arcB l ix with
   | true=>rfl
   | false=>rw [h1] at h18;cases h18
  have h2:¬ bs.length=0:=by
   rw [h1] at h18
   simpa using h18
  obtain ⟨hx0,hx1⟩:=arcB_in h1
  have hI:impB l ix bs=(match stepsM l ix (gR l ix).lower bs with
   | some u=>decide (u=(gR l ix).upper)
   | none=>false):=by
   unfold impB
   rw [h1];simp [h2]
  refine G.rp 2 fun R hR=>?_
  refine D.ap (hv.mono mup) rfl rfl rfl rfl rfl rfl rfl rfl rfl rfl (by omega) (gR_at hx0 hx1).2 (fun _=>rfl) (fun p21 hp21=>?_)
  refine D.da hp21 rfl rfl rfl rfl rfl rfl rfl rfl rfl rfl (fun _=>rfl) (fun p22 hp22=>?_)
  refine D.af hp22 ?_
  refine D.q4 1 0 1 2 7 hR ?_
  refine G.z6 3 0 1 7 24 25 26 ?_
  refine G.loop (fun fr C' L' μ=>∃ (k:Nat)(u:Str),(k<=bs.length/\stepsM l ix (gR l ix).lower bs=stepsM l ix u (bs.drop k))/\fr=[(0,[],.slice A l.length c),(1,[],.int .i64 ix),(7,[],strV u),(24,[],.slice Ab bs.length cb),(25,[],.int .i64 bs.length),(26,[],.int .i64 k)]/\L'=[]/\μ=bs.length-k) (h_6 0 1 7 24 25 26) ⟨0,(gR l ix).lower,⟨Nat.zero_le _,rfl⟩,rfl,rfl,rfl⟩ (fun fr C0' L0' m hle0 hI=>?_)
  obtain ⟨k,u,⟨hk,hst⟩,rfl,rfl,rfl⟩:=hI
  refine G.z7 1 0 1 7 24 25 26 27 ?_
  refine G.cd (fun h27=>?_) fun h27=>?_
  ·have hkl:k<bs.length:=by simpa using h27
   obtain ⟨i,hi⟩:∃ i,bs[k]?=some i:=⟨bs[k],List.getElem?_eq_getElem hkl⟩
   have hrow:(bs.map encI)[k]?=some (encI i):=by rw [List.getElem?_map,hi];rfl
   have hdr:bs.drop k=i::bs.drop (k+1):=by
    rw [List.drop_eq_getElem_cons hkl]
    congr 1
    exact (List.getElem?_eq_some_iff.1 hi).2
   refine G.rg fun R hR=>?_
   refine D.ap (hb.mono mup) rfl rfl rfl rfl rfl rfl rfl rfl rfl rfl (by omega) hrow (fun _=>rfl) (fun p28 hp28=>?_)
   refine D.af hp28 ?_
   refine D.q7 1 0 1 7 9 24 25 26 hR ?_
   refine G.rp 2 fun R hR=>?_
   refine D.ai (carc_fn _ _ l i (hv.mono mup)) ?_
   refine D.ps 5 ?_
   refine D.ay rfl rfl rfl rfl rfl rfl rfl rfl ?_
   refine D.ps 3 ?_
   refine D.index rfl rfl rfl rfl rfl rfl rfl rfl rfl rfl (fun hg=>⟨hv.mono mup,(by have h:(!arcB l i || (i == ix))=false:=hg.1;simp at h;exact (arcB_in h.1).1),(by have h:(!arcB l i || (i == ix))=false:=hg.1;simp at h;exact (gR_at (arcB_in h.1).1 (arcB_in h.1).2).2)⟩) (fun _=>rfl) rfl (fun p42 hp42=>?_)
   refine D.fieldP rfl rfl rfl rfl rfl rfl rfl rfl rfl rfl hp42 (fun _=>rfl) rfl (fun p43 hp43=>?_)
   refine D.cU rfl rfl rfl rfl rfl rfl hp43 rfl rfl rfl ?_
   refine D.ps 2 ?_
   refine D.ay rfl rfl rfl rfl rfl rfl rfl rfl ?_
   refine D.e7 0 1 9 24 25 26 47 hR ?_
   refine G.cd (fun h47=>?_) fun h47=>?_
   ·have hno:stepsM l ix (gR l ix).lower bs=none:=by
     rw [hst,hdr,stepsM,if_neg]
     intro h
     simp at h h47
     obtain ⟨⟨e1,e2⟩,e3⟩:=h
     rw [e1] at h47
     simp [e2,e3] at h47
    refine G.z1 1 6 ?_
    refine G.rf ?_
    exact ⟨by rw [hI,hno],rfl⟩
   ·have hok:(arcB l i && !(i == ix) && decide ((gR l i).lower=u))=true:=by
     simp at h47
     simp [h47.1.1,h47.1.2,h47.2]
    have hin:=arcB_in (l:=l) (i:=i) (by simp at hok;exact hok.1.1)
    refine G.rp 2 fun R hR=>?_
    refine D.ap (hv.mono mup) rfl rfl rfl rfl rfl rfl rfl rfl rfl rfl (by omega) (gR_at hin.1 hin.2).2 (fun _=>rfl) (fun p50 hp50=>?_)
    refine D.da hp50 rfl rfl rfl rfl rfl rfl rfl rfl rfl rfl (fun _=>rfl) (fun p51 hp51=>?_)
    refine D.af hp51 ?_
    refine D.q6 1 0 1 7 24 25 26 hR ?_
    refine G.rg fun R hR=>?_
    refine D.aw _ rfl ?_
    refine D.q6 1 0 1 7 24 25 26 hR ?_
    refine G.au (m':=bs.length-(k+1)) (by omega) mup (h_6 0 1 7 24 25 26) ⟨k+1,(gR l i).upper,⟨by omega,by rw [hst,hdr,stepsM,if_pos hok]⟩,rfl,rfl,rfl⟩
  ·have hkl:bs.length<=k:=by
    have:¬ k<bs.length:=by simpa using h27
    omega
   refine G.rp 3 fun R hR=>?_
   refine D.ap (hv.mono mup) rfl rfl rfl rfl rfl rfl rfl rfl rfl rfl (by omega) (gR_at hx0 hx1).2 (fun _=>rfl) (fun p57 hp57=>?_)
   refine D.da hp57 rfl rfl rfl rfl rfl rfl rfl rfl rfl rfl (fun _=>rfl) (fun p58 hp58=>?_)
   refine D.af hp58 ?_
   refine D.q1 2 6 hR ?_
   refine G.rf ?_
   refine ⟨?_,rfl⟩
   rw [hI,hst,List.drop_of_length_le hkl,stepsM]
   simp [eqStr]
def posZ (N:List Str)(s:Str):Nat:=if s∈N then posS N s else 0
theorem look_at (N:List Str)(s:Str):lookV (.int .i64 0) true (mget (atM N 0) s)=.tuple #[.int .i64 (posZ N s),.bool (decide (s∈N))]:=by
 rw [mget_atM]
 by_cases h:s∈N
 ·simp [h,posZ,lookV]
 ·simp [h,posZ,lookV]
theorem nodup_snoc {α:Type}{l:List α}{x:α}(h:l.Nodup)(hx:x ∉ l):(l++[x]).Nodup:=by
 rw [List.nodup_append]
 exact ⟨h,by simp,fun a ha b hb e=>by simp only [List.mem_singleton] at hb;subst hb;subst e;exact hx ha⟩
def keptB (l:List Rel)(o:List Str)(k:Nat):Bool:=decide ((gR l k).upper∈o) && decide ((gR l k).lower∈o) && !(arcB l k && decide (posZ o (gR l k).upper<=posZ o (gR l k).lower))
def ordB (l:List Rel)(o:List Str):Bool:=decide o.Nodup && (List.range l.length).all (keptB l o)
theorem corder_fn (C:Mem)(v vo:Value)(l:List Rel)(o:List Str)(hv:Sl C 3 v (l.map Rel.enc))(hvo:Sl C 1 vo (o.map encS)):Gives cx.P 9 [v,vo] C (.bool (ordB l o)):=by
 obtain ⟨A,c,rfl,hl1,hl2,_⟩:=id hv
 obtain ⟨Ao,co,rfl,ho1,ho2,_⟩:=id hvo
 have hmx:maxLen<=9223372036854775807:=by simp [maxLen]
 simp only [List.length_map] at hv hvo hl1 ho1 ⊢
 refine Fn.it (by kernel_rfl) Tryz.func9 73 fun w0=>?_
 refine G.z2 1 0 1 ?_
 refine G.rg fun R hR=>?_
 refine D.makeMap keyS rfl rfl rfl rfl (fun _=>rfl) (fun b16=>?_)
 refine D.q3 1 0 1 5 hR ?_
 refine G.z5 3 0 5 17 18 19 ?_
 refine G.loop (fun fr C' L' μ=>∃ (k:Nat),(k<=o.length/\(o.take k).Nodup)/\fr=[(0,[],.slice A l.length c),(5,[],.map (some b16)),(17,[],.slice Ao o.length co),(18,[],.int .i64 o.length),(19,[],.int .i64 k)]/\L'=[.obj b16 (bF keyS.enc (atM (o.take k) 0))]/\μ=o.length-k) (h_5 0 5 17 18 19) ⟨0,⟨Nat.zero_le _,by simp⟩,rfl,rfl,rfl⟩ (fun fr C0' L0' m hle0 hI=>?_)
 obtain ⟨k,⟨hk,hnd⟩,rfl,rfl,rfl⟩:=hI
 refine G.z6 1 0 5 17 18 19 20 ?_
 refine G.cd (fun h20=>?_) fun h20=>?_
 ·have hkl:k<o.length:=by simpa using h20
  obtain ⟨s,hs⟩:∃ s,o[k]?=some s:=⟨o[k],List.getElem?_eq_getElem hkl⟩
  have hrs:(o.map encS)[k]?=some (encS s):=by rw [List.getElem?_map,hs];rfl
  have htk:o.take (k+1)=o.take k++[s]:=by rw [List.take_add_one,hs];rfl
  refine G.rp 1 fun R hR=>?_
  refine D.ap (hvo.mono mup) rfl rfl rfl rfl rfl rfl rfl rfl rfl rfl (by omega) hrs (fun _=>rfl) (fun p22 hp22=>?_)
  refine D.af hp22 ?_
  refine D.q7 2 0 5 6 7 17 18 19 hR ?_
  refine G.rp 2 fun R hR=>?_
  refine D.lookupL keyS (.head _) rfl rfl rfl rfl rfl rfl rfl rfl (by kernel_rfl) rfl (look_at (o.take k) s) rfl rfl ?_
  refine D.q8 5 0 5 6 7 9 17 18 19 hR ?_
  refine G.z8 1 0 5 6 7 17 18 19 30 ?_
  refine G.cd (fun h30=>?_) fun h30=>?_
  ·have h38':s∈o.take k:=by simpa using h30
   have hno:ordB l o=false:=by
    unfold ordB
    have hn:¬ o.Nodup:=fun hn=>by
     have h2:=hn.sublist (List.take_sublist (k+1) o)
     rw [htk,List.nodup_append] at h2
     exact h2.2.2 s h38' s (by simp) rfl
    simp [hn]
   refine G.z1 1 4 ?_
   refine G.rf ?_
   exact ⟨by rw [hno],rfl⟩
  ·have h38':s ∉ o.take k:=by simpa using h30
   have hset:=mset_atM (i:=0) h38'
   rw [<- htk,List.length_take,Nat.min_eq_left (by omega),Nat.zero_add] at hset
   refine G.rp 3 fun R hR=>?_
   refine D.mapUpdate keyS (j:=0) rfl rfl rfl rfl rfl rfl rfl rfl rfl rfl (by kernel_rfl) ?_
   refine D.e5 0 5 17 18 19 hR ?_
   refine G.rg fun R hR=>?_
   refine D.aw _ rfl ?_
   refine D.q5 1 0 5 17 18 19 hR ?_
   refine G.aJ (L':=[.obj b16 (bF keyS.enc (atM (o.take (k+1)) 0))]) (by rw [<- hset];rfl) ?_
   refine G.au (m':=o.length-(k+1)) (by omega) mup (h_5 0 5 17 18 19) ⟨k+1,⟨by omega,by rw [htk];exact nodup_snoc hnd h38'⟩,rfl,rfl,rfl⟩
 ·have hkl:o.length<=k:=by
   have:¬ k<o.length:=by simpa using h20
   omega
  rw [List.take_of_length_le hkl] at hnd ⊢
  refine G.z5 3 0 5 35 36 37 ?_
  refine G.loop (fun fr C' L' μ=>∃ (k:Nat),(k<=l.length/\∀ j,j<k->keptB l o j=true)/\fr=[(0,[],.slice A l.length c),(5,[],.map (some b16)),(35,[],.slice A l.length c),(36,[],.int .i64 l.length),(37,[],.int .i64 k)]/\L'=[.obj b16 (bF keyS.enc (atM o 0))]/\μ=l.length-k) (h_5 0 5 35 36 37) ⟨0,⟨Nat.zero_le _,fun j hj=>by omega⟩,rfl,rfl,rfl⟩ (fun fr C1' L1' m hle1 hI=>?_)
  obtain ⟨k,⟨hk2,hall⟩,rfl,rfl,rfl⟩:=hI
  refine G.z6 1 0 5 35 36 37 38 ?_
  refine G.cd (fun h38=>?_) fun h38=>?_
  ·have hkl2:k<l.length:=by simpa using h38
   have hrx:=(gR_at (l:=l) (i:=(k:Int)) (by omega) (by omega)).2
   refine G.rp 1 fun R hR=>?_
   refine D.ap (hv.mono mup) rfl rfl rfl rfl rfl rfl rfl rfl rfl rfl (by omega) hrx (fun _=>rfl) (fun p40 hp40=>?_)
   refine D.af hp40 ?_
   refine D.alloc rfl rfl rfl rfl rfl (fun _=>rfl) (fun b11=>?_)
   refine D.ac ?_
   refine D.ag (j:=0) ?_
   refine D.e7 0 5 10 11 35 36 37 hR ?_
   refine G.rp 2 fun R hR=>?_
   refine D.ae (.head _) ?_
   refine D.lookupL keyS (.tail _ (.head _)) rfl rfl rfl rfl rfl rfl rfl rfl (by kernel_rfl) rfl (look_at o (gR l k).upper) rfl rfl ?_
   refine D.q9 5 0 5 10 11 12 13 35 36 37 hR ?_
   refine G.rp 2 fun R hR=>?_
   refine D.ae (.head _) ?_
   refine D.lookupL keyS (.tail _ (.head _)) rfl rfl rfl rfl rfl rfl rfl rfl (by kernel_rfl) rfl (look_at o (gR l k).lower) rfl rfl ?_
   refine D.q10 5 0 5 10 12 13 14 15 35 36 37 hR ?_
   refine G.rp 5 fun R hR=>?_
   refine D.ay rfl rfl rfl rfl rfl rfl rfl rfl ?_
   refine D.ps 3 ?_
   refine D.aP (fun _=>(carc_fn _ _ l k (hv.mono mup))) rfl rfl rfl rfl rfl rfl rfl rfl rfl ?_
   refine D.ps 4 ?_
   refine D.aE rfl rfl rfl rfl rfl rfl rfl rfl ?_
   refine D.ay rfl rfl rfl rfl rfl rfl rfl rfl ?_
   refine D.e6 0 5 35 36 37 71 hR ?_
   refine G.cd (fun h71=>?_) fun h71=>?_
   ·have hkp:keptB l o k=false:=by
     unfold keptB
     cases h1:decide ((gR l k).upper∈o) <;> cases h2:decide ((gR l k).lower∈o) <;> try rfl
     rw [h1,h2] at h71
     simp at h71
     simp [h71.1,h71.2]
    have hno:ordB l o=false:=by
     unfold ordB
     have:((List.range l.length).all (keptB l o))=false:=by
      rw [List.all_eq_false]
      exact ⟨k,List.mem_range.2 hkl2,by rw [hkp];decide⟩
     rw [this,Bool.and_false]
    refine G.z1 1 4 ?_
    refine G.rf ?_
    exact ⟨by rw [hno],rfl⟩
   ·have hkp:keptB l o k=true:=by
     unfold keptB
     cases h1:decide ((gR l k).upper∈o) <;> cases h2:decide ((gR l k).lower∈o) <;> rw [h1,h2] at h71 <;> first
      | (simp at h71;done)
      | skip
     simp at h71
     simp
     cases h3:arcB l k with
     | false=>exact .inl rfl
     | true=>exact .inr (by have:=h71 h3;omega)
    refine G.rg fun R hR=>?_
    refine D.aw _ rfl ?_
    refine D.q5 1 0 5 35 36 37 hR ?_
    refine G.ax 0 rfl ?_
    refine G.au (m':=l.length-(k+1)) (by omega) mup (h_5 0 5 35 36 37) ⟨k+1,⟨by omega,fun j hj=>by
     by_cases e:j=k
     ·rw [e];exact hkp
     ·exact hall j (by omega)⟩,rfl,rfl,rfl⟩
  ·have hkl2:l.length<=k:=by
    have:¬ k<l.length:=by simpa using h38
    omega
   refine G.z1 1 4 ?_
   refine G.rf ?_
   refine ⟨?_,rfl⟩
   have h1:((List.range l.length).all (keptB l o))=true:=by
    rw [List.all_eq_true]
    exact fun j hj=>hall j (by have:=List.mem_range.1 hj;omega)
   unfold ordB
   rw [h1]
   simp [hnd]


def kl:List Rel:=[⟨1,[66],[65]⟩,⟨1,[67],[66]⟩,⟨1,[67],[65]⟩]
theorem kn1 (C:Mem):Gives cx.P 7 [strV [51,47,54]] C (.bool false):=by
 have h:=number_fn C [51,47,54] (by decide)
 rw [show (a6 [51,47,54]).isSome=false by decide +kernel] at h
 exact h
theorem kn2 (C:Mem):Gives cx.P 7 [strV [45,51,47,50]] C (.bool true):=by
 have h:=number_fn C [45,51,47,50] (by decide)
 rw [show (a6 [45,51,47,50]).isSome=true by decide +kernel] at h
 exact h
theorem ki1 (C:Mem)(v vb:Value)(hv:Sl C 3 v (kl.map Rel.enc))(hb:Sl C 1 vb (([0,1]:List Int).map encI)):Gives cx.P 8 [v,.int .i64 2,vb] C (.bool true):=by
 have h:=implied_fn C v vb kl 2 [0,1] hv hb
 rw [show impB kl 2 [0,1]=true by decide +kernel] at h
 exact h
theorem ki2 (C:Mem)(v vb:Value)(hv:Sl C 3 v (kl.map Rel.enc))(hb:Sl C 1 vb (([1,0]:List Int).map encI)):Gives cx.P 8 [v,.int .i64 2,vb] C (.bool false):=by
 have h:=implied_fn C v vb kl 2 [1,0] hv hb
 rw [show impB kl 2 [1,0]=false by decide +kernel] at h
 exact h
theorem ko1 (C:Mem)(v vo:Value)(hv:Sl C 3 v (kl.map Rel.enc))(ho:Sl C 1 vo (([[65],[66],[67]]:List Str).map encS)):Gives cx.P 9 [v,vo] C (.bool true):=by
 have h:=corder_fn C v vo kl [[65],[66],[67]] hv ho
 rw [show ordB kl [[65],[66],[67]]=true by decide +kernel] at h
 exact h
theorem ko2 (C:Mem)(v vo:Value)(hv:Sl C 3 v (kl.map Rel.enc))(ho:Sl C 1 vo (([[66],[65],[67]]:List Str).map encS)):Gives cx.P 9 [v,vo] C (.bool false):=by
 have h:=corder_fn C v vo kl [[66],[65],[67]] hv ho
 rw [show ordB kl [[66],[65],[67]]=false by decide +kernel] at h
 exact h
def kr:List (List Str × Str):=[([[45,49]],[45,49]),([[49]],[51])]
theorem kp1 (C:Mem)(hT:Tabs C)(v vo vp:Value)(A:Option Addr)(n c:Nat)(hv:RowsIn C v kr)(ho:Sl C 1 vo (([[49]]:List Str).map encS))(hp:Sl C 1 vp (([[49]]:List Str).map encS))(hd:Sl C 1 (.slice A n c) (([[49],[48]]:List Str).map encS)):Gives cx.P 10 [v,vo,vp,.agg ⟨[.slice A n c]⟩] C (.bool true):=by
 have h:=optimal_fn C hT v vo vp A n c kr [[49]] [[49]] [[49],[48]] hv ho hp hd (by decide) (by decide) (by decide) (by decide) (by decide) (by decide) (by decide) (by decide)
 rw [show optM kr [[49]] [[49]] [[49],[48]]=true by decide +kernel] at h
 exact h
theorem kp2 (C:Mem)(hT:Tabs C)(v vo vp:Value)(A:Option Addr)(n c:Nat)(hv:RowsIn C v kr)(ho:Sl C 1 vo (([[49]]:List Str).map encS))(hp:Sl C 1 vp (([[50]]:List Str).map encS))(hd:Sl C 1 (.slice A n c) (([[49],[48]]:List Str).map encS)):Gives cx.P 10 [v,vo,vp,.agg ⟨[.slice A n c]⟩] C (.bool false):=by
 have h:=optimal_fn C hT v vo vp A n c kr [[49]] [[50]] [[49],[48]] hv ho hp hd (by decide) (by decide) (by decide) (by decide) (by decide) (by decide) (by decide) (by decide)
 rw [show optM kr [[49]] [[50]] [[49],[48]]=false by decide +kernel] at h
 exact h
theorem known_fn (C:Mem)(hT:Tabs C):Gives cx.P 4 [] C (.bool true):=by
 refine Fn.it (by kernel_rfl) Tryz.func4 63 fun w0=>?_
 refine G.rp 1 fun R hR=>?_
 refine D.done [] trivial (hR _ _ _ rfl ?_)
 refine G.rg fun R hR=>?_
 refine D.build (Rel.mk 1 [66] [65]).enc rfl rfl rfl rfl rfl rfl rfl rfl ?_
 refine D.build (Rel.mk 1 [67] [66]).enc rfl rfl rfl rfl rfl rfl rfl rfl ?_
 refine D.build (Rel.mk 1 [67] [65]).enc rfl rfl rfl rfl rfl rfl rfl rfl ?_
 refine D.ah (kl.map Rel.enc) (fun p8 C8 hle8 hs8=>?_)
 refine D.q1 1 1 hR ?_
 refine G.rg fun R hR=>?_
 refine D.bL [[strV [45,49]]] rfl rfl rfl rfl rfl rfl rfl rfl rfl rfl rfl rfl (fun _=>rfl) (fun b9 C9 hle9 hs9=>?_)
 refine D.build (RV.mk (some ⟨b9,0,none⟩) 1 1 [45,49]).enc rfl rfl rfl rfl rfl rfl rfl rfl ?_
 refine D.bL [[strV [49]]] rfl rfl rfl rfl rfl rfl rfl rfl rfl rfl rfl rfl (fun _=>rfl) (fun b11 C11 hle11 hs11=>?_)
 refine D.build (RV.mk (some ⟨b11,0,none⟩) 1 1 [51]).enc rfl rfl rfl rfl rfl rfl rfl rfl ?_
 refine D.ah [(RV.mk (some ⟨b9,0,none⟩) 1 1 [45,49]).enc,(RV.mk (some ⟨b11,0,none⟩) 1 1 [51]).enc] (fun p13 C13 hle13 hs13=>?_)
 refine D.q2 1 1 2 hR ?_
 have hri:RowsIn C13 p13 kr:=by
  refine ⟨[⟨some ⟨b9,0,none⟩,1,1,[45,49]⟩,⟨some ⟨b11,0,none⟩,1,1,[51]⟩],hs13,rfl, ?_⟩
  intro i r row hr hw
  match i with
  | 0=>cases hr;cases hw;exact ⟨hs9.mono mup,rfl⟩
  | 1=>cases hr;cases hw;exact ⟨hs11.mono mup,rfl⟩
  | i+2=>simp at hr
 refine G.rg fun R hR=>?_
 refine D.ah [[strV [49]]] (fun p14 C14 hle14 hs14=>?_)
 refine D.q3 1 1 2 3 hR ?_
 refine G.rg fun R hR=>?_
 refine D.bL [[strV [49]],[strV [48]]] rfl rfl rfl rfl rfl rfl rfl rfl rfl rfl rfl rfl (fun _=>rfl) (fun b15 C15 hle15 hs15=>?_)
 refine D.build [.slice (some ⟨b15,0,none⟩) 2 2] rfl rfl rfl rfl rfl rfl rfl rfl ?_
 refine D.alloc rfl rfl rfl rfl rfl (fun _=>rfl) (fun b4=>?_)
 refine D.ag (j:=0) ?_
 refine D.e4 1 2 3 4 hR ?_
 refine G.rg fun R hR=>?_
 refine D.ai (kn1 _) ?_
 refine D.ps 2 ?_
 refine D.aP (fun _=>(kn2 _)) rfl rfl rfl rfl rfl rfl rfl rfl rfl ?_
 refine D.aE rfl rfl rfl rfl rfl rfl rfl rfl ?_
 refine D.ps 2 ?_
 refine D.a8 [[.int .i64 0],[.int .i64 1]] rfl rfl rfl rfl rfl rfl rfl rfl rfl rfl rfl rfl (fun _=>rfl) rfl rfl (fun b24 C24 hle24 hs24=>?_)
 refine D.aP (fun _=>(ki1 _ _ _ (hs8.mono mup) ((hs24 ⟨rfl,trivial⟩).mono mup))) rfl rfl rfl rfl rfl rfl rfl rfl rfl ?_
 refine D.aE rfl rfl rfl rfl rfl rfl rfl rfl ?_
 refine D.ps 2 ?_
 refine D.a8 [[.int .i64 1],[.int .i64 0]] rfl rfl rfl rfl rfl rfl rfl rfl rfl rfl rfl rfl (fun _=>rfl) rfl rfl (fun b29 C29 hle29 hs29=>?_)
 refine D.aP (fun _=>(ki2 _ _ _ (hs8.mono mup) ((hs29 ⟨rfl,trivial⟩).mono mup))) rfl rfl rfl rfl rfl rfl rfl rfl rfl ?_
 refine D.ac ?_
 refine D.aE rfl rfl rfl rfl rfl rfl rfl rfl ?_
 refine D.ps 2 ?_
 refine D.a8 [[strV [65]],[strV [66]],[strV [67]]] rfl rfl rfl rfl rfl rfl rfl rfl rfl rfl rfl rfl (fun _=>rfl) rfl rfl (fun b35 C35 hle35 hs35=>?_)
 refine D.aP (fun _=>(ko1 _ _ _ (hs8.mono mup) ((hs35 ⟨rfl,trivial⟩).mono mup))) rfl rfl rfl rfl rfl rfl rfl rfl rfl ?_
 refine D.aE rfl rfl rfl rfl rfl rfl rfl rfl ?_
 refine D.ps 2 ?_
 refine D.a8 [[strV [66]],[strV [65]],[strV [67]]] rfl rfl rfl rfl rfl rfl rfl rfl rfl rfl rfl rfl (fun _=>rfl) rfl rfl (fun b40 C40 hle40 hs40=>?_)
 refine D.aP (fun _=>(ko2 _ _ _ (hs8.mono mup) ((hs40 ⟨rfl,trivial⟩).mono mup))) rfl rfl rfl rfl rfl rfl rfl rfl rfl ?_
 refine D.ac ?_
 refine D.aE rfl rfl rfl rfl rfl rfl rfl rfl ?_
 refine D.ps 4 ?_
 refine D.ae (.head _) ?_
 refine D.aP (fun _=>(kp1 _ (hT.mono mup) _ _ _ _ _ _ (hri.mono mup) (hs14.mono mup) (hs14.mono mup) (hs15.mono mup))) rfl rfl rfl rfl rfl rfl rfl rfl rfl ?_
 refine D.aE rfl rfl rfl rfl rfl rfl rfl rfl ?_
 refine D.ps 3 ?_
 refine D.a8 [[strV [50]]] rfl rfl rfl rfl rfl rfl rfl rfl rfl rfl rfl rfl (fun _=>rfl) rfl rfl (fun b54 C54 hle54 hs54=>?_)
 refine D.ae (.head _) ?_
 refine D.aP (fun _=>(kp2 _ (hT.mono mup) _ _ _ _ _ _ (hri.mono mup) (hs14.mono mup) ((hs54 ⟨rfl,trivial⟩).mono mup) (hs15.mono mup))) rfl rfl rfl rfl rfl rfl rfl rfl rfl ?_
 refine D.ac ?_
 refine D.aE rfl rfl rfl rfl rfl rfl rfl rfl ?_
 refine D.ac ?_
 refine D.build nil3 rfl rfl rfl rfl rfl rfl rfl rfl ?_
 refine D.aP (fun _=>(map0_fn _)) rfl rfl rfl rfl rfl rfl rfl rfl rfl ?_
 refine D.aE rfl rfl rfl rfl rfl rfl rfl rfl ?_
 refine D.q1 1 0 hR ?_
 refine G.rf ?_
 exact ⟨rfl,rfl⟩

theorem ratL_ex:∀ {l:List Str},l.all aX=true->∃ qs:List Rat,l=qs.map qtx/\∀ x∈qs,QB 23 x
 | [],_=>⟨[],rfl,fun x hx=>by cases hx⟩
 | s::l,h=>by
  rw [List.all_cons,Bool.and_eq_true] at h
  obtain ⟨q,e,hq⟩:=rat_of h.1
  obtain ⟨qs,e2,hqs⟩:=ratL_ex h.2
  refine ⟨q::qs,by rw [e,e2];rfl,fun x hx=>?_⟩
  rcases List.mem_cons.1 hx with rfl | hx
  ·exact hq
  ·exact hqs x hx
theorem rowL_ex {n:Nat}:∀ {rows:List (List Str × Str)},cN n rows=0->∃ rs:List (List Rat × Rat),rows=rs.map rowTx/\(∀ r∈rs,r.1.length=n)/\∀ r∈rs,(∀ x∈r.1,QB 23 x)/\QB 23 r.2
 | [],_=>⟨[],rfl,fun x hx=>(by cases hx),fun x hx=>(by cases hx)⟩
 | r::l,h=>by
  have e:cN n (r::l)=if rowZ n r≠0 then rowZ n r else cN n l:=rfl
  rw [e] at h
  have hz:rowZ n r=0:=by
   apply Classical.byContradiction
   intro hn
   rw [if_pos hn] at h
   exact hn h
  rw [if_neg (fun hn=>hn hz)] at h
  obtain ⟨h1,h2⟩:=rowZ_zero.1 hz
  obtain ⟨h3,h4⟩:=listZ_zero.1 h1
  obtain ⟨qs,e1,hqs⟩:=ratL_ex h4
  obtain ⟨b,e2,hb⟩:=rat_of h2
  obtain ⟨rs,e3,h5,h6⟩:=rowL_ex h
  refine ⟨(qs,b)::rs,by rw [e3,List.map_cons];congr 1;unfold rowTx;rw [<- e1,<- e2],fun x hx=>?_,fun x hx=>?_⟩
  ·rcases List.mem_cons.1 hx with rfl | hx
   ·show qs.length=n
    rw [e1,List.length_map] at h3
    omega
   ·exact h5 x hx
  ·rcases List.mem_cons.1 hx with rfl | hx
   ·exact ⟨hqs,hb⟩
   ·exact h6 x hx
theorem rows_ex (n:Nat)(rows:List (List Str × Str))(hl:rows.length<=150):∃ rs:List (List Rat × Rat),cN n rows=0->rows=rs.map rowTx/\RowsQ n rs:=by
 by_cases h:cN n rows=0
 ·obtain ⟨rs,h1,h2,h3⟩:=rowL_ex h
  exact ⟨rs,fun _=>⟨h1,h2,h3,by rw [h1,List.length_map] at hl;exact hl⟩⟩
 ·exact ⟨[],fun h2=>absurd h2 h⟩
theorem chkP_zero {n:Nat}{rows:List (List Str × Str)}(hn:n<=60)(hl:rows.length<=300):chkP n rows (List.replicate n [48])=cN n rows:=by
 have hz0:bg (n:Int) (List.replicate n ([48]:Str))=0:=by
  unfold bg
  rw [if_pos (by rw [List.length_replicate])]
  rw [show (List.replicate n ([48]:Str)).all aX=true from List.all_eq_true.2 fun s hs=>by rw [List.eq_of_mem_replicate hs];decide +kernel]
  rfl
 unfold chkP
 rw [if_neg (by omega),if_neg (by omega),if_neg (fun h=>h hz0)]
theorem dual_ex (d:List Str):∃ ds:List Rat,d.all aX=true->d=ds.map qtx/\∀ x∈ds,QB 23 x:=by
 by_cases h:d.all aX=true
 ·obtain ⟨qs,h1,h2⟩:=ratL_ex h
  exact ⟨qs,fun _=>⟨h1,h2⟩⟩
 ·exact ⟨[],fun h2=>absurd h2 h⟩
theorem rowsT_of {C:Mem}{v:Value}{rows:List (List Str × Str)}(h:RowsIn C v rows):RowsT C v rows:=by
 obtain ⟨rs,h1,h2,h3⟩:=h
 refine ⟨rs.map fun r=>.slice r.A r.n r.c,by rw [List.length_map,h2],fun i w r hw hr=>?_, ?_⟩
 ·rw [List.getElem?_map] at hw
  cases e:rs[i]? with
  | none=>rw [e] at hw;cases hw
  | some x=>rw [e] at hw;cases hw;exact (h3 i x r e hr).1
 ·have e:rs.map RV.enc=List.zipWith (fun w (r:List Str × Str)=>[w,strV r.2]) (rs.map fun r=>.slice r.A r.n r.c) rows:=by
   refine List.ext_getElem? fun i=>?_
   rw [List.getElem?_map,List.getElem?_zipWith,List.getElem?_map]
   cases e1:rs[i]? with
   | none=>rfl
   | some x =>
    have hi:=(List.getElem?_eq_some_iff.1 e1).1
    obtain ⟨r,e2⟩:∃ r,rows[i]?=some r:=⟨rows[i]'(by omega),List.getElem?_eq_getElem (by omega)⟩
    rw [e2]
    show some (RV.enc x)=some [Value.slice x.A x.n x.c,strV r.2]
    rw [<- (h3 i x r e1 e2).2];rfl
  rw [<- e];exact h1
theorem refC_long {n:Int}{rows:List (List Str × Str)}{d:List Str}(hn:n<0∨4<n)(hf:∀ r∈rows,r.1.length<=4):refC n rows d=false:=by
 unfold refC
 rcases hn with hn | hn
 ·rw [decide_eq_true hn];rfl
 ·by_cases h0:rows.length=0
  ·rw [decide_eq_true h0,Bool.not_true,Bool.and_false,Bool.false_and]
  ·cases rows with
   | nil=>exact absurd rfl h0
   | cons r l =>
    have ho:bw n (r::l) d=none:=by
     cases ho:bw n (r::l) d with
     | none=>rfl
     | some pm =>
      exfalso
      obtain ⟨h1,_⟩:=openM_parts (ps:=pm.1) (ms:=pm.2) ho
      have h2:=(rowsM_some n (r::l)).1 (by rw [h1];rfl)
      have e:cN n (r::l)=if rowZ n r≠0 then rowZ n r else cN n l:=rfl
      rw [e] at h2
      have hz:rowZ n r=0:=by
       apply Classical.byContradiction
       intro hn
       rw [if_pos hn] at h2
       exact hn h2
      have h3:=(listZ_zero.1 (rowZ_zero.1 hz).1).1
      have h4:=hf r List.mem_cons_self
      omega
    rw [ho,Bool.and_false]
theorem lrows_fn (C:Mem)(hT:Tabs C)(n:Int)(v lv:Value)(rows:List (List Str × Str))(li:List Str)(hv:RowsIn C v rows)(hl:Sl C 1 lv (li.map encS)) :
  Gives cx.P 3 [.int .i64 n,v,lv] C (.bool true):=by
 have hv0:=hv
 have hvT:=rowsT_of hv
 obtain ⟨rs0,hsv,hrl,hrs⟩:=hv
 obtain ⟨A0,c0,rfl,hlx,hlx2,_⟩:=id hsv
 obtain ⟨Al,cl,rfl,hlc,hlc2,_⟩:=id hl
 have hmx:maxLen<=9223372036854775807:=by simp [maxLen]
 simp only [List.length_map,hrl] at hsv hlx hlx2 hv0 hvT hl hlc ⊢
 refine Fn.it (by kernel_rfl) Tryz.func3 102 fun w0=>?_
 refine G.z3 1 0 1 2 ?_
 refine G.rg fun R hR=>?_
 refine D.ai (known_fn _ (hT.mono mup)) ?_
 refine D.ps 5 ?_
 refine D.ay rfl rfl rfl rfl rfl rfl rfl rfl ?_
 refine D.ps 4 ?_
 refine D.ay rfl rfl rfl rfl rfl rfl rfl rfl ?_
 refine D.e4 0 1 2 27 hR ?_
 refine G.cd (fun h27=>?_) fun h27=>?_
 ·refine G.rg fun R hR=>?_
  refine D.ai (known_fn _ (hT.mono mup)) ?_
  refine D.q1 1 6 hR ?_
  refine G.rf ?_
  exact ⟨rfl,rfl⟩
 ·have h4:rows.length<=4/\li.length<=4:=by
   simp only [Bool.or_eq_false_iff,decide_eq_false_iff_not] at h27
   omega
  refine G.z6 3 0 1 2 29 30 31 ?_
  refine G.loop (fun fr C' L' μ=>∃ (i:Nat),(i<=rows.length/\∀ r∈rows.take i,r.1.length<=4/\r.2.length<=20/\∀ s∈r.1,s.length<=20)/\fr=[(0,[],.int .i64 n),(1,[],.slice A0 rows.length c0),(2,[],.slice Al li.length cl),(29,[],.slice A0 rows.length c0),(30,[],.int .i64 rows.length),(31,[],.int .i64 i)]/\L'=[]/\μ=rows.length-i) (h_6 0 1 2 29 30 31) ⟨0,⟨Nat.zero_le _,by simp⟩,rfl,rfl,rfl⟩ (fun fr C0' L0' m hle0 hI=>?_)
  obtain ⟨i,⟨hi,hsm⟩,rfl,rfl,rfl⟩:=hI
  refine G.z7 1 0 1 2 29 30 31 32 ?_
  refine G.cd (fun h32=>?_) fun h32=>?_
  ·have hil:i<rows.length:=by
    have:=of_decide_eq_true h32
    omega
   obtain ⟨r,hri⟩:∃ r,rows[i]?=some r:=⟨rows[i],List.getElem?_eq_getElem hil⟩
   obtain ⟨x,hx⟩:∃ x,rs0[i]?=some x:=⟨rs0[i]'(by omega),List.getElem?_eq_getElem _⟩
   obtain ⟨hxs,hxe⟩:=hrs i x r hx hri
   obtain ⟨_,_,e⟩:=id hxs
   obtain ⟨e,_⟩:=e
   injection e with e1 e2 e3
   rw [List.length_map] at e2
   refine G.rg fun R hR=>?_
   refine D.ap (hsv.mono mup) rfl rfl rfl rfl rfl rfl rfl rfl rfl rfl (by omega) (prow_at hx) (fun _=>rfl) (fun p33 hp33=>?_)
   refine D.af hp33 ?_
   refine D.alloc rfl rfl rfl rfl rfl (fun _=>rfl) (fun b8=>?_)
   refine D.ag (j:=0) ?_
   refine D.e7 0 1 2 8 29 30 31 hR ?_
   refine G.freeze 0 rfl (fun C8 hle8 hb8=>?_)
   refine G.rp 1 fun R hR=>?_
   refine D.af (bkT hb8 1) ?_
   refine D.ps 4 ?_
   refine D.cU rfl rfl rfl rfl rfl rfl (fun _=>PtrTo.blockT (Mem.get hb8 mup) _ 1) rfl rfl rfl ?_
   refine D.ps 2 ?_
   refine D.ay rfl rfl rfl rfl rfl rfl rfl rfl ?_
   refine D.e8 0 1 2 8 29 30 31 44 hR ?_
   refine G.cd (fun h44=>?_) fun h44=>?_
   ·refine G.z1 1 6 ?_
    refine G.rf ?_
    exact ⟨rfl,rfl⟩
   ·have hc:r.1.length<=4/\r.2.length<=20:=by
     have h:(decide ((x.n:Int) > 4) || decide ((x.s.length:Int) > 20))=false:=h44
     simp only [Bool.or_eq_false_iff,decide_eq_false_iff_not] at h
     rw [hxe] at h
     omega
    refine G.rp 1 fun R hR=>?_
    refine D.af (bkT hb8 1) ?_
    refine D.q9 2 0 1 2 29 30 31 46 47 48 hR ?_
    refine G.loop (fun fr C' L' μ=>∃ (j:Nat),(j<=r.1.length/\∀ s∈r.1.take j,s.length<=20)/\fr=[(0,[],.int .i64 n),(1,[],.slice A0 rows.length c0),(2,[],.slice Al li.length cl),(29,[],.slice A0 rows.length c0),(30,[],.int .i64 rows.length),(31,[],.int .i64 i),(46,[],.slice x.A x.n x.c),(47,[],.int .i64 x.n),(48,[],.int .i64 j)]/\L'=[]/\μ=r.1.length-j) (h_9 0 1 2 29 30 31 46 47 48) ⟨0,⟨Nat.zero_le _,by simp⟩,rfl,rfl,rfl⟩ (fun fr C1' L1' m hle1 hI=>?_)
    obtain ⟨j,⟨hj,hsj⟩,rfl,rfl,rfl⟩:=hI
    refine G.z10 1 0 1 2 29 30 31 46 47 48 49 ?_
    refine G.cd (fun h49=>?_) fun h49=>?_
    ·have hjl:j<r.1.length:=by
      have:=of_decide_eq_true h49
      omega
     obtain ⟨s,hs⟩:∃ s,r.1[j]?=some s:=⟨r.1[j],List.getElem?_eq_getElem hjl⟩
     refine G.rg fun R hR=>?_
     refine D.ap (hxs.mono mup) rfl rfl rfl rfl rfl rfl rfl rfl rfl rfl (by omega) (prow_at hs) (fun _=>rfl) (fun p50 hp50=>?_)
     refine D.af hp50 ?_
     refine D.q10 1 0 1 2 10 29 30 31 46 47 48 hR ?_
     refine G.z10 3 0 1 2 29 30 31 46 47 48 54 ?_
     refine G.cd (fun h54=>?_) fun h54=>?_
     ·refine G.z1 1 6 ?_
      refine G.rf ?_
      exact ⟨rfl,rfl⟩
     ·have hs20:s.length<=20:=by
       have:¬ ((s.length:Int) > 20):=of_decide_eq_false h54
       omega
      refine G.rg fun R hR=>?_
      refine D.aw _ rfl ?_
      refine D.q9 1 0 1 2 29 30 31 46 47 48 hR ?_
      refine G.au (m':=r.1.length-(j+1)) (by omega) mup (h_9 0 1 2 29 30 31 46 47 48) ⟨j+1,⟨by omega,fun y hy=>by
       rw [List.take_add_one,hs] at hy
       rcases List.mem_append.1 hy with h | h
       ·exact hsj y h
       ·simp only [Option.toList_some,List.mem_singleton] at h
        subst h
        exact hs20⟩,rfl,rfl,rfl⟩
    ·have hjl:j=r.1.length:=by
      have:=of_decide_eq_false h49
      omega
     rw [hjl,List.take_length] at hsj
     refine G.rg fun R hR=>?_
     refine D.aw _ rfl ?_
     refine D.q6 1 0 1 2 29 30 31 hR ?_
     refine G.au (m':=rows.length-(i+1)) (by omega) mup (h_6 0 1 2 29 30 31) ⟨i+1,⟨by omega,fun y hy=>by
      rw [List.take_add_one,hri] at hy
      rcases List.mem_append.1 hy with h | h
      ·exact hsm y h
      ·simp only [Option.toList_some,List.mem_singleton] at h
       subst h
       exact ⟨hc.1,hc.2,hsj⟩⟩,rfl,rfl,rfl⟩
  ·have hil:i=rows.length:=by
    have:=of_decide_eq_false h32
    omega
   rw [hil,List.take_length] at hsm
   refine G.z6 3 0 1 2 57 58 59 ?_
   refine G.loop (fun fr C' L' μ=>∃ (k:Nat),(k<=li.length/\∀ s∈li.take k,s.length<=20)/\fr=[(0,[],.int .i64 n),(1,[],.slice A0 rows.length c0),(2,[],.slice Al li.length cl),(57,[],.slice Al li.length cl),(58,[],.int .i64 li.length),(59,[],.int .i64 k)]/\L'=[]/\μ=li.length-k) (h_6 0 1 2 57 58 59) ⟨0,⟨Nat.zero_le _,by simp⟩,rfl,rfl,rfl⟩ (fun fr C2' L2' m hle2 hI=>?_)
   obtain ⟨k,⟨hk,hsk⟩,rfl,rfl,rfl⟩:=hI
   refine G.z7 1 0 1 2 57 58 59 60 ?_
   refine G.cd (fun h60=>?_) fun h60=>?_
   ·have hkl:k<li.length:=by
     have:=of_decide_eq_true h60
     omega
    obtain ⟨s,hs⟩:∃ s,li[k]?=some s:=⟨li[k],List.getElem?_eq_getElem hkl⟩
    refine G.rg fun R hR=>?_
    refine D.ap (hl.mono mup) rfl rfl rfl rfl rfl rfl rfl rfl rfl rfl (by omega) (prow_at hs) (fun _=>rfl) (fun p61 hp61=>?_)
    refine D.af hp61 ?_
    refine D.q7 1 0 1 2 12 57 58 59 hR ?_
    refine G.z7 3 0 1 2 57 58 59 65 ?_
    refine G.cd (fun h65=>?_) fun h65=>?_
    ·refine G.z1 1 6 ?_
     refine G.rf ?_
     exact ⟨rfl,rfl⟩
    ·have hs20:s.length<=20:=by
      have:¬ ((s.length:Int) > 20):=of_decide_eq_false h65
      omega
     refine G.rg fun R hR=>?_
     refine D.aw _ rfl ?_
     refine D.q6 1 0 1 2 57 58 59 hR ?_
     refine G.au (m':=li.length-(k+1)) (by omega) mup (h_6 0 1 2 57 58 59) ⟨k+1,⟨by omega,fun y hy=>by
      rw [List.take_add_one,hs] at hy
      rcases List.mem_append.1 hy with h | h
      ·exact hsk y h
      ·simp only [Option.toList_some,List.mem_singleton] at h
       subst h
       exact hs20⟩,rfl,rfl,rfl⟩
   ·have hkl:k=li.length:=by
     have:=of_decide_eq_false h60
     omega
    rw [hkl,List.take_length] at hsk
    have hfc:∀ r∈rows,r.1.length<=1000000/\(∀ s∈r.1,s.length<1000000)/\r.2.length<1000000:=fun r hr=>⟨by have:=(hsm r hr).1;omega,fun s hs=>by have:=(hsm r hr).2.2 s hs;omega,by have:=(hsm r hr).2.1;omega⟩
    have hlc2:∀ s∈li,s.length<1000000:=fun s hs=>by have:=hsk s hs;omega
    refine G.rp 1 fun R hR=>?_
    refine D.build [.slice Al li.length cl] rfl rfl rfl rfl rfl rfl rfl rfl ?_
    refine D.alloc rfl rfl rfl rfl rfl (fun _=>rfl) (fun b13=>?_)
    refine D.ag (j:=0) ?_
    refine D.e3 0 1 13 hR ?_
    refine G.freeze 0 rfl (fun C13 hle13 hb13=>?_)
    refine G.rp 5 fun R hR=>?_
    refine D.ay rfl rfl rfl rfl rfl rfl rfl rfl ?_
    refine D.e4 0 1 13 74 hR ?_
    refine G.cd (fun h74=>?_) fun h74=>?_
    ·have hn:n<0∨4<n:=by
      simp only [Bool.or_eq_true,decide_eq_true_eq] at h74
      omega
     have hno:=refC_long (d:=li) hn (fun r hr=>(hsm r hr).1)
     refine G.rp 2 fun R hR=>?_
     refine D.af (bkT hb13 1) ?_
     refine D.aq (crefutes_fn _ (hT.mono mup) _ n Al li.length cl rows li (hv0.mono mup) (hl.mono mup) (by omega) hfc (by omega) hlc2) rfl rfl rfl rfl rfl rfl rfl (fun _=>rfl) ?_
     refine D.q1 2 6 hR ?_
     refine G.rf ?_
     exact ⟨by rw [hno];rfl,rfl⟩
    ·have hn:¬ (n<0∨4<n):=by
      simp only [Bool.or_eq_false_iff,decide_eq_false_iff_not] at h74
      omega
     obtain ⟨m,hm⟩:∃ m:Nat,n=(m:Nat):=⟨n.toNat,by omega⟩
     subst hm
     obtain ⟨rs,hrs⟩:=rows_ex m rows (by omega)
     obtain ⟨ds,hds⟩:=dual_ex li
     refine G.rp 2 fun R hR=>?_
     refine D.build [.int .i64 (m:Nat),.slice A0 rows.length c0,.slice none 0 0] rfl rfl rfl rfl rfl rfl rfl rfl ?_
     refine D.alloc rfl rfl rfl rfl rfl (fun _=>rfl) (fun b14=>?_)
     refine D.ag (j:=0) ?_
     refine D.e4 0 1 13 14 hR ?_
     refine G.z5 1 0 1 13 14 15 ?_
     refine G.nilArr 25 1 ?_
     refine G.perm (L':=[.obj b14 (.cells ⟨[.int .i64 (m:Nat),.slice A0 rows.length c0,.slice none 0 0]⟩ 32 (0,0)),.arr (sA none 0 0) 25 1 0 ((List.replicate 0 ([48]:Str)).map encT1).flatten]) (List.Perm.swap _ _ _) ?_
     refine G.loop (fun fr C' L' μ=>∃ (i:Nat)(Aw:Option Addr)(nw cw:Nat),(i<=m)/\fr=[(0,[],.int .i64 (m:Nat)),(1,[],.slice A0 rows.length c0),(13,[],.pointer (some ⟨b13,0,none⟩)),(14,[],.pointer (some ⟨b14,0,none⟩)),(15,[],.int .i64 i)]/\L'=[.obj b14 (.cells ⟨[.int .i64 (m:Nat),.slice A0 rows.length c0,.slice Aw nw cw]⟩ 32 (0,0)),.arr (sA Aw nw cw) 25 1 i ((List.replicate i ([48]:Str)).map encT1).flatten]/\μ=m-i) (h_5 0 1 13 14 15) ⟨0,none,0,0,Nat.zero_le _,rfl,rfl,rfl⟩ (fun fr C3' L3' m hle3 hI=>?_)
     obtain ⟨i,Aw,nw,cw,hi3,rfl,rfl,rfl⟩:=hI
     refine G.z6 3 0 1 13 14 15 85 ?_
     refine G.cd (fun h85=>?_) fun h85=>?_
     ·have him:i<m:=by
       have:=of_decide_eq_true h85
       omega
      refine G.rp 1 fun R hR=>?_
      refine D.ae (.head _) ?_
      refine D.ah [[strV [48]]] (fun p90 C90 hle90 hs90=>?_)
      refine D.ak (j:=1) rfl rfl rfl rfl rfl rfl rfl rfl rfl rfl rfl hs90 rfl (by simp only [List.length_singleton,maxLen];omega) (by simp only [List.length_singleton];omega) (fun _=>rfl) (fun A91 n91 c91=>?_)
      refine D.ac ?_
      refine D.ag (j:=1) ?_
      refine D.e5 0 1 13 14 15 hR ?_
      refine G.rp 1 fun R hR=>?_
      refine D.aw _ rfl ?_
      refine D.q5 1 0 1 13 14 15 hR ?_
      refine G.aJ (L':=[.obj b14 (.cells ⟨[.int .i64 (m:Nat),.slice A0 rows.length c0,.slice A91 n91 c91]⟩ 32 (0,0)),.arr (sA A91 n91 c91) 25 1 (i+1) ((List.replicate (i+1) ([48]:Str)).map encT1).flatten]) (by rw [List.replicate_succ',List.map_append,List.flatten_append];rfl) ?_
      refine G.au (m':=m-(i+1)) (by omega) mup (h_5 0 1 13 14 15) ⟨i+1,A91,n91,c91,(by omega),rfl,rfl,rfl⟩
     ·have him:i=m:=by
       have:=of_decide_eq_false h85
       omega
      subst him
      refine G.freezeArr 1 ((List.replicate i ([48]:Str)).map encT1) rfl rfl (by intro r hr;obtain ⟨y,_,rfl⟩:=List.mem_map.1 hr;rfl) (by rw [List.length_map,List.length_replicate]) (fun C15 hle15 hob=>?_)
      refine G.freeze 0 rfl (fun C16 hle16 hb16=>?_)
      refine G.aR [0,1,2,3,4,5,6,7,8,9] [(3,1),(6,1)] rfl (by kernel_rfl) (fun R hB hR=>?_)
      refine D.ps 2 ?_
      refine D.af (bkT hb13 1) ?_
      refine D.aP (fun _=>(crefutes_fn _ (hT.mono mup) _ (i:Nat) Al li.length cl rows li (hv0.mono mup) (hl.mono mup) (by omega) hfc (by omega) hlc2)) rfl rfl rfl rfl rfl rfl rfl rfl rfl ?_
      refine D.af (bkT hb16 3) ?_
      refine D.af (bkT hb13 1) ?_
      refine D.aP (fun _=>(prefutes_fn _ (hT.mono mup) i _ _ _ rows (List.replicate i [48]) li rs ds (hvT.mono mup) (hob.mono mup) (fun r hr=>⟨fun s hs=>by have:=(hsm r hr).2.2 s hs;omega,by have:=(hsm r hr).2.1;omega⟩) (fun s hs=>by rw [List.eq_of_mem_replicate hs];decide) (hl.mono mup) (fun s hs=>by have:=hsk s hs;omega) (fun h=>hrs (by rw [<- chkP_zero (by omega) (by omega)];exact h)) hds)) rfl rfl rfl rfl rfl rfl rfl rfl rfl ?_
      refine D.q1 3 6 hR ?_
      refine G.rf ?_
      refine ⟨?_,rfl⟩
      rw [ref_same i rows li rs ds (by omega) (by omega) (fun h=>hrs (by rw [<- chkP_zero (by omega) (by omega)];exact h)) hds]
      simp
      rfl
open Go Go.Jog Go.ChangeShapes Go.WideShapes Go.ChangeAt Go.RowKit
set_option maxRecDepth 100000

theorem own:ownKnob Tryz.prog.godebug=none:=by kernel_rfl
section
variable {H:Type} {enc:TypeId × Value->H} {W:World} {spare:Nat->Bool} {held:Bool}
theorem rat_strA {n:Nat}{c:Value}{y:DataW H × List MemPlace}(h:DataW.trod enc Tryz.prog W 0 spare held n 25 [c]=some y):∃ s:Str,c=strV s:=by
 obtain ⟨s,h1,_⟩:=DataW.trod_string Tryz.underlying25 h
 simp only [List.cons.injEq,and_true] at h1
 obtain ⟨⟨l⟩⟩:=s
 exact ⟨l,h1⟩
theorem ratL_of {fuel:Nat}{v:Value}{x:DataW H × List MemPlace}(h:DataW.trod enc Tryz.prog W 0 spare held fuel 23 [v]=some x):∃ l:List Str,Sl (memOf W) 1 v (l.map encS) :=
 sl_of_arg encS Tryz.underlying23 (by kernel_rfl) (by decide) (fun n cs y hl hy=>by
  match cs,hl with
  | [c],_ =>
   obtain ⟨s,rfl⟩:=rat_strA hy
   exact ⟨s,rfl⟩) h
theorem rows_of {fuel:Nat}{v:Value}{x:DataW H × List MemPlace}(h:DataW.trod enc Tryz.prog W 0 spare held fuel 22 [v]=some x):∃ l:List (List Str × Str),RowsIn (memOf W) v l:=by
 have h1:Tryz.prog.cellsOf 23=1:=by kernel_rfl
 have h2:Tryz.prog.cellsOf 25=1:=by kernel_rfl
 obtain ⟨l,hl⟩:∃ l:List {p:RV × (List Str × Str) // Sl (memOf W) 1 (.slice p.1.A p.1.n p.1.c) (p.2.1.map encS)/\p.1.s=p.2.2},Sl (memOf W) 2 v (l.map fun p=>RV.enc p.1.1):=sl_of_arg (fun p:{p:RV × (List Str × Str) // Sl (memOf W) 1 (.slice p.1.A p.1.n p.1.c) (p.2.1.map encS)/\p.1.s=p.2.2}=>RV.enc p.1.1) Tryz.underlying22 (by kernel_rfl) (by decide) (fun n cs y hl hy=>by
  match cs,hl with
  | [c0,c1],_ =>
   obtain ⟨y0,y1,n',_,_,e0,e1⟩:=Go.ChangeShapes.trod_struct2 Tryz.underlying27 hy
   simp only [h1,h2] at e0 e1
   obtain ⟨f,hf⟩:=ratL_of e0
   obtain ⟨s,rfl⟩:=rat_strA e1
   obtain ⟨A,c,rfl,_⟩:=id hf
   exact ⟨⟨(⟨A,(f.map encS).length,c,s⟩,(f,s)),hf,rfl⟩,rfl⟩) h
 refine ⟨l.map (·.1.2),l.map (·.1.1),by rw [List.map_map];exact hl,by rw [List.length_map,List.length_map],fun i r row hr hrow=>?_⟩
 rw [List.getElem?_map] at hr hrow
 cases e:l[i]? with
 | none=>rw [e] at hr;cases hr
 | some p=>rw [e] at hr hrow;cases hr;cases hrow;exact p.2
end

def layCells (cs:Array Value):Obj->Obj
 | .cells _ t frozen=>.cells cs t frozen
 | o=>o
def db32Cells:Array Value:=(Lib.deBruijn32tab.map fun z:Nat=>Value.int .u8 (z:Int)).toArray
def db64Cells:Array Value:=(Lib.deBruijn64tab.map fun z:Nat=>Value.int .u8 (z:Int)).toArray
def pow10Cells:Array Value:=(Lib.pow10Tab.map fun z=>Value.int .u64 z).toArray
def rangeText:ByteArray:=⟨#[118,97,108,117,101,32,111,117,116,32,111,102,32,114,97,110,103,101]⟩
def syntaxText:ByteArray:=⟨#[105,110,118,97,108,105,100,32,115,121,110,116,97,120]⟩
noncomputable def low:Nat:=(World.holding Tryz.prog default ⟨#[],#[],[]⟩).heap.size
noncomputable def laidWorld (os:Os):World :=
 let w0:=World.holding Tryz.prog os ⟨#[.cells #[.string rangeText] 250,.cells #[.string syntaxText] 250],#[],[]⟩
 { w0 with heap:=((((w0.heap.modify 4 (layCells db32Cells)).modify 5 (layCells db64Cells)).modify 1 (layCells pow10Cells)).modify 3 (layCells #[.iface 248 (.pointer (some ⟨low,0,none⟩))])).modify 2 (layCells #[.iface 248 (.pointer (some ⟨low+1,0,none⟩))]) }
theorem tabs_of {W : World} (h : laidMet Tryz.prog [("math/bits.deBruijn32tab", Rows.laid_math_bits_deBruijn32tab), ("math/bits.deBruijn64tab", Rows.laid_math_bits_deBruijn64tab), ("internal/strconv.uint64pow10", Rows.laid_internal_strconv_uint64pow10), ("strconv.ErrRange", Rows.laid_strconv_ErrRange), ("strconv.ErrSyntax", Rows.laid_strconv_ErrSyntax)] W) : Tabs (memOf W) := by
 have h2:=h.tail.tail
 have e2:(Rows.laid_internal_strconv_uint64pow10:DataW Unit)=Lib.tabData .u64 Lib.pow10Tab:=by rfl
 rw [e2] at h2
 have t2:=Lib.tabIs_of_head (g:=1) (t:=241) (e:=150) (n:=20) (by kernel_rfl) (by kernel_rfl) Tryz.underlying241 Tryz.underlying150 (by kernel_rfl) (by kernel_rfl) h2
 exact ⟨VarC.ofWorld t2⟩
theorem laidOut':laidOutB Tryz.prog=true:=by kernel_rfl
section
variable {H:Type} {enc:TypeId × Value->H} {W:World} {spare:Nat->Bool} {held:Bool}
end
section
variable {H:Type} {enc:TypeId × Value->H} {W:World} {spare:Nat->Bool} {held:Bool}
end
end Go.Proofs.YtoliaheocaoncaaGreatDoor
