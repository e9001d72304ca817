/- Laws that the proofs of this seat share, part 9. -/
import Derived.Test.YtifolnapeolhcaaGreatDoorG8
import Derived.Test.YtifolnapeolhcaaGreatDoorShelf
set_option maxHeartbeats 4000000
namespace Go.Proofs.YtifolnapeolhcaaGreatDoor
open Go Go.Jog
set_option maxRecDepth 100000

def gR (l:List Rel)(i:Int):Rel:=l.getD i.toNat default
theorem gR_at {l:List Rel}{i:Int}(h0:0<=i)(h1:i<l.length):l[i.toNat]?=some (gR l i)/\(l.map Rel.enc)[i.toNat]?=some (gR l i).enc:=by
 have e:l[i.toNat]?=some (gR l i):=by
  unfold gR
  rw [List.getD_eq_getElem?_getD,List.getElem?_eq_getElem om_];rfl
 exact ⟨e,by rw [List.getElem?_map,e];rfl⟩
def arcB (l:List Rel)(i:Int):Bool:=decide (0<=i) && decide (i<l.length) && decide (1<=(gR l i).kind) && decide ((gR l i).kind<=3)
theorem arcB_in {l:List Rel}{i:Int}(h:arcB l i=true):0<=i/\i<l.length:=by
 unfold arcB at h
 simp at h
 omega
theorem carc_fn (C:Mem)(v:Value)(l:List Rel)(i:Int)(hv:Sl C 3 v (l.map Rel.enc)):Gives cx.P 43 [v,.int .i64 i] C (.bool (arcB l i)):=by
 obtain ⟨A,c,rfl,_⟩:=id hv
 simp only [List.length_map] at hv ⊢
 refine Fn.it kr_ Tryz.func43 29 fun w0=>?_
 refine G.z2 1 0 1 ?_
 refine G.rp 7 fun R hR=>?_
 refine D.au ?_
 refine D.ps 3 ?_
 refine D.index rfl rfl rfl rfl rfl rfl rfl rfl rfl rfl (fun hg=>⟨hv,(by have h:(decide (0<=i) && decide (i<(l.length:Int)))=true:=hg.1;simp at h;omega),(by have h:(decide (0<=i) && decide (i<(l.length:Int)))=true:=hg.1;simp at h;exact (gR_at h.1 h.2).2)⟩) fl_ rfl (fun p16 hp16=>?_)
 refine D.fa rfl rfl rfl rfl rfl rfl rfl rfl rfl rfl hp16 fl_ rfl (fun p17 hp17=>?_)
 refine D.aK rfl rfl rfl rfl rfl rfl hp17 rfl rfl rfl ?_
 refine D.ae ?_
 refine D.au ?_
 refine D.ps 3 ?_
 refine D.index rfl rfl rfl rfl rfl rfl rfl rfl rfl rfl (fun hg=>⟨hv,(by have h:(decide (0<=i) && decide (i<(l.length:Int)) && decide (1<=(gR l i).kind))=true:=hg.1;simp at h;omega),(by have h:(decide (0<=i) && decide (i<(l.length:Int)) && decide (1<=(gR l i).kind))=true:=hg.1;simp at h;exact (gR_at h.1.1 h.1.2).2)⟩) fl_ rfl (fun p24 hp24=>?_)
 refine D.fa rfl rfl rfl rfl rfl rfl rfl rfl rfl rfl hp24 fl_ rfl (fun p25 hp25=>?_)
 refine D.aK rfl rfl rfl rfl rfl rfl hp25 rfl rfl rfl ?_
 refine D.ae ?_
 refine D.au ?_
 refine D.q1 1 4 hR ?_
 refine G.rf ?_
 exact ⟨rfl,rfl⟩
def stepsM (l:List Rel)(ix:Int):Str->List Int->Option Str
 | u,[]=>some u
 | u,i::r=>if arcB l i && !(i == ix) && decide ((gR l i).lower=u) then stepsM l ix (gR l i).upper r else none
def impB (l:List Rel)(ix:Int)(bs:List Int):Bool:=arcB l ix && !(decide (bs.length=0)) && (match stepsM l ix (gR l ix).lower bs with
 | some u=>decide (u=(gR l ix).upper)
 | none=>false)
theorem implied_fn (C:Mem)(v vb:Value)(l:List Rel)(ix:Int)(bs:List Int)(hv:Sl C 3 v (l.map Rel.enc))(hb:Sl C 1 vb (bs.map encI)):Gives cx.P 15 [v,.int .i64 ix,vb] C (.bool (impB l ix bs)):=by
 obtain ⟨A,c,rfl,hl1,hl2,_⟩:=id hv
 obtain ⟨Ab,cb,rfl,hb1,hb2,_⟩:=id hb
 have hmx:maxLen<=9223372036854775807:=by simp [maxLen]
 simp only [List.length_map] at hv hb hb1 hl1 ⊢
 refine Fn.it kr_ Tryz.func15 61 fun w0=>?_
 refine G.z3 1 0 1 2 ?_
 refine G.rp 2 fun R hR=>?_
 refine D.aj (carc_fn _ _ l ix hv) ?_
 refine D.ps 5 ?_
 refine D.aG rfl rfl rfl rfl rfl rfl rfl rfl ?_
 refine D.e4 0 1 2 18 hR ?_
 refine G.cd (fun h18=>?_) fun h18=>?_
 ·have hno:impB l ix bs=false:=by
   unfold impB
   cases h1:arcB l ix with
   | false=>rfl
   | true =>
    rw [h1] at h18
    have h2:bs.length=0:=by simpa using h18
    simp [h2]
  refine G.z1 1 6 ?_
  refine G.rf ?_
  exact ⟨by rw [hno],rfl⟩
 ·have h1:arcB l ix=true:=by
   cases h1:arcB l ix with
   | true=>rfl
   | false=>rw [h1] at h18;cases h18
  have h2:¬ bs.length=0:=by
   rw [h1] at h18
   simpa using h18
  obtain ⟨hx0,hx1⟩:=arcB_in h1
  have hI:impB l ix bs=(match stepsM l ix (gR l ix).lower bs with
   | some u=>decide (u=(gR l ix).upper)
   | none=>false):=by
   unfold impB
   rw [h1];simp [h2]
  refine G.rp 2 fun R hR=>?_
  refine D.ak (hv.mono mup) rfl rfl rfl rfl rfl rfl rfl rfl rfl rfl om_ (gR_at hx0 hx1).2 fl_ (fun p21 hp21=>?_)
  refine D.d5 hp21 rfl rfl rfl rfl rfl rfl rfl rfl rfl rfl fl_ (fun p22 hp22=>?_)
  refine D.ac hp22 ?_
  refine D.q4 1 0 1 2 7 hR ?_
  refine G.z6 3 0 1 7 24 25 26 ?_
  refine G.loop (fun fr C' L' μ=>∃ (k:Nat)(u:Str),(k<=bs.length/\stepsM l ix (gR l ix).lower bs=stepsM l ix u (bs.drop k))/\fr=[(0,[],.slice A l.length c),(1,[],.int .i64 ix),(7,[],strV u),(24,[],.slice Ab bs.length cb),(25,[],.int .i64 bs.length),(26,[],.int .i64 k)]/\L'=[]/\μ=bs.length-k) (h_6 0 1 7 24 25 26) ⟨0,(gR l ix).lower,⟨Nat.zero_le _,rfl⟩,rfl,rfl,rfl⟩ (fun fr C0' L0' m hle0 hI=>?_)
  obtain ⟨k,u,⟨hk,hst⟩,rfl,rfl,rfl⟩:=hI
  refine G.z7 1 0 1 7 24 25 26 27 ?_
  refine G.cd (fun h27=>?_) fun h27=>?_
  ·have hkl:k<bs.length:=by simpa using h27
   obtain ⟨i,hi⟩:∃ i,bs[k]?=some i:=⟨bs[k],List.getElem?_eq_getElem hkl⟩
   have hrow:(bs.map encI)[k]?=some (encI i):=by rw [List.getElem?_map,hi];rfl
   have hdr:bs.drop k=i::bs.drop (k+1):=by
    rw [List.drop_eq_getElem_cons hkl]
    congr 1
    exact (List.getElem?_eq_some_iff.1 hi).2
   refine G.rg fun R hR=>?_
   refine D.ak (hb.mono mup) rfl rfl rfl rfl rfl rfl rfl rfl rfl rfl om_ hrow fl_ (fun p28 hp28=>?_)
   refine D.ac hp28 ?_
   refine D.q7 1 0 1 7 9 24 25 26 hR ?_
   refine G.rp 2 fun R hR=>?_
   refine D.aj (carc_fn _ _ l i (hv.mono mup)) ?_
   refine D.ps 5 ?_
   refine D.aG rfl rfl rfl rfl rfl rfl rfl rfl ?_
   refine D.ps 3 ?_
   refine D.index rfl rfl rfl rfl rfl rfl rfl rfl rfl rfl (fun hg=>⟨hv.mono mup,(by have h:(!arcB l i || (i == ix))=false:=hg.1;simp at h;exact (arcB_in h.1).1),(by have h:(!arcB l i || (i == ix))=false:=hg.1;simp at h;exact (gR_at (arcB_in h.1).1 (arcB_in h.1).2).2)⟩) fl_ rfl (fun p42 hp42=>?_)
   refine D.fa rfl rfl rfl rfl rfl rfl rfl rfl rfl rfl hp42 fl_ rfl (fun p43 hp43=>?_)
   refine D.aK rfl rfl rfl rfl rfl rfl hp43 rfl rfl rfl ?_
   refine D.ps 2 ?_
   refine D.aG rfl rfl rfl rfl rfl rfl rfl rfl ?_
   refine D.e7 0 1 9 24 25 26 47 hR ?_
   refine G.cd (fun h47=>?_) fun h47=>?_
   ·have hno:stepsM l ix (gR l ix).lower bs=none:=by
     rw [hst,hdr,stepsM,if_neg]
     intro h
     simp at h h47
     obtain ⟨⟨e1,e2⟩,e3⟩:=h
     rw [e1] at h47
     simp [e2,e3] at h47
    refine G.z1 1 6 ?_
    refine G.rf ?_
    exact ⟨by rw [hI,hno],rfl⟩
   ·have hok:(arcB l i && !(i == ix) && decide ((gR l i).lower=u))=true:=by
     simp at h47
     simp [h47.1.1,h47.1.2,h47.2]
    have hin:=arcB_in (l:=l) (i:=i) (by simp at hok;exact hok.1.1)
    refine G.rp 2 fun R hR=>?_
    refine D.ak (hv.mono mup) rfl rfl rfl rfl rfl rfl rfl rfl rfl rfl om_ (gR_at hin.1 hin.2).2 fl_ (fun p50 hp50=>?_)
    refine D.d5 hp50 rfl rfl rfl rfl rfl rfl rfl rfl rfl rfl fl_ (fun p51 hp51=>?_)
    refine D.ac hp51 ?_
    refine D.q6 1 0 1 7 24 25 26 hR ?_
    refine G.rg fun R hR=>?_
    refine D.aq _ ?_
    refine D.q6 1 0 1 7 24 25 26 hR ?_
    refine G.ap (m':=bs.length-(k+1)) om_ mup (h_6 0 1 7 24 25 26) ⟨k+1,(gR l i).upper,⟨by omega,by rw [hst,hdr,stepsM,if_pos hok]⟩,rfl,rfl,rfl⟩
  ·have hkl:bs.length<=k:=by
    have:¬ k<bs.length:=by simpa using h27
    omega
   refine G.rp 3 fun R hR=>?_
   refine D.ak (hv.mono mup) rfl rfl rfl rfl rfl rfl rfl rfl rfl rfl om_ (gR_at hx0 hx1).2 fl_ (fun p57 hp57=>?_)
   refine D.d5 hp57 rfl rfl rfl rfl rfl rfl rfl rfl rfl rfl fl_ (fun p58 hp58=>?_)
   refine D.ac hp58 ?_
   refine D.q1 2 6 hR ?_
   refine G.rf ?_
   refine ⟨?_,rfl⟩
   rw [hI,hst,List.drop_of_length_le hkl,stepsM]
   simp [eqStr]
def posZ (N:List Str)(s:Str):Nat:=if s∈N then posS N s else 0
theorem look_at (N:List Str)(s:Str):lookV (.int .i64 0) true (mget (atM N 0) s)=.tuple #[.int .i64 (posZ N s),.bool (decide (s∈N))]:=by
 rw [mget_atM]
 by_cases h:s∈N
 ·simp [h,posZ,lookV]
 ·simp [h,posZ,lookV]
theorem nodup_snoc {α:Type}{l:List α}{x:α}(h:l.Nodup)(hx:x ∉ l):(l++[x]).Nodup:=by
 rw [List.nodup_append]
 exact ⟨h,by simp,fun a ha b hb e=>by simp only [List.mem_singleton] at hb;subst hb;subst e;exact hx ha⟩
def keptB (l:List Rel)(o:List Str)(k:Nat):Bool:=decide ((gR l k).upper∈o) && decide ((gR l k).lower∈o) && !(arcB l k && decide (posZ o (gR l k).upper<=posZ o (gR l k).lower))
def ordB (l:List Rel)(o:List Str):Bool:=decide o.Nodup && (List.range l.length).all (keptB l o)
theorem corder_fn (C:Mem)(v vo:Value)(l:List Rel)(o:List Str)(hv:Sl C 3 v (l.map Rel.enc))(hvo:Sl C 1 vo (o.map encS)):Gives cx.P 16 [v,vo] C (.bool (ordB l o)):=by
 obtain ⟨A,c,rfl,hl1,hl2,_⟩:=id hv
 obtain ⟨Ao,co,rfl,ho1,ho2,_⟩:=id hvo
 have hmx:maxLen<=9223372036854775807:=by simp [maxLen]
 simp only [List.length_map] at hv hvo hl1 ho1 ⊢
 refine Fn.it kr_ Tryz.func16 73 fun w0=>?_
 refine G.z2 1 0 1 ?_
 refine G.rg fun R hR=>?_
 refine D.makeMap keyS rfl rfl rfl rfl fl_ (fun b16=>?_)
 refine D.q3 1 0 1 5 hR ?_
 refine G.z5 3 0 5 17 18 19 ?_
 refine G.loop (fun fr C' L' μ=>∃ (k:Nat),(k<=o.length/\(o.take k).Nodup)/\fr=[(0,[],.slice A l.length c),(5,[],.map (some b16)),(17,[],.slice Ao o.length co),(18,[],.int .i64 o.length),(19,[],.int .i64 k)]/\L'=[.obj b16 (cX keyS.enc (atM (o.take k) 0))]/\μ=o.length-k) (h_5 0 5 17 18 19) ⟨0,⟨Nat.zero_le _,by simp⟩,rfl,rfl,rfl⟩ (fun fr C0' L0' m hle0 hI=>?_)
 obtain ⟨k,⟨hk,hnd⟩,rfl,rfl,rfl⟩:=hI
 refine G.z6 1 0 5 17 18 19 20 ?_
 refine G.cd (fun h20=>?_) fun h20=>?_
 ·have hkl:k<o.length:=by simpa using h20
  obtain ⟨s,hs⟩:∃ s,o[k]?=some s:=⟨o[k],List.getElem?_eq_getElem hkl⟩
  have hrs:(o.map encS)[k]?=some (encS s):=by rw [List.getElem?_map,hs];rfl
  have htk:o.take (k+1)=o.take k++[s]:=by rw [List.take_add_one,hs];rfl
  refine G.rp 1 fun R hR=>?_
  refine D.ak (hvo.mono mup) rfl rfl rfl rfl rfl rfl rfl rfl rfl rfl om_ hrs fl_ (fun p22 hp22=>?_)
  refine D.ac hp22 ?_
  refine D.q7 2 0 5 6 7 17 18 19 hR ?_
  refine G.rp 2 fun R hR=>?_
  refine D.lookupL keyS (.head _) rfl rfl rfl rfl rfl rfl rfl rfl kr_ rfl (look_at (o.take k) s) rfl rfl ?_
  refine D.q8 5 0 5 6 7 9 17 18 19 hR ?_
  refine G.z8 1 0 5 6 7 17 18 19 30 ?_
  refine G.cd (fun h30=>?_) fun h30=>?_
  ·have h38':s∈o.take k:=by simpa using h30
   have hno:ordB l o=false:=by
    unfold ordB
    have hn:¬ o.Nodup:=fun hn=>by
     have h2:=hn.sublist (List.take_sublist (k+1) o)
     rw [htk,List.nodup_append] at h2
     exact h2.2.2 s h38' s (by simp) rfl
    simp [hn]
   refine G.z1 1 4 ?_
   refine G.rf ?_
   exact ⟨by rw [hno],rfl⟩
  ·have h38':s ∉ o.take k:=by simpa using h30
   have hset:=mset_atM (i:=0) h38'
   rw [<- htk,List.length_take,Nat.min_eq_left om_,Nat.zero_add] at hset
   refine G.rp 3 fun R hR=>?_
   refine D.mapUpdate keyS (j:=0) rfl rfl rfl rfl rfl rfl rfl rfl rfl rfl kr_ ?_
   refine D.e5 0 5 17 18 19 hR ?_
   refine G.rg fun R hR=>?_
   refine D.aq _ ?_
   refine D.q5 1 0 5 17 18 19 hR ?_
   refine G.aM (L':=[.obj b16 (cX keyS.enc (atM (o.take (k+1)) 0))]) (by rw [<- hset];rfl) ?_
   refine G.ap (m':=o.length-(k+1)) om_ mup (h_5 0 5 17 18 19) ⟨k+1,⟨by omega,by rw [htk];exact nodup_snoc hnd h38'⟩,rfl,rfl,rfl⟩
 ·have hkl:o.length<=k:=by
   have:¬ k<o.length:=by simpa using h20
   omega
  rw [List.take_of_length_le hkl] at hnd ⊢
  refine G.z5 3 0 5 35 36 37 ?_
  refine G.loop (fun fr C' L' μ=>∃ (k:Nat),(k<=l.length/\∀ j,j<k->keptB l o j=true)/\fr=[(0,[],.slice A l.length c),(5,[],.map (some b16)),(35,[],.slice A l.length c),(36,[],.int .i64 l.length),(37,[],.int .i64 k)]/\L'=[.obj b16 (cX keyS.enc (atM o 0))]/\μ=l.length-k) (h_5 0 5 35 36 37) ⟨0,⟨Nat.zero_le _,fun j hj=>by omega⟩,rfl,rfl,rfl⟩ (fun fr C1' L1' m hle1 hI=>?_)
  obtain ⟨k,⟨hk2,hall⟩,rfl,rfl,rfl⟩:=hI
  refine G.z6 1 0 5 35 36 37 38 ?_
  refine G.cd (fun h38=>?_) fun h38=>?_
  ·have hkl2:k<l.length:=by simpa using h38
   have hrx:=(gR_at (l:=l) (i:=(k:Int)) om_ om_).2
   refine G.rp 1 fun R hR=>?_
   refine D.ak (hv.mono mup) rfl rfl rfl rfl rfl rfl rfl rfl rfl rfl om_ hrx fl_ (fun p40 hp40=>?_)
   refine D.ac hp40 ?_
   refine D.aC (fun b11=>?_)
   refine D.ae ?_
   refine D.ag (j:=0) ?_
   refine D.e7 0 5 10 11 35 36 37 hR ?_
   refine G.rp 2 fun R hR=>?_
   refine D.ah (.head _) ?_
   refine D.lookupL keyS (.tail _ (.head _)) rfl rfl rfl rfl rfl rfl rfl rfl kr_ rfl (look_at o (gR l k).upper) rfl rfl ?_
   refine D.q9 5 0 5 10 11 12 13 35 36 37 hR ?_
   refine G.rp 2 fun R hR=>?_
   refine D.ah (.head _) ?_
   refine D.lookupL keyS (.tail _ (.head _)) rfl rfl rfl rfl rfl rfl rfl rfl kr_ rfl (look_at o (gR l k).lower) rfl rfl ?_
   refine D.q10 5 0 5 10 12 13 14 15 35 36 37 hR ?_
   refine G.rp 5 fun R hR=>?_
   refine D.aG rfl rfl rfl rfl rfl rfl rfl rfl ?_
   refine D.ps 3 ?_
   refine D.bn (fun _=>(carc_fn _ _ l k (hv.mono mup))) ?_
   refine D.ps 4 ?_
   refine D.au ?_
   refine D.aG rfl rfl rfl rfl rfl rfl rfl rfl ?_
   refine D.e6 0 5 35 36 37 71 hR ?_
   refine G.cd (fun h71=>?_) fun h71=>?_
   ·have hkp:keptB l o k=false:=by
     unfold keptB
     cases h1:decide ((gR l k).upper∈o) <;> cases h2:decide ((gR l k).lower∈o) <;> try rfl
     rw [h1,h2] at h71
     simp at h71
     simp [h71.1,h71.2]
    have hno:ordB l o=false:=by
     unfold ordB
     have:((List.range l.length).all (keptB l o))=false:=by
      rw [List.all_eq_false]
      exact ⟨k,List.mem_range.2 hkl2,by rw [hkp];decide⟩
     rw [this,Bool.and_false]
    refine G.z1 1 4 ?_
    refine G.rf ?_
    exact ⟨by rw [hno],rfl⟩
   ·have hkp:keptB l o k=true:=by
     unfold keptB
     cases h1:decide ((gR l k).upper∈o) <;> cases h2:decide ((gR l k).lower∈o) <;> rw [h1,h2] at h71 <;> first
      | (simp at h71;done)
      | skip
     simp at h71
     simp
     cases h3:arcB l k with
     | false=>exact .inl rfl
     | true=>exact .inr (by have:=h71 h3;omega)
    refine G.rg fun R hR=>?_
    refine D.aq _ ?_
    refine D.q5 1 0 5 35 36 37 hR ?_
    refine G.dropE 0 rfl ?_
    refine G.ap (m':=l.length-(k+1)) om_ mup (h_5 0 5 35 36 37) ⟨k+1,⟨by omega,fun j hj=>by
     by_cases e:j=k
     ·rw [e];exact hkp
     ·exact hall j om_⟩,rfl,rfl,rfl⟩
  ·have hkl2:l.length<=k:=by
    have:¬ k<l.length:=by simpa using h38
    omega
   refine G.z1 1 4 ?_
   refine G.rf ?_
   refine ⟨?_,rfl⟩
   have h1:((List.range l.length).all (keptB l o))=true:=by
    rw [List.all_eq_true]
    exact fun j hj=>hall j (by have:=List.mem_range.1 hj;omega)
   unfold ordB
   rw [h1]
   simp [hnd]


def kl:List Rel:=[⟨1,[66],[65]⟩,⟨1,[67],[66]⟩,⟨1,[67],[65]⟩]
theorem kn1 (C:Mem):Gives cx.P 14 [strV [51,47,54]] C (.bool false):=by
 have h:=number_fn C [51,47,54] (by decide)
 rw [show (bP [51,47,54]).isSome=false by decide +kernel] at h
 exact h
theorem kn2 (C:Mem):Gives cx.P 14 [strV [45,51,47,50]] C (.bool true):=by
 have h:=number_fn C [45,51,47,50] (by decide)
 rw [show (bP [45,51,47,50]).isSome=true by decide +kernel] at h
 exact h
theorem ki1 (C:Mem)(v vb:Value)(hv:Sl C 3 v (kl.map Rel.enc))(hb:Sl C 1 vb (([0,1]:List Int).map encI)):Gives cx.P 15 [v,.int .i64 2,vb] C (.bool true):=by
 have h:=implied_fn C v vb kl 2 [0,1] hv hb
 rw [show impB kl 2 [0,1]=true by decide +kernel] at h
 exact h
theorem ki2 (C:Mem)(v vb:Value)(hv:Sl C 3 v (kl.map Rel.enc))(hb:Sl C 1 vb (([1,0]:List Int).map encI)):Gives cx.P 15 [v,.int .i64 2,vb] C (.bool false):=by
 have h:=implied_fn C v vb kl 2 [1,0] hv hb
 rw [show impB kl 2 [1,0]=false by decide +kernel] at h
 exact h
theorem ko1 (C:Mem)(v vo:Value)(hv:Sl C 3 v (kl.map Rel.enc))(ho:Sl C 1 vo (([[65],[66],[67]]:List Str).map encS)):Gives cx.P 16 [v,vo] C (.bool true):=by
 have h:=corder_fn C v vo kl [[65],[66],[67]] hv ho
 rw [show ordB kl [[65],[66],[67]]=true by decide +kernel] at h
 exact h
theorem ko2 (C:Mem)(v vo:Value)(hv:Sl C 3 v (kl.map Rel.enc))(ho:Sl C 1 vo (([[66],[65],[67]]:List Str).map encS)):Gives cx.P 16 [v,vo] C (.bool false):=by
 have h:=corder_fn C v vo kl [[66],[65],[67]] hv ho
 rw [show ordB kl [[66],[65],[67]]=false by decide +kernel] at h
 exact h
def kr:List (List Str × Str):=[([[45,49]],[45,49]),([[49]],[51])]
theorem kp1 (C:Mem)(hT:Tabs C)(v vo vp:Value)(A:Option Addr)(n c:Nat)(hv:RowsIn C v kr)(ho:Sl C 1 vo (([[49]]:List Str).map encS))(hp:Sl C 1 vp (([[49]]:List Str).map encS))(hd:Sl C 1 (.slice A n c) (([[49],[48]]:List Str).map encS)):Gives cx.P 8 [v,vo,vp,.agg ⟨[.slice A n c]⟩] C (.bool true):=by
 have h:=optimal_fn C hT v vo vp A n c kr [[49]] [[49]] [[49],[48]] hv ho hp hd (by decide) (by decide) (by decide) (by decide) (by decide) (by decide) (by decide) (by decide)
 rw [show optM kr [[49]] [[49]] [[49],[48]]=true by decide +kernel] at h
 exact h
theorem kp2 (C:Mem)(hT:Tabs C)(v vo vp:Value)(A:Option Addr)(n c:Nat)(hv:RowsIn C v kr)(ho:Sl C 1 vo (([[49]]:List Str).map encS))(hp:Sl C 1 vp (([[50]]:List Str).map encS))(hd:Sl C 1 (.slice A n c) (([[49],[48]]:List Str).map encS)):Gives cx.P 8 [v,vo,vp,.agg ⟨[.slice A n c]⟩] C (.bool false):=by
 have h:=optimal_fn C hT v vo vp A n c kr [[49]] [[50]] [[49],[48]] hv ho hp hd (by decide) (by decide) (by decide) (by decide) (by decide) (by decide) (by decide) (by decide)
 rw [show optM kr [[49]] [[50]] [[49],[48]]=false by decide +kernel] at h
 exact h
theorem known_fn (C:Mem)(hT:Tabs C):Gives cx.P 4 [] C (.bool true):=by
 refine Fn.it kr_ Tryz.func4 63 fun w0=>?_
 refine G.rp 1 fun R hR=>?_
 refine D.done [] trivial (hR _ _ _ rfl ?_)
 refine G.rg fun R hR=>?_
 refine D.build (Rel.mk 1 [66] [65]).enc rfl rfl rfl rfl rfl rfl rfl rfl ?_
 refine D.build (Rel.mk 1 [67] [66]).enc rfl rfl rfl rfl rfl rfl rfl rfl ?_
 refine D.build (Rel.mk 1 [67] [65]).enc rfl rfl rfl rfl rfl rfl rfl rfl ?_
 refine D.af (kl.map Rel.enc) (fun p8 C8 hle8 hs8=>?_)
 refine D.q1 1 1 hR ?_
 refine G.rg fun R hR=>?_
 refine D.cZ [[strV [45,49]]] rfl rfl rfl rfl rfl rfl rfl rfl rfl rfl rfl rfl fl_ (fun b9 C9 hle9 hs9=>?_)
 refine D.build (RV.mk (some ⟨b9,0,none⟩) 1 1 [45,49]).enc rfl rfl rfl rfl rfl rfl rfl rfl ?_
 refine D.cZ [[strV [49]]] rfl rfl rfl rfl rfl rfl rfl rfl rfl rfl rfl rfl fl_ (fun b11 C11 hle11 hs11=>?_)
 refine D.build (RV.mk (some ⟨b11,0,none⟩) 1 1 [51]).enc rfl rfl rfl rfl rfl rfl rfl rfl ?_
 refine D.af [(RV.mk (some ⟨b9,0,none⟩) 1 1 [45,49]).enc,(RV.mk (some ⟨b11,0,none⟩) 1 1 [51]).enc] (fun p13 C13 hle13 hs13=>?_)
 refine D.q2 1 1 2 hR ?_
 have hri:RowsIn C13 p13 kr:=by
  refine ⟨[⟨some ⟨b9,0,none⟩,1,1,[45,49]⟩,⟨some ⟨b11,0,none⟩,1,1,[51]⟩],hs13,rfl, ?_⟩
  intro i r row hr hw
  match i with
  | 0=>cases hr;cases hw;exact ⟨hs9.mono mup,rfl⟩
  | 1=>cases hr;cases hw;exact ⟨hs11.mono mup,rfl⟩
  | i+2=>simp at hr
 refine G.rg fun R hR=>?_
 refine D.af [[strV [49]]] (fun p14 C14 hle14 hs14=>?_)
 refine D.q3 1 1 2 3 hR ?_
 refine G.rg fun R hR=>?_
 refine D.cZ [[strV [49]],[strV [48]]] rfl rfl rfl rfl rfl rfl rfl rfl rfl rfl rfl rfl fl_ (fun b15 C15 hle15 hs15=>?_)
 refine D.build [.slice (some ⟨b15,0,none⟩) 2 2] rfl rfl rfl rfl rfl rfl rfl rfl ?_
 refine D.aC (fun b4=>?_)
 refine D.ag (j:=0) ?_
 refine D.e4 1 2 3 4 hR ?_
 refine G.rg fun R hR=>?_
 refine D.aj (kn1 _) ?_
 refine D.ps 2 ?_
 refine D.bn (fun _=>(kn2 _)) ?_
 refine D.au ?_
 refine D.ps 2 ?_
 refine D.bX [[.int .i64 0],[.int .i64 1]] rfl rfl rfl rfl rfl rfl rfl rfl rfl rfl rfl rfl fl_ rfl rfl (fun b24 C24 hle24 hs24=>?_)
 refine D.bn (fun _=>(ki1 _ _ _ (hs8.mono mup) ((hs24 ⟨rfl,trivial⟩).mono mup))) ?_
 refine D.au ?_
 refine D.ps 2 ?_
 refine D.bX [[.int .i64 1],[.int .i64 0]] rfl rfl rfl rfl rfl rfl rfl rfl rfl rfl rfl rfl fl_ rfl rfl (fun b29 C29 hle29 hs29=>?_)
 refine D.bn (fun _=>(ki2 _ _ _ (hs8.mono mup) ((hs29 ⟨rfl,trivial⟩).mono mup))) ?_
 refine D.ae ?_
 refine D.au ?_
 refine D.ps 2 ?_
 refine D.bX [[strV [65]],[strV [66]],[strV [67]]] rfl rfl rfl rfl rfl rfl rfl rfl rfl rfl rfl rfl fl_ rfl rfl (fun b35 C35 hle35 hs35=>?_)
 refine D.bn (fun _=>(ko1 _ _ _ (hs8.mono mup) ((hs35 ⟨rfl,trivial⟩).mono mup))) ?_
 refine D.au ?_
 refine D.ps 2 ?_
 refine D.bX [[strV [66]],[strV [65]],[strV [67]]] rfl rfl rfl rfl rfl rfl rfl rfl rfl rfl rfl rfl fl_ rfl rfl (fun b40 C40 hle40 hs40=>?_)
 refine D.bn (fun _=>(ko2 _ _ _ (hs8.mono mup) ((hs40 ⟨rfl,trivial⟩).mono mup))) ?_
 refine D.ae ?_
 refine D.au ?_
 refine D.ps 4 ?_
 refine D.ah (.head _) ?_
 refine D.bn (fun _=>(kp1 _ (hT.mono mup) _ _ _ _ _ _ (hri.mono mup) (hs14.mono mup) (hs14.mono mup) (hs15.mono mup))) ?_
 refine D.au ?_
 refine D.ps 3 ?_
 refine D.bX [[strV [50]]] rfl rfl rfl rfl rfl rfl rfl rfl rfl rfl rfl rfl fl_ rfl rfl (fun b54 C54 hle54 hs54=>?_)
 refine D.ah (.head _) ?_
 refine D.bn (fun _=>(kp2 _ (hT.mono mup) _ _ _ _ _ _ (hri.mono mup) (hs14.mono mup) ((hs54 ⟨rfl,trivial⟩).mono mup) (hs15.mono mup))) ?_
 refine D.ae ?_
 refine D.au ?_
 refine D.ae ?_
 refine D.build nil3 rfl rfl rfl rfl rfl rfl rfl rfl ?_
 refine D.bn (fun _=>(map0_fn _)) ?_
 refine D.au ?_
 refine D.q1 1 0 hR ?_
 refine G.rf ?_
 exact ⟨rfl,rfl⟩

theorem chkP_zero {n:Nat}{rows:List (List Str × Str)}(hn:n<=60)(hl:rows.length<=300):chkP n rows (List.replicate n [48])=eF n rows:=by
 have hz0:bk (n:Int) (List.replicate n ([48]:Str))=0:=by
  unfold bk
  rw [if_pos (by rw [List.length_replicate])]
  rw [show (List.replicate n ([48]:Str)).all aY=true from List.all_eq_true.2 fun s hs=>by rw [List.eq_of_mem_replicate hs];decide +kernel]
  rfl
 unfold chkP
 rw [if_neg om_,if_neg om_,if_neg (fun h=>h hz0)]

def worE (n:Nat)(pt:List Str)(cs ps:List Rat):Int:=if bk n pt≠0 then bk n pt else if aY (qtx (dotQ cs ps n)) then 0 else 4
def worV (n:Nat)(pt:List Str)(cs ps:List Rat):Str:=if worE n pt cs ps=0 then qtx (dotQ cs ps n) else []
theorem dot_len {a b:List Rat}{n:Nat}(ha:∀ x∈a,QB 23 x)(hb:∀ x∈b,QB 23 x)(hn:n<=150):(qtx (dotQ a b n)).length<=999998 :=
 Nat.le_trans (aZ (dotQ_qb ha hb n) om_) om_
theorem worth_fn (C:Mem)(hT:Tabs C)(n:Nat)(rv ov pv:Value)(rows:List (List Str × Str))(pt:List Str)(cs ps:List Rat)(hr:RowsT C rv rows)(ho:Sl C 1 ov ((cs.map qtx).map dY))(hrl:RowsL rows)(hz:chkP n rows (cs.map qtx)=0)
  (hcl:cs.length=n) (hn:n<=60) (qc:∀ x∈cs,QB 23 x) (hp:Sl C 1 pv (pt.map dY)) (hpl:∀ s∈pt,s.length<=999998) (hps:pt.all aY=true->pt=ps.map qtx/\∀ x∈ps,QB 23 x) :
  Gives cx.P 11 [.agg ⟨[.int .i64 n,rv,ov]⟩,pv] C (.tuple #[strV (worV n pt cs ps),.int .i64 (worE n pt cs ps)]):=by
 have hr0:=hr
 have ho0:=ho
 have hp0:=hp
 obtain ⟨vs,hvl,hvr,hvs⟩:=hr
 obtain ⟨A0,c0,rfl,hc1,hc2,_⟩:=id hvs
 obtain ⟨A1,c1,rfl,hc3,hc4,_⟩:=id ho
 obtain ⟨A2,c2,rfl,hc5,hc6,_⟩:=id hp
 refine Fn.it kr_ Tryz.func11 28 fun w0=>?_
 refine G.rg fun R hR=>?_
 refine D.aX (fun b2=>?_)
 refine D.q2 2 1 2 hR ?_
 refine G.freeze 0 rfl (fun C1 hle1 hb1=>?_)
 refine G.rg fun R hR=>?_
 refine D.ac (bkT hb1 3) ?_
 refine D.al (pcheck_fn _ (hT.mono mup) (n:Nat) _ _ rows (cs.map qtx) (hr0.mono mup) (ho0.mono mup) hrl (fun s hs=>by
  obtain ⟨q,hq,rfl⟩:=List.mem_map.1 hs
  exact Nat.le_trans (aZ (qc q hq) (by decide)) (by decide))) rfl rfl rfl rfl rfl rfl rfl fl_ ?_
 refine D.q3 1 1 2 6 hR ?_
 refine G.z4 2 1 2 6 12 ?_
 refine G.cd (fun h12=>?_) fun h12=>?_
 ·simp [hz] at h12
 ·refine G.rp 2 fun R hR=>?_
  refine D.ac (bkT hb1 1) ?_
  refine D.aj (plist_fn _ (hT.mono mup) _ (n:Nat) pt (hp0.mono mup) hpl) ?_
  refine D.q3 1 1 2 7 hR ?_
  refine G.z4 2 1 2 7 19 ?_
  refine G.cd (fun h19=>?_) fun h19=>?_
  ·have h19':bk (n:Nat) pt≠0:=by simpa using h19
   have he:worE n pt cs ps=bk (n:Nat) pt:=if_pos h19'
   refine G.z2 3 4 5 ?_
   refine G.ay (G.dropAll (G.bg rfl rfl rfl ?_))
   exact ⟨by unfold worV;rw [he,if_neg h19'];rfl,rfl⟩
  ·have h19':bk (n:Nat) pt=0:=by simpa using h19
   obtain ⟨hpn,hpo⟩:=bv.1 h19'
   obtain ⟨hpe,qp⟩:=hps hpo
   have hpl2:ps.length=n:=by
    rw [hpe,List.length_map] at hpn
    omega
   refine G.rp 1 fun R hR=>?_
   refine D.ac (bkT hb1 1) ?_
   refine D.ae ?_
   refine D.al (dot_fn _ (hT.mono mup) _ _ cs ps (by rw [bS];exact ho0.mono mup) (by rw [bS,<- hpe];exact hp0.mono mup) om_ om_ qc qp) rfl rfl rfl rfl rfl rfl rfl fl_ ?_
   refine D.q1 1 8 hR ?_
   refine G.rp 1 fun R hR=>?_
   refine D.al (pwrong_fn _ (hT.mono mup) _ (dot_len qc qp om_)) rfl rfl rfl rfl rfl rfl rfl fl_ ?_
   refine D.e2 8 26 hR ?_
   refine G.cd (fun h26=>?_) fun h26=>?_
   ·have h26':aY (qtx (dotQ cs ps n))=false:=by rw [hcl] at h26;simpa using h26
    have he:worE n pt cs ps=4:=by unfold worE;rw [if_neg (fun h=>h h19'),h26'];rfl
    refine G.z2 2 4 5 ?_
    refine G.ay (G.dropAll (G.bg rfl rfl rfl ?_))
    exact ⟨by unfold worV;rw [he];rfl,rfl⟩
   ·have h26':aY (qtx (dotQ cs ps n))=true:=by rw [hcl] at h26;simpa using h26
    have he:worE n pt cs ps=0:=by unfold worE;rw [if_neg (fun h=>h h19'),h26'];rfl
    refine G.z2 3 4 5 ?_
    refine G.ay (G.dropAll (G.bg rfl rfl rfl ?_))
    exact ⟨by unfold worV;rw [he,if_pos rfl,hcl],rfl⟩

def vioF (rs:List (List Rat × Rat))(ps:List Rat)(n:Nat):Nat->List Int
 | 0=>[]
 | i+1=>if (rs.getD i ([],0)).2<dotQ (rs.getD i ([],0)).1 ps n then vioF rs ps n i++[(i:Int)] else vioF rs ps n i
theorem vioF_len (rs:List (List Rat × Rat))(ps:List Rat)(n:Nat):∀ i,(vioF rs ps n i).length<=i
 | 0=>Nat.le_refl _
 | i+1=>by
  have:=vioF_len rs ps n i
  unfold vioF
  split
  ·rw [List.length_append,List.length_singleton];omega
  ·omega
theorem violated_fn (C:Mem)(hT:Tabs C)(n:Nat)(rv ov pv:Value)(rs:List (List Rat × Rat))(pt:List Str)(cs ps:List Rat)(hr:RowsT C rv (rs.map bd))(ho:Sl C 1 ov ((cs.map qtx).map dY))(hrl:RowsL (rs.map bd))(hq:RowsQ n rs)(hz:chkP n (rs.map bd) (cs.map qtx)=0)
  (hn:n<=60) (qc:∀ x∈cs,QB 23 x) (hp:Sl C 1 pv (pt.map dY)) (hpl:∀ s∈pt,s.length<=999998) (hps:pt.all aY=true->pt=ps.map qtx/\∀ x∈ps,QB 23 x) :
  Pur cx.P 12 [.agg ⟨[.int .i64 n,rv,ov]⟩,pv] C fun u _D=>∃ A m c,u=.tuple #[.slice A m c,.int .i64 (bk n pt)]/\(bk n pt=0->m=(vioF rs ps n rs.length).length):=by
 have hr0:=hr
 have ho0:=ho
 have hp0:=hp
 obtain ⟨vs,hvl,hvr,hvs⟩:=hr
 obtain ⟨A0,c0,rfl,hc1,hc2,_⟩:=id hvs
 obtain ⟨A1,c1,rfl,hc3,hc4,_⟩:=id ho
 obtain ⟨A2,c2,rfl,hc5,hc6,_⟩:=id hp
 have hmx:maxLen<=9223372036854775807:=by simp [maxLen]
 have hqm:=hq.m
 simp only [eA hvl,List.length_map] at hvs hc1 hr0 ho0 hp0 hvl ⊢
 refine Fn.it kr_ Tryz.func12 45 fun w0=>?_
 refine G.rg fun R hR=>?_
 refine D.aX (fun b2=>?_)
 refine D.q2 2 1 2 hR ?_
 refine G.freeze 0 rfl (fun C1 hle1 hb1=>?_)
 refine G.rg fun R hR=>?_
 refine D.ac (bkT hb1 3) ?_
 refine D.al (pcheck_fn _ (hT.mono mup) (n:Nat) _ _ (rs.map bd) (cs.map qtx) (hr0.mono mup) (ho0.mono mup) hrl (fun s hs=>by
  obtain ⟨q,hq,rfl⟩:=List.mem_map.1 hs
  exact Nat.le_trans (aZ (qc q hq) (by decide)) (by decide))) rfl rfl rfl rfl rfl rfl rfl fl_ ?_
 refine D.q3 1 1 2 6 hR ?_
 refine G.z4 2 1 2 6 14 ?_
 refine G.cd (fun h14=>?_) fun h14=>?_
 ·simp [hz] at h14
 ·refine G.rp 2 fun R hR=>?_
  refine D.ac (bkT hb1 1) ?_
  refine D.aj (plist_fn _ (hT.mono mup) _ (n:Nat) pt (hp0.mono mup) hpl) ?_
  refine D.q3 1 1 2 7 hR ?_
  refine G.z4 2 1 2 7 21 ?_
  refine G.cd (fun h21=>?_) fun h21=>?_
  ·have h21':bk (n:Nat) pt≠0:=by simpa using h21
   refine G.z2 3 4 5 ?_
   refine G.ay (G.dropAll (G.bg rfl rfl rfl ?_))
   exact ⟨rfl,none,0,0,rfl,fun h=>absurd h h21'⟩
  ·have h21':bk (n:Nat) pt=0:=by simpa using h21
   obtain ⟨hpn,hpo⟩:=bv.1 h21'
   obtain ⟨hpe,qp⟩:=hps hpo
   have hpl2:ps.length=n:=by
    rw [hpe,List.length_map] at hpn
    omega
   refine G.z3 1 1 2 8 ?_
   refine G.rp 1 fun R hR=>?_
   refine D.ac (bkT hb1 1) ?_
   refine D.q5 2 1 8 24 25 26 hR ?_
   refine G.nilArr 3 1 ?_
   refine G.loop (fun fr C' L' μ=>∃ (i:Nat)(w8:Value),(i<=rs.length)/\fr=[(1,[],.slice A2 pt.length c2),(8,[],w8),(24,[],.slice A0 rs.length c0),(25,[],.int .i64 rs.length),(26,[],.int .i64 i)]/\L'=[.arr w8 3 1 (vioF rs ps n i).length ((vioF rs ps n i).map encI).flatten]/\μ=rs.length-i) (h_5 1 8 24 25 26) ⟨0,.slice none 0 0,Nat.zero_le _,rfl,rfl,rfl⟩ (fun fr C0' L0' m hle0 hI=>?_)
   obtain ⟨i,w8,hi,rfl,rfl,rfl⟩:=hI
   refine G.z6 1 1 8 24 25 26 27 ?_
   refine G.cd (fun h27=>?_) fun h27=>?_
   ·have hil:i<rs.length:=by
     have:=of_decide_eq_true h27
     omega
    obtain ⟨r,hri⟩:∃ r,rs[i]?=some r:=⟨rs[i],List.getElem?_eq_getElem hil⟩
    have hrt:(rs.map bd)[i]?=some (bd r):=by rw [List.getElem?_map,hri];rfl
    obtain ⟨w,hw⟩:∃ w,vs[i]?=some w:=⟨vs[i]'om_,List.getElem?_eq_getElem _⟩
    have hrm:=List.mem_of_getElem? hri
    have hsw:=hvr i w (bd r) hw hrt
    obtain ⟨Aw9,cw9,rfl,_,_,_⟩:=id hsw
    have hrl2:=hq.l r hrm
    have hqr:=hq.q r hrm
    have hgr:rs.getD i ([],0)=r:=by rw [List.getD_eq_getElem?_getD,hri];rfl
    have hbd:=dotQ_qb hqr.1 qp n
    have hvl8:=vioF_len rs ps n i
    refine G.rp 1 fun R hR=>?_
    refine D.ak (hvs.mono mup) rfl rfl rfl rfl rfl rfl rfl rfl rfl rfl om_ (zipT_at hw hrt) fl_ (fun p29 hp29=>?_)
    refine D.ac hp29 ?_
    refine D.aC (fun b10=>?_)
    refine D.ae ?_
    refine D.ag (j:=0) ?_
    refine D.e7 1 8 9 10 24 25 26 hR ?_
    refine G.freeze 0 rfl (fun C9 hle9 hb9=>?_)
    refine G.aH [0,1,2,3,4,5,6,7] [(3,1),(6,1)] rfl kr_ (fun R hB hR=>?_)
    refine D.ae ?_
    refine D.ac (bkT hb9 1) ?_
    refine D.ae ?_
    refine D.a6 (fun _=>(dot_fn _ (hT.mono mup) _ _ r.1 ps (by rw [bS];exact hsw.mono mup) (by rw [bS,<- hpe];exact hp0.mono mup) om_ om_ hqr.1 qp)) rfl rfl rfl rfl rfl rfl rfl rfl rfl ?_
    refine D.ae ?_
    refine D.ac (bkT hb9 1) ?_
    refine D.a6 (fun _=>(rcompare_fn _ (hT.mono mup) (dotQ r.1 ps r.1.length) r.2 (48*(n+1)) om_ om_ (by rw [hrl2];exact hbd) (hqr.2.le om_))) rfl rfl rfl rfl rfl rfl rfl rfl rfl ?_
    refine D.q7 1 1 8 9 24 25 26 38 hR ?_
    refine G.cd (fun h38=>?_) fun h38=>?_
    ·have hlt:r.2<dotQ r.1 ps n:=by
      rw [hrl2] at h38
      have h:=of_decide_eq_true h38
      unfold cmpQ at h
      split at h
      ·omega
      ·split at h
       ·next h2=>exact h2
       ·omega
     have hnx:vioF rs ps n (i+1)=vioF rs ps n i++[(i:Int)]:=by
      show (if _ then _ else _)=_
      rw [hgr,if_pos hlt]
     refine G.rp 2 fun R hR=>?_
     refine D.af [encI i] (fun p41 C41 hle41 hs41=>?_)
     refine D.append (j:=0) rfl rfl rfl rfl rfl rfl rfl rfl rfl rfl rfl hs41 rfl (by simp only [List.length_singleton,maxLen];omega) (by simp only [List.length_singleton];omega) fl_ (fun v42=>?_)
     refine D.q5 1 1 8 24 25 26 hR ?_
     refine G.rg fun R hR=>?_
     refine D.aq _ ?_
     refine D.q5 1 1 8 24 25 26 hR ?_
     refine G.aM (L':=[.arr v42 3 1 (vioF rs ps n (i+1)).length ((vioF rs ps n (i+1)).map encI).flatten]) (by rw [hnx];simp) ?_
     refine G.ap (m':=rs.length-(i+1)) om_ mup (h_5 1 8 24 25 26) ⟨i+1,_,om_,rfl,rfl,rfl⟩
    ·have hlt:¬ r.2<dotQ r.1 ps n:=by
      rw [hrl2] at h38
      have h:=of_decide_eq_false h38
      intro h2
      have h3:cmpQ (dotQ r.1 ps n) r.2=1:=by
       unfold cmpQ
       rw [if_neg (by grind),if_pos h2]
      rw [h3] at h
      exact h (by decide)
     have hnx:vioF rs ps n (i+1)=vioF rs ps n i:=by
      show (if _ then _ else _)=_
      rw [hgr,if_neg hlt]
     rw [<- hnx]
     refine G.rg fun R hR=>?_
     refine D.aq _ ?_
     refine D.q5 1 1 8 24 25 26 hR ?_
     refine G.ap (m':=rs.length-(i+1)) om_ mup (h_5 1 8 24 25 26) ⟨i+1,_,om_,rfl,rfl,rfl⟩
   ·have hil:i=rs.length:=by
     have:=of_decide_eq_false h27
     omega
    refine G.z2 3 4 5 ?_
    refine G.formS (.head _) (fun Aw cw hw _ _ _=>?_)
    refine G.ay (G.dropAll (G.bg rfl rfl rfl ?_))
    exact ⟨rfl,Aw,_,cw,by rw [hw,h21'],fun _=>by rw [hil]⟩

def BouP (n:Nat)(rs:List (List Rat × Rat))(ds cs:List Rat):Prop:=∀ j,j<n->facS rs ds j rs.length+cs.getD j 0=0
open Classical in
noncomputable def bouE (n:Nat)(rs:List (List Rat × Rat))(d:List Str)(ds cs:List Rat):Int :=
 if sumE rs.length d ds≠0 then sumE rs.length d ds else if ¬ BouP n rs ds cs then 23 else if aY (qtx (-bndS rs ds rs.length)) then 0 else 4
noncomputable def bouV (n:Nat)(rs:List (List Rat × Rat))(d:List Str)(ds cs:List Rat):Str:=if bouE n rs d ds cs=0 then qtx (-bndS rs ds rs.length) else []
theorem qb_negR {k:Nat}{q:Rat}(h:QB k q):QB k (-q):=⟨by rw [Rat.neg_num];have:=h.1;omega,h.2⟩
theorem bound_fn (C:Mem)(hT:Tabs C)(n:Nat)(rv ov dv:Value)(rs:List (List Rat × Rat))(d:List Str)(cs ds:List Rat)(hr:RowsT C rv (rs.map bd))(ho:Sl C 1 ov ((cs.map qtx).map dY))(hrl:RowsL (rs.map bd))(hq:RowsQ n rs)(hz:chkP n (rs.map bd) (cs.map qtx)=0)
  (hcl:cs.length=n) (hn:n<=60) (qc:∀ x∈cs,QB 23 x) (hd:Sl C 1 dv (d.map dY)) (hdl:∀ s∈d,s.length<=999998) (hds:d.all aY=true->d=ds.map qtx/\∀ x∈ds,QB 23 x) :
  Gives cx.P 10 [.agg ⟨[.int .i64 n,rv,ov]⟩,.agg ⟨[dv]⟩] C (.tuple #[strV (bouV n rs d ds cs),.int .i64 (bouE n rs d ds cs)]):=by
 have hr0:=hr
 have ho0:=ho
 have hd0:=hd
 obtain ⟨vs,hvl,hvr,hvs⟩:=hr
 obtain ⟨A0,c0,rfl,hc1,hc2,_⟩:=id hvs
 obtain ⟨A1,c1,rfl,hc3,hc4,_⟩:=id ho
 obtain ⟨A2,c2,rfl,hc5,hc6,_⟩:=id hd
 have hmx:maxLen<=9223372036854775807:=by simp [maxLen]
 have hqm:=hq.m
 simp only [eA hvl,List.length_map] at hvs hc1 hr0 ho0 hd0 hvl ⊢
 refine Fn.it kr_ Tryz.func10 48 fun w0=>?_
 refine G.rg fun R hR=>?_
 refine D.aX (fun b2=>?_)
 refine D.aX (fun b3=>?_)
 refine D.q2 2 2 3 hR ?_
 refine G.freeze 1 rfl (fun C1 hle1 hb1=>?_)
 refine G.freeze 0 rfl (fun C2 hle2 hb2=>?_)
 refine G.rg fun R hR=>?_
 refine D.ac (bkT hb1 3) ?_
 refine D.al (pcheck_fn _ (hT.mono mup) (n:Nat) _ _ (rs.map bd) (cs.map qtx) (hr0.mono mup) (ho0.mono mup) hrl (fun s hs=>by
  obtain ⟨q,hq,rfl⟩:=List.mem_map.1 hs
  exact Nat.le_trans (aZ (qc q hq) (by decide)) (by decide))) rfl rfl rfl rfl rfl rfl rfl fl_ ?_
 refine D.q3 1 2 3 6 hR ?_
 refine G.z4 2 2 3 6 15 ?_
 refine G.cd (fun h15=>?_) fun h15=>?_
 ·simp [hz] at h15
 ·refine G.rg fun R hR=>?_
  refine D.ac (bkT hb1 3) ?_
  refine D.ac (bkT hb2 1) ?_
  refine D.ax (psums_fn _ (hT.mono mup) n _ _ _ rs d ds (hr0.mono mup) hq om_ (hd0.mono mup) hdl hds) rfl rfl rfl rfl rfl rfl rfl fl_ (fun v20 C20 hle20 hq20=>?_)
  obtain ⟨fv,bt,rfl,hfb⟩:=hq20
  refine D.q4 7 2 7 8 9 hR ?_
  refine G.z5 2 2 7 8 9 25 ?_
  refine G.cd (fun h25=>?_) fun h25=>?_
  ·have hs:sumE rs.length d ds≠0:=by simpa using h25
   have he:bouE n rs d ds cs=sumE rs.length d ds:=if_pos hs
   refine G.z2 3 4 5 ?_
   refine G.ay (G.dropAll (G.bg rfl rfl rfl ?_))
   exact ⟨by unfold bouV;rw [he,if_neg hs];rfl,rfl⟩
  ·have hs0:sumE rs.length d ds=0:=by simpa using h25
   have hns:¬ sumE rs.length d ds≠0:=fun h=>h hs0
   obtain ⟨hfv,hbt⟩:=hfb hs0
   subst hbt
   have hall:d.all aY=true:=by
    unfold sumE at hs0
    split at hs0
    ·rename_i h1
     exact absurd hs0 h1
    ·rename_i h1
     have h2:bk (rs.length:Nat) d=0:=by simpa using h1
     exact (bv.1 h2).2
   have qd:=(hds hall).2
   have hbq:=bndS_qb hq qd rs.length
   obtain ⟨A3,c3,rfl,hc7,_,_⟩:=id hfv
   simp only [List.length_map,cW] at hfv hc7
   refine G.z5 3 2 8 27 28 29 ?_
   rw [List.length_map,cW]
   refine G.loop (fun fr C' L' μ=>∃ (j:Nat),(j<=n/\∀ j2,j2<j->facS rs ds j2 rs.length+cs.getD j2 0=0)/\fr=[(2,[],.pointer (some ⟨b2,0,none⟩)),(8,[],strV (qtx (bndS rs ds rs.length))),(27,[],.slice A3 n c3),(28,[],.int .i64 n),(29,[],.int .i64 j)]/\L'=[]/\μ=n-j) (h_5 2 8 27 28 29) ⟨0,⟨Nat.zero_le _,fun j2 h=>absurd h (Nat.not_lt_zero _)⟩,rfl,rfl,rfl⟩ (fun fr C0' L0' m hle0 hI=>?_)
   obtain ⟨j,⟨hj,hall2⟩,rfl,rfl,rfl⟩:=hI
   refine G.z6 1 2 8 27 28 29 30 ?_
   refine G.cd (fun h30=>?_) fun h30=>?_
   ·have hjl:j<n:=by
     have:=of_decide_eq_true h30
     omega
    have hx:(midF n rs ds rs.length 0)[j]?=some (facS rs ds j rs.length):=by rw [midF_at hjl,if_neg (Nat.not_lt_zero _)]
    obtain ⟨y,hy⟩:∃ y,cs[j]?=some y:=⟨cs[j]'om_,List.getElem?_eq_getElem om_⟩
    have hgy:cs.getD j 0=y:=by rw [List.getD_eq_getElem?_getD,hy];rfl
    have qy:QB 23 y:=qc y (List.mem_of_getElem? hy)
    have qf:=facS_qb hq qd j rs.length
    refine G.rp 1 fun R hR=>?_
    refine D.ak (hfv.mono mup) rfl rfl rfl rfl rfl rfl rfl rfl rfl rfl om_ (cQ hx) fl_ (fun p32 hp32=>?_)
    refine D.ac hp32 ?_
    refine D.q7 2 2 8 10 11 27 28 29 hR ?_
    refine G.rp 2 fun R hR=>?_
    refine D.ac (bkT hb1 1) ?_
    refine D.ae ?_
    refine D.ak (Sl.mono (by rw [bS];exact ho0) mup) rfl rfl rfl rfl rfl rfl rfl rfl rfl rfl om_ (cQ hy) fl_ (fun p38 hp38=>?_)
    refine D.ac hp38 ?_
    refine D.al (radd_fn _ (hT.mono mup) (facS rs ds j rs.length) y (48*(rs.length+1)) om_ om_ qf (qy.le om_)) rfl rfl rfl rfl rfl rfl rfl fl_ ?_
    refine D.q6 1 2 8 27 28 29 41 hR ?_
    refine G.cd (fun h41=>?_) fun h41=>?_
    ·have hne:¬ BouP n rs ds cs:=fun hb=>by
      have h0:=hb j hjl
      rw [hgy] at h0
      rw [h0,qtx0] at h41
      simp at h41
     have he:bouE n rs d ds cs=23:=by unfold bouE;rw [if_neg hns,if_pos hne]
     refine G.z2 2 4 5 ?_
     refine G.ay (G.dropAll (G.bg rfl rfl rfl ?_))
     exact ⟨by unfold bouV;rw [he];rfl,rfl⟩
    ·have h0:qtx (facS rs ds j rs.length+y)=[48]:=by simpa using h41
     have h1:=qtx_eq (h0.trans qtx0.symm)
     have hall3:∀ j2,j2<j+1->facS rs ds j2 rs.length+cs.getD j2 0=0:=fun j2 h2=>by
      rcases Nat.lt_or_eq_of_le (Nat.le_of_lt_succ h2) with h3 | h3
      ·exact hall2 j2 h3
      ·rw [h3,hgy];exact h1
     refine G.rg fun R hR=>?_
     refine D.aq _ ?_
     refine D.q5 1 2 8 27 28 29 hR ?_
     refine G.ap (m':=n-(j+1)) om_ hle0 (h_5 2 8 27 28 29) ⟨j+1,⟨by omega,hall3⟩,rfl,rfl,rfl⟩
   ·have hjl:j=n:=by
     have:=of_decide_eq_false h30
     omega
    subst hjl
    have hbp:BouP j rs ds cs:=hall2
    refine G.rp 1 fun R hR=>?_
    refine D.al (rneg_fn _ _ (Nat.le_trans (aZ hbq om_) om_)) rfl rfl rfl rfl rfl rfl rfl fl_ ?_
    refine D.q1 1 8 hR ?_
    refine G.rp 1 fun R hR=>?_
    refine D.al (pwrong_fn _ (hT.mono mup) _ (Nat.le_trans (aZ (qb_negR hbq) om_) om_)) rfl rfl rfl rfl rfl rfl rfl fl_ ?_
    refine D.e2 8 46 hR ?_
    refine G.cd (fun h46=>?_) fun h46=>?_
    ·have h46':aY (qtx (-bndS rs ds rs.length))=false:=by simpa using h46
     have he:bouE j rs d ds cs=4:=by unfold bouE;rw [if_neg hns,if_neg (fun h=>h hbp),h46'];rfl
     refine G.z2 2 4 5 ?_
     refine G.ay (G.dropAll (G.bg rfl rfl rfl ?_))
     exact ⟨by unfold bouV;rw [he];rfl,rfl⟩
    ·have h46':aY (qtx (-bndS rs ds rs.length))=true:=by simpa using h46
     have he:bouE j rs d ds cs=0:=by unfold bouE;rw [if_neg hns,if_neg (fun h=>h hbp),h46'];rfl
     refine G.z2 3 4 5 ?_
     refine G.ay (G.dropAll (G.bg rfl rfl rfl ?_))
     exact ⟨by unfold bouV;rw [he,if_pos rfl],rfl⟩

theorem nrow_at {l:List Nat}{i:Nat}{x:Nat}(h:l[i]?=some x):(l.map encN)[i]?=some (encN x):=by rw [List.getElem?_map,h];rfl
theorem leastR_cases {l:List Nat}{q:Nat->Prop}{n:Nat}{o:Int}(h:Lp.LeastR l q n o):o=-1∨∃ i:Nat,o=i/\i<n:=by
 cases h with
 | none _=>exact .inl rfl
 | some i hi _ _=>exact .inr ⟨i,rfl,hi⟩
theorem least_fn (C:Mem)(v:Value)(l:List Nat)(g:Nat)(ca:List Value)(q:Nat->Bool)(hv:Sl C 1 v (l.map encN))(_hen:Jog.Enters cx.P g=true)
  (hp:∀ i,i<l.length->∀ D:Mem,C.le D->Gives cx.P g (.int .i64 i::ca) D (.bool (q i))) :
  Pur cx.P 114 [v,.func (.func g) #[] ⟨ca⟩] C fun u _=>∃ o:Int,u=.int .i64 o/\Lp.LeastR l (fun i=>q i=true) l.length o:=by
 obtain ⟨A0,c0,rfl,hc1,hc2,_⟩:=id hv
 have hmx:maxLen<=9223372036854775807:=by simp [maxLen]
 simp only [List.length_map] at hv hc1 ⊢
 refine Fn.it kr_ Tryz.func114 33 fun w0=>?_
 refine G.z2 1 0 1 ?_
 refine G.z3 1 0 1 5 ?_
 refine G.z6 3 0 1 5 8 9 10 ?_
 refine G.loop (fun fr C' L' μ=>∃ (i:Nat)(o:Int),(i<=l.length/\Lp.LeastR l (fun i=>q i=true) i o)/\fr=[(0,[],.slice A0 l.length c0),(1,[],.func (.func g) #[] ⟨ca⟩),(5,[],.int .i64 o),(8,[],.slice A0 l.length c0),(9,[],.int .i64 l.length),(10,[],.int .i64 i)]/\L'=[]/\μ=l.length-i) (h_6 0 1 5 8 9 10) ⟨0, -1,⟨Nat.zero_le _,.none fun j hj=>absurd hj (Nat.not_lt_zero _)⟩,rfl,rfl,rfl⟩ (fun fr C0' L0' m hle0 hI=>?_)
 obtain ⟨i,o,⟨hi,hL⟩,rfl,rfl,rfl⟩:=hI
 refine G.z7 1 0 1 5 8 9 10 11 ?_
 refine G.cd (fun h11=>?_) fun h11=>?_
 ·have hil:i<l.length:=by
   have:=of_decide_eq_true h11
   omega
  obtain ⟨x,hx⟩:∃ x,l[i]?=some x:=⟨l[i],List.getElem?_eq_getElem hil⟩
  have hgx:l.getD i 0=x:=by rw [List.getD_eq_getElem?_getD,hx];rfl
  have hcs:=leastR_cases hL
  have hrow:¬ o<0->(l.map encN)[o.toNat]?=some (encN (l.getD o.toNat 0)):=fun h=>by
   rcases hcs with h1 | ⟨i0,h1,h2⟩
   ·omega
   ·rw [h1,Int.toNat_natCast]
    exact nrow_at (by rw [List.getD_eq_getElem?_getD,List.getElem?_eq_getElem om_];rfl)
  refine G.rp 1 fun R hR=>?_
  refine D.ak (hv.mono mup) rfl rfl rfl rfl rfl rfl rfl rfl rfl rfl om_ (nrow_at hx) fl_ (fun p13 hp13=>?_)
  refine D.ac hp13 ?_
  refine D.q8 2 0 1 5 6 7 8 9 10 hR ?_
  refine G.rp 2 fun R hR=>?_
  refine D.aj (hp i hil _ mup) ?_
  refine D.ps 7 ?_
  refine D.index rfl rfl rfl rfl rfl rfl rfl rfl rfl rfl (fun hg=>⟨hv.mono mup,(by have h:decide (o<0)=false:=hg.1;have:=of_decide_eq_false h;omega),hrow (by have h:decide (o<0)=false:=hg.1;exact of_decide_eq_false h)⟩) fl_ rfl (fun p25 hp25=>?_)
  refine D.aK rfl rfl rfl rfl rfl rfl hp25 rfl rfl rfl ?_
  refine D.ae ?_
  refine D.aG rfl rfl rfl rfl rfl rfl rfl rfl ?_
  refine D.au ?_
  refine D.e8 0 1 5 6 8 9 10 29 hR ?_
  refine G.cd (fun h29=>?_) fun h29=>?_
  ·have h29':q i=true/\(o<0∨x<l.getD o.toNat 0):=by
    simpa using h29
   have hnew:Lp.LeastR l (fun i=>q i=true) (i+1) i:=by
    rcases hcs with h1 | ⟨i0,h1,h2⟩
    ·rw [h1] at hL
     exact hL.first h29'.1
    ·rw [h1] at hL h29'
     refine hL.less h29'.1 ?_
     rw [hgx]
     rcases h29'.2 with h3 | h3
     ·omega
     ·exact h3
   refine G.z6 2 0 1 5 8 9 10 ?_
   refine G.rg fun R hR=>?_
   refine D.aq _ ?_
   refine D.q6 1 0 1 5 8 9 10 hR ?_
   refine G.ap (m':=l.length-(i+1)) om_ hle0 (h_6 0 1 5 8 9 10) ⟨i+1,_,⟨by omega,hnew⟩,rfl,rfl,rfl⟩
  ·have h29':q i=true->¬ (o<0∨x<l.getD o.toNat 0):=by
    simpa using h29
   have hnew:Lp.LeastR l (fun i=>q i=true) (i+1) o:=by
    by_cases hqi:q i=true
    ·have h3:=h29' hqi
     rcases hcs with h1 | ⟨i0,h1,h2⟩
     ·exact absurd (.inl om_) h3
     ·rw [h1] at hL h3 ⊢
      refine hL.keep ?_
      rw [hgx]
      exact fun h=>h3 (.inr h)
    ·exact hL.no hqi
   refine G.rg fun R hR=>?_
   refine D.aq _ ?_
   refine D.q6 1 0 1 5 8 9 10 hR ?_
   refine G.ap (m':=l.length-(i+1)) om_ hle0 (h_6 0 1 5 8 9 10) ⟨i+1,_,⟨by omega,hnew⟩,rfl,rfl,rfl⟩
 ·have hil:i=l.length:=by
   have:=of_decide_eq_false h11
   omega
  refine G.z1 2 4 ?_
  refine G.rf ?_
  exact ⟨rfl,o,rfl,by rw [<- hil];exact hL⟩

structure TabV (D:Mem)(b n:Nat)(t:Lp.Tab)(wB wL wO wW:Value)(wF:List Value):Prop where
 o:D b=some (.cells ⟨[.int .i64 n,wB,wL,wO,strV (qtx t.worth.c),wW]⟩ 143 (0,0))
 B:Sl D 1 wB (t.basic.map encN)
 O:Sl D 1 wO (t.others.map encN)
 W:Sl D 1 wW (t.worth.f.map encR)
 L:Sl D 2 wL (List.zipWith (fun (l:Lp.Line) w=>[strV (qtx l.c),w]) t.lines wF)
 fl:wF.length=t.lines.length
 F:∀ (i:Nat)(l:Lp.Line)(w:Value),t.lines[i]?=some l->wF[i]?=some w->Sl D 1 w (l.f.map encR)
theorem TabV.mono {D E:Mem}{b n:Nat}{t:Lp.Tab}{wB wL wO wW:Value}{wF:List Value}(h:TabV D b n t wB wL wO wW wF)(hl:D.le E):TabV E b n t wB wL wO wW wF :=
 ⟨hl _ _ h.o,h.B.mono hl,h.O.mono hl,h.W.mono hl,h.L.mono hl,h.fl,fun i l w h1 h2=>(h.F i l w h1 h2).mono hl⟩
theorem dF (C:Mem)(b n v:Nat)(t:Lp.Tab)(wB wL wO wW:Value)(wF:List Value)(h:TabV C b n t wB wL wO wW wF) :
  Gives cx.P 111 [.pointer (some ⟨b,0,none⟩),.int .i64 v] C (.bool (decide (n<=v))):=by
 refine Fn.it kr_ Tryz.func111 11 fun w0=>?_
 refine G.z2 1 0 1 ?_
 refine G.rp 4 fun R hR=>?_
 refine D.ac (PtrTo.blockT ((h.mono mup).o) _ 1) ?_
 refine D.q1 2 4 hR ?_
 refine G.rf ?_
 refine ⟨?_,rfl⟩
 congr 1
 rw [decide_eq_decide]
 omega
theorem dA {l:List Nat}{i:Nat}(h:i<l.length):(l.map encN)[i]?=some (encN (l.getD i 0)):=nrow_at (by rw [List.getD_eq_getElem?_getD,List.getElem?_eq_getElem h];rfl)
theorem ct {l:List Rat}{i:Nat}(h:i<l.length):(l.map encR)[i]?=some (encR (l.getD i 0)):=cQ (by rw [List.getD_eq_getElem?_getD,List.getElem?_eq_getElem h];rfl)
theorem lslot_at {ls:List Lp.Line}{ws:List Value}{i:Nat}(h:i<ls.length)(hw:ws.length=ls.length):(List.zipWith (fun (l:Lp.Line) w=>[strV (qtx l.c),w]) ls ws)[i]?=some [strV (qtx (ls.getD i ⟨0,[]⟩).c),ws.getD i (.slice none 0 0)]:=by
 rw [List.getElem?_zipWith,List.getElem?_eq_getElem h,List.getElem?_eq_getElem (show i<ws.length by omega),List.getD_eq_getElem?_getD,List.getD_eq_getElem?_getD,List.getElem?_eq_getElem h,List.getElem?_eq_getElem (show i<ws.length by omega)];rfl
theorem feas1_fn (C:Mem)(a b n i N:Nat)(t:Lp.Tab)(wB wL wO wW:Value)(wF:List Value)(h:TabV C b n t wB wL wO wW wF)(ok:t.Ok N)(ha:C a=some (.cells ⟨[.pointer (some ⟨b,0,none⟩)]⟩ 133 (0,0)))(hi:i<t.basic.length)(hq:QB 10 (t.line i).c) :
  Gives cx.P 115 [.int .i64 i,.pointer (some ⟨a,0,none⟩)] C (.bool (decide (n<=t.bas i) && decide ((t.line i).c<0))):=by
 obtain ⟨A1,c1,rfl,h11,h12,_⟩:=id h.B
 obtain ⟨A2,c2,rfl,h21,h22,_⟩:=id h.L
 have hmx:maxLen<=9223372036854775807:=by simp [maxLen]
 have hll:=ok.ll
 refine Fn.it kr_ Tryz.func115 25 fun w0=>?_
 refine G.z2 1 0 1 ?_
 refine G.aH [0,1,2,3,4,5,6,7,8,9,10,11,12,13,14,15,16,17,18,19,20,21] [(8,1)] rfl kr_ (fun R hB hR=>?_)
 refine D.ac (bkT ha 1) ?_
 refine D.ac (bkT ha 1) ?_
 refine D.ps 2 ?_
 refine D.ac (PtrTo.blockT ((h.mono mup).o) _ 1) ?_
 refine D.ae ?_
 refine D.ak (h.B.mono mup) rfl rfl rfl rfl rfl rfl rfl rfl rfl rfl om_ (dA hi) fl_ (fun p10 hp10=>?_)
 refine D.ac hp10 ?_
 refine D.bn (fun _=>(dF _ b n (t.bas i) t _ _ wO wW wF (h.mono mup))) ?_
 refine D.ae ?_
 refine D.aK rfl rfl rfl rfl rfl rfl (fun _=>PtrTo.blockT (Mem.get ha mup) _ 1) rfl rfl rfl ?_
 refine D.ps 2 ?_
 refine D.aK rfl rfl rfl rfl rfl rfl (fun _=>PtrTo.blockT ((h.mono mup).o) _ 1) rfl rfl rfl ?_
 refine D.ae ?_
 refine D.index rfl rfl rfl rfl rfl rfl rfl rfl rfl rfl (fun hg=>⟨h.L.mono mup,by omega,lslot_at om_ h.fl⟩) fl_ rfl (fun p19 hp19=>?_)
 refine D.fa rfl rfl rfl rfl rfl rfl rfl rfl rfl rfl hp19 fl_ rfl (fun p20 hp20=>?_)
 refine D.aK rfl rfl rfl rfl rfl rfl hp20 rfl rfl rfl ?_
 refine D.a6 (fun _=>(eE _ (t.line i).c (Nat.le_trans (aZ hq (by decide)) (by decide)))) rfl rfl rfl rfl rfl rfl rfl rfl rfl ?_
 refine D.ae ?_
 refine D.au ?_
 refine D.q1 1 3 hR ?_
 refine G.rf ?_
 exact ⟨by rw [psgn_neg],rfl⟩
theorem psgn_pos (q:Rat):decide (0<sgnZ q.num)=decide (0<q):=by
 have h:0<q.num ↔ 0<q:=by rw [Rat.lt_iff];simp
 rw [decide_eq_decide]
 unfold sgnZ
 by_cases h1:q.num<0
 ·rw [if_pos h1];exact ⟨fun h2=>absurd h2 (by decide),fun h2=>absurd (h.2 h2) om_⟩
 ·rw [if_neg h1]
  by_cases h2:q.num=0
  ·rw [if_pos h2];exact ⟨fun h3=>absurd h3 (by decide),fun h3=>absurd (h.2 h3) om_⟩
  ·rw [if_neg h2];exact ⟨fun _=>h.1 om_,fun _=>by decide⟩
theorem line_slot {C:Mem}{b n N:Nat}{t:Lp.Tab}{wB wL wO wW:Value}{wF:List Value}(h:TabV C b n t wB wL wO wW wF)(ok:t.Ok N){i:Nat}(hi:i<t.basic.length):Sl C 1 (wF.getD i (.slice none 0 0)) ((t.line i).f.map encR)/\(t.line i).f.length=t.others.length:=by
 have hll:=ok.ll
 have hfl:=h.fl
 refine ⟨?_,ok.fl _ (Lp.line_mem ok hi)⟩
 refine h.F i _ _ (show t.lines[i]?=some (t.line i) from ?_) (show wF[i]?=some _ from ?_)
 ·unfold Lp.Tab.line
  rw [List.getD_eq_getElem?_getD,List.getElem?_eq_getElem om_];rfl
 ·rw [List.getD_eq_getElem?_getD,List.getElem?_eq_getElem om_];rfl
theorem feas2_fn (C:Mem)(a a2 b n i r N:Nat)(t:Lp.Tab)(wB wL wO wW:Value)(wF:List Value)(h:TabV C b n t wB wL wO wW wF)(ok:t.Ok N)(ha:C a=some (.cells ⟨[.pointer (some ⟨b,0,none⟩)]⟩ 133 (0,0)))(ha2:C a2=some (.cells ⟨[.int .i64 r]⟩ 3 (0,0)))
  (hr:r<t.basic.length) (hi:i<t.others.length) (hq:QB 10 ((t.line r).g i)) :
  Gives cx.P 116 [.int .i64 i,.pointer (some ⟨a,0,none⟩),.pointer (some ⟨a2,0,none⟩)] C (.bool (decide (n<=t.oth i) && decide (0<(t.line r).g i))):=by
 obtain ⟨A1,c1,rfl,h11,h12,_⟩:=id h.O
 obtain ⟨A2,c2,rfl,h21,h22,_⟩:=id h.L
 obtain ⟨hsf,hfl⟩:=line_slot h ok hr
 obtain ⟨A3,c3,h30,h31,h32,_⟩:=id hsf
 have hlr:=lslot_at (ls:=t.lines) (ws:=wF) (i:=r) (by rw [ok.ll];exact hr) h.fl
 rw [h30] at hlr hsf
 have hmx:maxLen<=9223372036854775807:=by simp [maxLen]
 have hll:=ok.ll
 refine Fn.it kr_ Tryz.func116 29 fun w0=>?_
 refine G.z3 1 0 1 2 ?_
 refine G.aH [0,1,2,3,4,5,6,7,8,9,10,11,12,13,14,15,16,17,18,19,20,21,22,23,24] [(8,1)] rfl kr_ (fun R hB hR=>?_)
 refine D.ac (bkT ha 1) ?_
 refine D.ac (bkT ha 1) ?_
 refine D.ps 2 ?_
 refine D.ac (PtrTo.blockT ((h.mono mup).o) _ 1) ?_
 refine D.ae ?_
 refine D.ak (h.O.mono mup) rfl rfl rfl rfl rfl rfl rfl rfl rfl rfl om_ (dA hi) fl_ (fun p11 hp11=>?_)
 refine D.ac hp11 ?_
 refine D.bn (fun _=>(dF _ b n (t.oth i) t _ _ _ wW wF (h.mono mup))) ?_
 refine D.ae ?_
 refine D.aK rfl rfl rfl rfl rfl rfl (fun _=>PtrTo.blockT (Mem.get ha mup) _ 1) rfl rfl rfl ?_
 refine D.ps 2 ?_
 refine D.aK rfl rfl rfl rfl rfl rfl (fun _=>PtrTo.blockT ((h.mono mup).o) _ 1) rfl rfl rfl ?_
 refine D.aK rfl rfl rfl rfl rfl rfl (fun _=>PtrTo.blockT (Mem.get ha2 mup) _ 1) rfl rfl rfl ?_
 refine D.index rfl rfl rfl rfl rfl rfl rfl rfl rfl rfl (fun hg=>⟨h.L.mono mup,by omega,hlr⟩) fl_ rfl (fun p20 hp20=>?_)
 refine D.fa rfl rfl rfl rfl rfl rfl rfl rfl rfl rfl hp20 fl_ rfl (fun p21 hp21=>?_)
 refine D.aK rfl rfl rfl rfl rfl rfl hp21 rfl rfl rfl ?_
 refine D.ae ?_
 refine D.index rfl rfl rfl rfl rfl rfl rfl rfl rfl rfl (fun hg=>⟨hsf.mono mup,by omega,ct om_⟩) fl_ rfl (fun p24 hp24=>?_)
 refine D.aK rfl rfl rfl rfl rfl rfl hp24 rfl rfl rfl ?_
 refine D.a6 (fun _=>(eE _ ((t.line r).g i) (Nat.le_trans (aZ hq (by decide)) (by decide)))) rfl rfl rfl rfl rfl rfl rfl rfl rfl ?_
 refine D.ae ?_
 refine D.au ?_
 refine D.q1 1 4 hR ?_
 refine G.rf ?_
 exact ⟨by rw [<- psgn_pos],rfl⟩
theorem min1_fn (C:Mem)(a b n i N:Nat)(t:Lp.Tab)(wB wL wO wW:Value)(wF:List Value)(h:TabV C b n t wB wL wO wW wF)(ok:t.Ok N)(ha:C a=some (.cells ⟨[.pointer (some ⟨b,0,none⟩)]⟩ 133 (0,0)))(hi:i<t.others.length) :
  Gives cx.P 117 [.int .i64 i,.pointer (some ⟨a,0,none⟩)] C (.bool (!decide (n<=t.oth i) && !decide (t.worth.g i=0))):=by
 obtain ⟨A1,c1,rfl,h11,h12,_⟩:=id h.O
 obtain ⟨A2,c2,rfl,h21,h22,_⟩:=id h.W
 have hmx:maxLen<=9223372036854775807:=by simp [maxLen]
 have hwl:=ok.wl
 refine Fn.it kr_ Tryz.func117 25 fun w0=>?_
 refine G.z2 1 0 1 ?_
 refine G.aH [0,1,2,3,4,5,6,7,8,9,10,11,12,13,14,15,16,17,18,19,20,21] [(8,1)] rfl kr_ (fun R hB hR=>?_)
 refine D.ac (bkT ha 1) ?_
 refine D.ac (bkT ha 1) ?_
 refine D.ps 2 ?_
 refine D.ac (PtrTo.blockT ((h.mono mup).o) _ 1) ?_
 refine D.ae ?_
 refine D.ak (h.O.mono mup) rfl rfl rfl rfl rfl rfl rfl rfl rfl rfl om_ (dA hi) fl_ (fun p10 hp10=>?_)
 refine D.ac hp10 ?_
 refine D.bn (fun _=>(dF _ b n (t.oth i) t _ _ _ _ wF (h.mono mup))) ?_
 refine D.ps 2 ?_
 refine D.aK rfl rfl rfl rfl rfl rfl (fun _=>PtrTo.blockT (Mem.get ha mup) _ 1) rfl rfl rfl ?_
 refine D.ps 3 ?_
 refine D.aK rfl rfl rfl rfl rfl rfl (fun _=>PtrTo.blockT ((h.mono mup).o) _ 1) rfl rfl rfl ?_
 refine D.ae ?_
 refine D.index rfl rfl rfl rfl rfl rfl rfl rfl rfl rfl (fun hg=>⟨h.W.mono mup,by omega,ct om_⟩) fl_ rfl (fun p21 hp21=>?_)
 refine D.aK rfl rfl rfl rfl rfl rfl hp21 rfl rfl rfl ?_
 refine D.ae ?_
 refine D.au ?_
 refine D.q1 1 3 hR ?_
 refine G.rf ?_
 refine ⟨?_,rfl⟩
 show Value.bool _=Value.bool _
 congr 1
 congr 1
 show (!((⟨(qtx (t.worth.g i)).toArray⟩:ByteArray).data.toList == (⟨#[48]⟩:ByteArray).data.toList))=_
 rw [dU]
theorem min2_fn (C:Mem)(a b n i N:Nat)(t:Lp.Tab)(wB wL wO wW:Value)(wF:List Value)(h:TabV C b n t wB wL wO wW wF)(ok:t.Ok N)(ha:C a=some (.cells ⟨[.pointer (some ⟨b,0,none⟩)]⟩ 133 (0,0)))(hi:i<t.others.length)(hq:QB 10 (t.worth.g i)) :
  Gives cx.P 118 [.int .i64 i,.pointer (some ⟨a,0,none⟩)] C (.bool (decide (n<=t.oth i) && decide (t.worth.g i<0))):=by
 obtain ⟨A1,c1,rfl,h11,h12,_⟩:=id h.O
 obtain ⟨A2,c2,rfl,h21,h22,_⟩:=id h.W
 have hmx:maxLen<=9223372036854775807:=by simp [maxLen]
 have hwl:=ok.wl
 refine Fn.it kr_ Tryz.func118 25 fun w0=>?_
 refine G.z2 1 0 1 ?_
 refine G.aH [0,1,2,3,4,5,6,7,8,9,10,11,12,13,14,15,16,17,18,19,20,21] [(8,1)] rfl kr_ (fun R hB hR=>?_)
 refine D.ac (bkT ha 1) ?_
 refine D.ac (bkT ha 1) ?_
 refine D.ps 2 ?_
 refine D.ac (PtrTo.blockT ((h.mono mup).o) _ 1) ?_
 refine D.ae ?_
 refine D.ak (h.O.mono mup) rfl rfl rfl rfl rfl rfl rfl rfl rfl rfl om_ (dA hi) fl_ (fun p10 hp10=>?_)
 refine D.ac hp10 ?_
 refine D.bn (fun _=>(dF _ b n (t.oth i) t _ _ _ _ wF (h.mono mup))) ?_
 refine D.ae ?_
 refine D.aK rfl rfl rfl rfl rfl rfl (fun _=>PtrTo.blockT (Mem.get ha mup) _ 1) rfl rfl rfl ?_
 refine D.ps 3 ?_
 refine D.aK rfl rfl rfl rfl rfl rfl (fun _=>PtrTo.blockT ((h.mono mup).o) _ 1) rfl rfl rfl ?_
 refine D.ae ?_
 refine D.index rfl rfl rfl rfl rfl rfl rfl rfl rfl rfl (fun hg=>⟨h.W.mono mup,by omega,ct om_⟩) fl_ rfl (fun p20 hp20=>?_)
 refine D.aK rfl rfl rfl rfl rfl rfl hp20 rfl rfl rfl ?_
 refine D.a6 (fun _=>(eE _ (t.worth.g i) (Nat.le_trans (aZ hq (by decide)) (by decide)))) rfl rfl rfl rfl rfl rfl rfl rfl rfl ?_
 refine D.ae ?_
 refine D.au ?_
 refine D.q1 1 3 hR ?_
 refine G.rf ?_
 exact ⟨by rw [psgn_neg],rfl⟩

theorem rep_enc (n:Nat):List.replicate n (strV [48])=((List.replicate n (0:Rat)).map encR).flatten:=by
 rw [List.map_replicate,show encR 0=[strV [48]] by unfold encR;rw [qtx0]]
 induction n with
 | zero=>rfl
 | succ n ih=>rw [List.replicate_succ,List.replicate_succ,List.flatten_cons,<- ih];rfl
def ptF (t:Lp.Tab)(n i:Nat):List Rat:=(List.range n).map fun v=>if v∈t.basic.take i then t.sol v else 0
theorem ptF_len {t:Lp.Tab}{n i:Nat}:(ptF t n i).length=n:=by simp [ptF]
theorem ptF_at {t:Lp.Tab}{n i v:Nat}(h:v<n):(ptF t n i)[v]?=some (if v∈t.basic.take i then t.sol v else 0):=by
 unfold ptF
 rw [List.getElem?_map,List.getElem?_range h];rfl
theorem ptF_zero (t:Lp.Tab)(n:Nat):ptF t n 0=List.replicate n 0:=by
 refine List.ext_getElem? fun v=>?_
 by_cases h:v<n
 ·rw [ptF_at h,List.getElem?_replicate,if_pos h,List.take_zero,if_neg List.not_mem_nil]
 ·rw [List.getElem?_eq_none (by rw [ptF_len];omega),List.getElem?_eq_none (by simp;omega)]
theorem take_next {t:Lp.Tab}{i:Nat}(h:i<t.basic.length):t.basic.take (i+1)=t.basic.take i++[t.bas i]:=by
 rw [List.take_add_one]
 congr 1
 unfold Lp.Tab.bas
 rw [List.getD_eq_getElem?_getD,List.getElem?_eq_getElem h];rfl
theorem ptF_set {t:Lp.Tab}{N n i:Nat}(ok:t.Ok N)(h:i<t.basic.length)(hv:t.bas i<n):(ptF t n i).set (t.bas i) (t.line i).c=ptF t n (i+1):=by
 refine List.ext_getElem? fun v=>?_
 rw [List.getElem?_set,ptF_len]
 by_cases hn:v<n
 ·rw [ptF_at hn,ptF_at hn,take_next h]
  by_cases e:t.bas i=v
  ·subst e
   rw [if_pos rfl,if_pos hn,if_pos (by simp),Lp.sol_bas ok h]
  ·rw [if_neg e]
   by_cases hm:v∈t.basic.take i
   ·rw [if_pos hm,if_pos (by simp [hm])]
   ·rw [if_neg hm,if_neg (by simp [hm];exact fun h2=>e h2.symm)]
 ·rw [if_neg om_,List.getElem?_eq_none (by rw [ptF_len];omega),List.getElem?_eq_none (by rw [ptF_len];omega)]
theorem ptF_skip {t:Lp.Tab}{n i:Nat}(h:i<t.basic.length)(hv:n<=t.bas i):ptF t n i=ptF t n (i+1):=by
 refine List.map_congr_left fun v hm=>?_
 have hvn:=List.mem_range.1 hm
 rw [take_next h]
 by_cases hm:v∈t.basic.take i
 ·rw [if_pos hm,if_pos (by simp [hm])]
 ·rw [if_neg hm,if_neg (by simp [hm];omega)]
theorem ptF_end {t:Lp.Tab}{N n:Nat}(ok:t.Ok N):ptF t n t.basic.length=(List.range n).map t.sol:=by
 refine List.map_congr_left fun v _=>?_
 rw [List.take_length]
 split
 ·rfl
 ·next h=>exact (Lp.sol_oth ok h).symm
theorem point_fn (C:Mem)(b n N:Nat)(t:Lp.Tab)(wB wL wO wW:Value)(wF:List Value)(h:TabV C b n t wB wL wO wW wF)(ok:t.Ok N)(hn:n<=1000000) :
  Jog.Fn cx.P 58 [.pointer (some ⟨b,0,none⟩)] C [] fun u _ L'=>∃ g,u=.slice (some ⟨g,0,none⟩) n n/\L'=[.arr u 27 1 n (((List.range n).map t.sol).map encR).flatten]:=by
 obtain ⟨A1,c1,rfl,h11,h12,_⟩:=id h.B
 obtain ⟨A2,c2,rfl,h21,h22,_⟩:=id h.L
 have hB:=h.B
 have h11':t.basic.length<=c1:=by rwa [List.length_map] at h11
 have hmx:maxLen<=9223372036854775807:=by simp [maxLen]
 have hll:=ok.ll
 have hfl:=h.fl
 refine Fn.it kr_ Tryz.func58 38 fun w0=>?_
 refine G.z1 1 0 ?_
 refine G.aA [(4,3)] rfl (fun R hR=>?_)
 refine D.ps 3 ?_
 refine D.ac (PtrTo.blockT ((h.mono mup).o) _ 1) ?_
 refine D.call (pzeros_fn _ n hn) rfl (.inr (by decide)) rfl rfl rfl rfl rfl rfl (List.Perm.refl _) fl_ (fun v10 C10 L10 hle10 hq10=>?_)
 obtain ⟨g,rfl,rfl⟩:=hq10
 refine D.q2 1 0 3 hR ?_;clear hR R
 refine G.rp 3 fun R hR=>?_
 refine D.ac (PtrTo.blockT ((h.mono mup).o) _ 1) ?_
 refine D.q5 2 0 3 14 15 16 hR ?_;clear hR R
 refine G.aM (L':=[.arr (.slice (some ⟨g,0,none⟩) n n) 27 1 n ((ptF t n 0).map encR).flatten]) (by rw [ptF_zero,<- rep_enc];rfl) ?_
 refine G.loop (fun fr C' L' μ=>∃ (i:Nat),(i<=t.basic.length)/\fr=[(0,[],.pointer (some ⟨b,0,none⟩)),(3,[],.slice (some ⟨g,0,none⟩) n n),(14,[],.slice A1 (t.basic.map encN).length c1),(15,[],.int .i64 (t.basic.map encN).length),(16,[],.int .i64 i)]/\L'=[.arr (.slice (some ⟨g,0,none⟩) n n) 27 1 n ((ptF t n i).map encR).flatten]/\μ=t.basic.length-i) (h_5 0 3 14 15 16) ⟨0,Nat.zero_le _,rfl,rfl,rfl⟩ (fun fr C0' L0' m hle0 hI=>?_)
 obtain ⟨i,hi,rfl,rfl,rfl⟩:=hI
 refine G.z6 1 0 3 14 15 16 17 ?_
 refine G.cd (fun h17=>?_) fun h17=>?_
 ·have hil:i<t.basic.length:=by
   have:=of_decide_eq_true h17
   rw [List.length_map] at this
   omega
  refine G.rp 1 fun R hR=>?_
  refine D.ak (hB.mono mup) rfl rfl rfl rfl rfl rfl rfl rfl rfl rfl om_ (show (t.basic.map encN)[i]?=some (encN (t.bas i)) from dA hil) fl_ (fun p19 hp19=>?_)
  refine D.ac hp19 ?_
  refine D.q7 2 0 3 4 5 14 15 16 hR ?_;clear hR R
  refine G.rp 2 fun R hR=>?_
  refine D.aj (dF _ b n (t.bas i) t _ _ wO wW wF (h.mono mup)) ?_
  refine D.q8 1 0 3 4 5 14 15 16 24 hR ?_;clear hR R
  refine G.cd (fun h24=>?_) fun h24=>?_
  ·have hv:t.bas i<n:=by
    have h24':¬ n<=t.bas i:=by simpa using h24
    omega
   refine G.rp 5 fun R hR=>?_
   refine D.ac (PtrTo.blockT ((h.mono mup).o) _ 1) ?_
   refine D.ae ?_
   refine D.ak (h.L.mono mup) rfl rfl rfl rfl rfl rfl rfl rfl rfl rfl om_ (lslot_at om_ hfl) fl_ (fun p32 hp32=>?_)
   refine D.d5 hp32 rfl rfl rfl rfl rfl rfl rfl rfl rfl rfl fl_ (fun p33 hp33=>?_)
   refine D.ac hp33 ?_
   refine D.aD (t.bas i*1) rfl rfl rfl rfl rfl rfl rfl rfl rfl rfl (fun _=>⟨by omega,by omega,rfl⟩) rfl rfl ?_
   refine D.aE (j:=0) rfl rfl rfl rfl rfl rfl rfl rfl rfl rfl rfl (by show t.bas i*1+1<=_;rw [aW aU,ptF_len];omega) ?_
   refine D.e5 0 3 14 15 16 hR ?_;clear hR R
   refine G.rg fun R hR=>?_
   refine D.aq _ ?_
   refine D.q5 1 0 3 14 15 16 hR ?_;clear hR R
   refine G.aM (L':=[.arr (.slice (some ⟨g,0,none⟩) n n) 27 1 n ((ptF t n (i+1)).map encR).flatten]) (by rw [<- ptF_set ok hil hv,<- aL aU _ (by rw [ptF_len];exact hv)];rfl) ?_
   refine G.ap (m':=t.basic.length-(i+1)) om_ hle0 (h_5 0 3 14 15 16) ⟨i+1,om_,rfl,rfl,rfl⟩
  ·have hv:n<=t.bas i:=by simpa using h24
   rw [ptF_skip hil hv]
   refine G.rg fun R hR=>?_
   refine D.aq _ ?_
   refine D.q5 1 0 3 14 15 16 hR ?_;clear hR R
   refine G.ap (m':=t.basic.length-(i+1)) om_ hle0 (h_5 0 3 14 15 16) ⟨i+1,om_,rfl,rfl,rfl⟩
 ·have hil:i=t.basic.length:=by
   have:=of_decide_eq_false h17
   rw [List.length_map] at this
   omega
  refine G.z1 2 2 ?_
  refine G.ay (G.dC rfl rfl ?_)
  exact ⟨g,rfl,by rw [hil,ptF_end ok]⟩

def duF (p:Lp.Sys)(t:Lp.Tab)(l:Lp.Line)(i:Nat):List Rat:=(List.range p.m).map fun r=>if p.n+r∈t.others.take i then Lp.dualV p t l r else 0
theorem duF_len {p:Lp.Sys}{t:Lp.Tab}{l:Lp.Line}{i:Nat}:(duF p t l i).length=p.m:=by simp [duF]
theorem duF_at {p:Lp.Sys}{t:Lp.Tab}{l:Lp.Line}{i r:Nat}(h:r<p.m):(duF p t l i)[r]?=some (if p.n+r∈t.others.take i then Lp.dualV p t l r else 0):=by
 unfold duF
 rw [List.getElem?_map,List.getElem?_range h];rfl
theorem duF_zero (p:Lp.Sys)(t:Lp.Tab)(l:Lp.Line):duF p t l 0=List.replicate p.m 0:=by
 refine List.ext_getElem? fun v=>?_
 by_cases h:v<p.m
 ·rw [duF_at h,List.getElem?_replicate,if_pos h,List.take_zero,if_neg List.not_mem_nil]
 ·rw [List.getElem?_eq_none (by rw [duF_len];omega),List.getElem?_eq_none (by simp;omega)]
theorem take_oth {t:Lp.Tab}{i:Nat}(h:i<t.others.length):t.others.take (i+1)=t.others.take i++[t.oth i]:=by
 rw [List.take_add_one]
 congr 1
 unfold Lp.Tab.oth
 rw [List.getD_eq_getElem?_getD,List.getElem?_eq_getElem h];rfl
theorem duF_set {p:Lp.Sys}{t:Lp.Tab}{l:Lp.Line}{i:Nat}(ht:Lp.TabOf p t)(h:i<t.others.length)(hv:p.n<=t.oth i):(duF p t l i).set (t.oth i-p.n) (l.g i)=duF p t l (i+1):=by
 refine List.ext_getElem? fun v=>?_
 rw [List.getElem?_set,duF_len]
 by_cases hn:v<p.m
 ·rw [duF_at hn,duF_at hn,take_oth h]
  by_cases e:t.oth i-p.n=v
  ·subst e
   rw [if_pos rfl,if_pos hn,if_pos (by rw [show p.n+(t.oth i-p.n)=t.oth i by omega];simp),Lp.dualV_at ht h hv]
  ·rw [if_neg e]
   by_cases hm:p.n+v∈t.others.take i
   ·rw [if_pos hm,if_pos (by simp [hm])]
   ·rw [if_neg hm,if_neg (by simp [hm];omega)]
 ·rw [List.getElem?_eq_none (by rw [duF_len];omega),List.getElem?_eq_none (by rw [duF_len];omega)]
  have:=ht.ok.lt _ (List.mem_append.2 (.inr (Lp.oth_mem h)))
  split
  ·exact if_neg om_
  ·rfl
theorem duF_skip {p:Lp.Sys}{t:Lp.Tab}{l:Lp.Line}{i:Nat}(h:i<t.others.length)(hv:t.oth i<p.n):duF p t l i=duF p t l (i+1):=by
 refine List.map_congr_left fun v _=>?_
 rw [take_oth h]
 by_cases hm:p.n+v∈t.others.take i
 ·rw [if_pos hm,if_pos (by simp [hm])]
 ·rw [if_neg hm,if_neg (by simp [hm];omega)]
theorem duF_end {p:Lp.Sys}{t:Lp.Tab}{l:Lp.Line}:duF p t l t.others.length=(List.range p.m).map (Lp.dualV p t l):=by
 refine List.map_congr_left fun v _=>?_
 rw [List.take_length]
 split
 ·rfl
 ·next h=>exact (Lp.dualV_none h).symm
theorem dual_fn (C:Mem)(p:Lp.Sys)(b:Nat)(t:Lp.Tab)(l:Lp.Line)(wB wL wO wW w:Value)(wF:List Value)(h:TabV C b p.n t wB wL wO wW wF)(ht:Lp.TabOf p t)(hm:p.m<=1000000)(hw:Sl C 1 w (l.f.map encR))(hlf:l.f.length=t.others.length) :
  Jog.Fn cx.P 60 [.pointer (some ⟨b,0,none⟩),.agg ⟨[strV (qtx l.c),w]⟩,.int .i64 p.m] C [] fun u _ L'=>∃ g,u=.slice (some ⟨g,0,none⟩) p.m p.m/\L'=[.arr u 27 1 p.m (((List.range p.m).map (Lp.dualV p t l)).map encR).flatten]:=by
 obtain ⟨A1,c1,rfl,h11,h12,_⟩:=id h.O
 obtain ⟨A3,c3,rfl,h31,h32,_⟩:=id hw
 have hO:=h.O
 have h11':t.others.length<=c1:=by rwa [List.length_map] at h11
 have hmx:maxLen<=9223372036854775807:=by simp [maxLen]
 refine Fn.it kr_ Tryz.func60 40 fun w0=>?_
 refine G.rg fun R hR=>?_
 refine D.aX (fun b4=>?_)
 refine D.q3 1 0 2 4 hR ?_
 refine G.freeze 0 rfl (fun C5 hle5 hb5=>?_)
 refine G.aA [(1,3)] rfl (fun R hR=>?_)
 refine D.ae ?_
 refine D.call (pzeros_fn _ p.m hm) rfl (.inr (by decide)) rfl rfl rfl rfl rfl rfl (List.Perm.refl _) fl_ (fun v11 C11 L11 hle11 hq11=>?_)
 obtain ⟨g,rfl,rfl⟩:=hq11
 refine D.q3 1 0 4 7 hR ?_
 refine G.rp 3 fun R hR=>?_
 refine D.ac (PtrTo.blockT ((h.mono mup).o) _ 1) ?_
 refine D.q6 2 0 4 7 15 16 17 hR ?_
 refine G.aM (L':=[.arr (.slice (some ⟨g,0,none⟩) p.m p.m) 27 1 p.m ((duF p t l 0).map encR).flatten]) (by rw [duF_zero,<- rep_enc];rfl) ?_
 refine G.loop (fun fr C' L' μ=>∃ (i:Nat),(i<=t.others.length)/\fr=[(0,[],.pointer (some ⟨b,0,none⟩)),(4,[],.pointer (some ⟨b4,0,none⟩)),(7,[],.slice (some ⟨g,0,none⟩) p.m p.m),(15,[],.slice A1 (t.others.map encN).length c1),(16,[],.int .i64 (t.others.map encN).length),(17,[],.int .i64 i)]/\L'=[.arr (.slice (some ⟨g,0,none⟩) p.m p.m) 27 1 p.m ((duF p t l i).map encR).flatten]/\μ=t.others.length-i) (h_6 0 4 7 15 16 17) ⟨0,Nat.zero_le _,rfl,rfl,rfl⟩ (fun fr C0' L0' m hle0 hI=>?_)
 obtain ⟨i,hi,rfl,rfl,rfl⟩:=hI
 refine G.z7 1 0 4 7 15 16 17 18 ?_
 refine G.cd (fun h18=>?_) fun h18=>?_
 ·have hil:i<t.others.length:=by
   have:=of_decide_eq_true h18
   rw [List.length_map] at this
   omega
  have hvN:=ht.ok.lt _ (List.mem_append.2 (.inr (Lp.oth_mem hil)))
  refine G.rp 1 fun R hR=>?_
  refine D.ak (hO.mono mup) rfl rfl rfl rfl rfl rfl rfl rfl rfl rfl om_ (show (t.others.map encN)[i]?=some (encN (t.oth i)) from dA hil) fl_ (fun p20 hp20=>?_)
  refine D.ac hp20 ?_
  refine D.q8 2 0 4 7 8 9 15 16 17 hR ?_
  refine G.rp 2 fun R hR=>?_
  refine D.aj (dF _ b p.n (t.oth i) t _ _ _ wW wF (h.mono mup)) ?_
  refine D.e9 0 4 7 8 9 15 16 17 24 hR ?_
  refine G.cd (fun h24=>?_) fun h24=>?_
  ·have hv:p.n<=t.oth i:=by simpa using h24
   have hTn:((t.oth i:Int)-(p.n:Int)).toNat=t.oth i-p.n:=by omega
   have hset:=duF_set (l:=l) ht hil hv
   refine G.aH [0,1,2,3,4,5,6,7,8,9,10,11,12,13] [] rfl kr_ (fun R hB hR=>?_)
   refine D.ps 5 ?_
   refine D.ac (PtrTo.blockT ((h.mono mup).o) _ 1) ?_
   refine D.aq _ ?_
   refine D.ae ?_
   refine D.ac (bkT hb5 1) ?_
   refine D.ae ?_
   refine D.ak (hw.mono mup) rfl rfl rfl rfl rfl rfl rfl rfl rfl rfl om_ (ct om_) fl_ (fun p35 hp35=>?_)
   refine D.ac hp35 ?_
   refine D.aD (((t.oth i:Int)-(p.n:Int)).toNat*1) rfl rfl rfl rfl rfl rfl rfl rfl rfl rfl (fun _=>⟨by omega,by omega,rfl⟩) rfl rfl ?_
   refine D.aE (j:=0) rfl rfl rfl rfl rfl rfl rfl rfl rfl rfl rfl (by show ((t.oth i:Int)-(p.n:Int)).toNat*1+1<=_;rw [hTn,aW aU,duF_len];omega) ?_
   refine D.e6 0 4 7 15 16 17 hR ?_
   refine G.rg fun R hR=>?_
   refine D.aq _ ?_
   refine D.q6 1 0 4 7 15 16 17 hR ?_
   refine G.aM (L':=[.arr (.slice (some ⟨g,0,none⟩) p.m p.m) 27 1 p.m ((duF p t l (i+1)).map encR).flatten]) (by rw [hTn,<- hset,<- aL aU _ (by rw [duF_len];omega)];rfl) ?_
   refine G.ap (m':=t.others.length-(i+1)) om_ hle0 (h_6 0 4 7 15 16 17) ⟨i+1,om_,rfl,rfl,rfl⟩
  ·have hv:t.oth i<p.n:=by
    have h24':¬ p.n<=t.oth i:=by simpa using h24
    omega
   rw [duF_skip hil hv]
   refine G.rg fun R hR=>?_
   refine D.aq _ ?_
   refine D.q6 1 0 4 7 15 16 17 hR ?_
   refine G.ap (m':=t.others.length-(i+1)) om_ hle0 (h_6 0 4 7 15 16 17) ⟨i+1,om_,rfl,rfl,rfl⟩
 ·have hil:i=t.others.length:=by
   have:=of_decide_eq_false h18
   rw [List.length_map] at this
   omega
  refine G.z1 2 6 ?_
  refine G.ay (G.dC rfl rfl ?_)
  exact ⟨g,rfl,by rw [hil,duF_end]⟩

def ngF (p:Lp.Sys)(t:Lp.Tab)(l:Lp.Line)(i:Nat):List Rat:=(List.range p.m).map fun r=>if r<i then -Lp.dualV p t l r else Lp.dualV p t l r
theorem eJ {p:Lp.Sys}{t:Lp.Tab}{l:Lp.Line}{i:Nat}:(ngF p t l i).length=p.m:=by simp [ngF]
theorem ngF_at {p:Lp.Sys}{t:Lp.Tab}{l:Lp.Line}{i r:Nat}(h:r<p.m):(ngF p t l i)[r]?=some (if r<i then -Lp.dualV p t l r else Lp.dualV p t l r):=by
 unfold ngF
 rw [List.getElem?_map,List.getElem?_range h];rfl
theorem ngF_zero (p:Lp.Sys)(t:Lp.Tab)(l:Lp.Line):(List.range p.m).map (Lp.dualV p t l)=ngF p t l 0:=List.map_congr_left fun r _=>by rw [if_neg (Nat.not_lt_zero _)]
theorem ngF_set {p:Lp.Sys}{t:Lp.Tab}{l:Lp.Line}{i:Nat}(h:i<p.m):(ngF p t l i).set i (-Lp.dualV p t l i)=ngF p t l (i+1):=by
 refine List.ext_getElem? fun v=>?_
 rw [List.getElem?_set,eJ]
 by_cases hn:v<p.m
 ·rw [ngF_at hn,ngF_at hn]
  by_cases e:i=v
  ·subst e
   rw [if_pos rfl,if_pos hn,if_pos om_]
  ·rw [if_neg e]
   by_cases hm:v<i
   ·rw [if_pos hm,if_pos om_]
   ·rw [if_neg hm,if_neg om_]
 ·rw [if_neg om_,List.getElem?_eq_none (by rw [eJ];omega),List.getElem?_eq_none (by rw [eJ];omega)]
theorem ngF_end {p:Lp.Sys}{t:Lp.Tab}{i:Nat}(h:t.bas i-p.n<p.m):(ngF p t (t.line i) p.m).set (t.bas i-p.n) 1=(List.range p.m).map (Lp.refV p t i):=by
 refine List.ext_getElem? fun v=>?_
 rw [List.getElem?_set,eJ,List.getElem?_map]
 by_cases hn:v<p.m
 ·rw [ngF_at hn,List.getElem?_range hn,if_pos hn]
  unfold Lp.refV
  by_cases e:t.bas i-p.n=v
  ·subst e
   rw [if_pos rfl,if_pos h,Option.map_some,if_pos rfl]
  ·rw [if_neg e,Option.map_some,if_neg (fun e2=>e e2.symm)]
 ·rw [if_neg om_,List.getElem?_eq_none (by rw [eJ];omega),List.getElem?_eq_none (by simp;omega)];rfl
theorem qtx1:qtx 1=[49]:=by decide +kernel
theorem enc1:encR 1=[Value.string ⟨#[49]⟩]:=by
 show [strV (qtx 1)]=_
 rw [qtx1];rfl
theorem refut_fn (C:Mem)(p:Lp.Sys)(b i:Nat)(t:Lp.Tab)(wB wL wO wW:Value)(wF:List Value)(h:TabV C b p.n t wB wL wO wW wF)(ht:Lp.TabOf p t)(hm:p.m<=1000000)(hi:i<t.basic.length)(hF:p.n<=t.bas i)(hq:∀ r,QB 10 (Lp.dualV p t (t.line i) r)) :
  Pur cx.P 56 [.pointer (some ⟨b,0,none⟩),.int .i64 i,.int .i64 p.m] C fun u D=>∃ g,u=.agg ⟨[.slice (some ⟨g,0,none⟩) p.m p.m]⟩/\Sl D 1 (.slice (some ⟨g,0,none⟩) p.m p.m) (((List.range p.m).map (Lp.refV p t i)).map encR):=by
 have ok:=ht.ok
 obtain ⟨A1,c1,rfl,h11,h12,_⟩:=id h.B
 obtain ⟨A2,c2,rfl,h21,h22,_⟩:=id h.L
 obtain ⟨hsf,hfl⟩:=line_slot h ok hi
 obtain ⟨A3,c3,h30,h31,h32,_⟩:=id hsf
 have hll:=ok.ll
 have hlr:=lslot_at (ls:=t.lines) (ws:=wF) (i:=i) om_ h.fl
 rw [h30] at hlr hsf
 have hmx:maxLen<=9223372036854775807:=by simp [maxLen]
 have hbN:=ok.lt _ (List.mem_append.2 (.inl (Lp.bas_mem hi)))
 have hbm:t.bas i-p.n<p.m:=by omega
 have hTn:((t.bas i:Int)-(p.n:Int)).toNat=t.bas i-p.n:=by omega
 refine Fn.it kr_ Tryz.func56 49 fun w0=>?_
 refine G.rg fun R hR=>?_
 refine D.aC (fun b6=>?_)
 refine D.e4 0 1 2 6 hR ?_
 refine G.aA [(9,3)] rfl (fun R hR=>?_)
 refine D.ps 4 ?_
 refine D.ac (PtrTo.blockT ((h.mono mup).o) _ 1) ?_
 refine D.ae ?_
 refine D.ak (h.L.mono mup) rfl rfl rfl rfl rfl rfl rfl rfl rfl rfl om_ hlr fl_ (fun p16 hp16=>?_)
 refine D.ac hp16 ?_
 refine D.ae ?_
 refine D.call (dual_fn _ p b t (t.line i) _ _ wO wW _ wF (h.mono mup) ht hm (hsf.mono mup) hfl) rfl (.inr (by decide)) rfl rfl rfl rfl rfl rfl (List.Perm.refl _) fl_ (fun v19 C19 L19 hle19 hq19=>?_)
 obtain ⟨g,rfl,rfl⟩:=hq19
 refine D.q4 1 0 1 6 7 hR ?_
 refine G.z7 3 0 1 6 7 20 21 22 ?_
 refine G.aM (L':=[.arr (.slice (some ⟨g,0,none⟩) p.m p.m) 27 1 p.m ((ngF p t (t.line i) 0).map encR).flatten,.obj b6 (.cells ⟨[.slice none 0 0]⟩ 38 (0,0))]) (by rw [<- ngF_zero];rfl) ?_
 refine G.loop (fun fr C' L' μ=>∃ (j:Nat),(j<=p.m)/\fr=[(0,[],.pointer (some ⟨b,0,none⟩)),(1,[],.int .i64 i),(6,[],.pointer (some ⟨b6,0,none⟩)),(7,[],.slice (some ⟨g,0,none⟩) p.m p.m),(20,[],.slice (some ⟨g,0,none⟩) p.m p.m),(21,[],.int .i64 p.m),(22,[],.int .i64 j)]/\L'=[.arr (.slice (some ⟨g,0,none⟩) p.m p.m) 27 1 p.m ((ngF p t (t.line i) j).map encR).flatten,.obj b6 (.cells ⟨[.slice none 0 0]⟩ 38 (0,0))]/\μ=p.m-j) (h_7 0 1 6 7 20 21 22) ⟨0,Nat.zero_le _,rfl,rfl,rfl⟩ (fun fr C0' L0' m hle0 hI=>?_)
 obtain ⟨j,hj,rfl,rfl,rfl⟩:=hI
 refine G.z8 1 0 1 6 7 20 21 22 23 ?_
 refine G.cd (fun h23=>?_) fun h23=>?_
 ·have hjl:j<p.m:=by
   have:=of_decide_eq_true h23
   omega
  have hget:(ngF p t (t.line i) j)[j]?=some (Lp.dualV p t (t.line i) j):=by rw [ngF_at hjl,if_neg (Nat.lt_irrefl _)]
  refine G.rp 1 fun R hR=>?_
  refine D.aD (j*1) rfl rfl rfl rfl rfl rfl rfl rfl rfl rfl (fun _=>⟨by omega,by omega,rfl⟩) rfl rfl ?_
  refine D.aT (.head _) rfl rfl rfl rfl rfl rfl (fun _=>(by rw [bU aU hget];rfl)) rfl rfl ?_
  refine D.q9 2 0 1 6 7 8 9 20 21 22 hR ?_
  refine G.rp 3 fun R hR=>?_
  refine D.al (rneg_fn _ _ (Nat.le_trans (aZ (hq j) (by decide)) (by decide))) rfl rfl rfl rfl rfl rfl rfl fl_ ?_
  refine D.aD (j*1) rfl rfl rfl rfl rfl rfl rfl rfl rfl rfl (fun _=>⟨by omega,by omega,rfl⟩) rfl rfl ?_
  refine D.aE (j:=0) rfl rfl rfl rfl rfl rfl rfl rfl rfl rfl rfl (by show j*1+1<=_;rw [aW aU,eJ];omega) ?_
  refine D.e7 0 1 6 7 20 21 22 hR ?_
  refine G.rg fun R hR=>?_
  refine D.aq _ ?_
  refine D.q7 1 0 1 6 7 20 21 22 hR ?_
  refine G.aM (L':=[.arr (.slice (some ⟨g,0,none⟩) p.m p.m) 27 1 p.m ((ngF p t (t.line i) (j+1)).map encR).flatten,.obj b6 (.cells ⟨[.slice none 0 0]⟩ 38 (0,0))]) (by rw [<- ngF_set hjl,<- aL aU _ (by rw [eJ];omega)];rfl) ?_
  refine G.ap (m':=p.m-(j+1)) om_ hle0 (h_7 0 1 6 7 20 21 22) ⟨j+1,om_,rfl,rfl,rfl⟩
 ·have hjl:j=p.m:=by
   have:=of_decide_eq_false h23
   omega
  subst hjl
  refine G.aH [0,1,2,3,4,5,6,7,8,9,10,11,12,13,14] [] rfl kr_ (fun R hB hR=>?_)
  refine D.ps 4 ?_
  refine D.ac (PtrTo.blockT ((h.mono mup).o) _ 1) ?_
  refine D.ae ?_
  refine D.ak (h.B.mono mup) rfl rfl rfl rfl rfl rfl rfl rfl rfl rfl om_ (show (t.basic.map encN)[i]?=some (encN (t.bas i)) from dA hi) fl_ (fun p39 hp39=>?_)
  refine D.ac hp39 ?_
  refine D.ps 3 ?_
  refine D.ac (PtrTo.blockT ((h.mono mup).o) _ 1) ?_
  refine D.aq _ ?_
  refine D.aD (((t.bas i:Int)-(p.n:Int)).toNat*1) rfl rfl rfl rfl rfl rfl rfl rfl rfl rfl (fun _=>⟨by omega,by omega,rfl⟩) rfl rfl ?_
  refine D.aE (j:=0) rfl rfl rfl rfl rfl rfl rfl rfl rfl rfl rfl (by show ((t.bas i:Int)-(p.n:Int)).toNat*1+1<=_;rw [hTn,aW aU,eJ];omega) ?_
  refine D.e2 6 7 hR ?_
  refine G.rp 1 fun R hR=>?_
  refine D.build [.slice (some ⟨g,0,none⟩) p.m p.m] rfl rfl rfl rfl rfl rfl rfl rfl ?_
  refine D.ag (j:=1) ?_
  refine D.e1 6 hR ?_
  refine G.freezeArr 1 (((List.range p.m).map (Lp.refV p t i)).map encR) rfl (by rw [hTn,<- ngF_end hbm,<- aL aU 1 (by rw [eJ];omega),enc1]) (by intro r hr;obtain ⟨y,_,rfl⟩:=List.mem_map.1 hr;rfl) (by simp) (fun Cg hg hsl3=>?_)
  refine G.ay (G.dz (.head _) rfl rfl rfl rfl ?_)
  exact ⟨rfl,g,rfl,hsl3⟩
end Go.Proofs.YtifolnapeolhcaaGreatDoor
namespace Go.Jog
open Go

theorem Fn.form {P:Program}{f:FuncId}{args:List Value}{C:Mem}{L:List Ent}{post:Value->Mem->List Ent->Prop}{v:Value}{e s m:Nat}{xs:List Value}(hen:Enters P f=true)(hm:0<m)
  (h:∀ g c,v=.slice (some ⟨g,0,none⟩) m c->Fn P f args C (.arr v e s m xs::L) post):Fn P f args C (.arr v e s m xs::L) post:=by
 refine ⟨hen,fun w hw=>?_⟩
 have hown:w.ownsRow 0 e s v m xs:=hw.e _ (List.mem_cons_self ..)
 rcases hown.2 with ⟨h1,_⟩ | ⟨g,cap,cur,h1,_⟩
 ·omega
 ·exact (h g cap h1).2 w hw
theorem Fn.perm {P:Program}{f:FuncId}{args:List Value}{C:Mem}{L L2:List Ent}{post:Value->Mem->List Ent->Prop}(hp:L.Perm L2)(h:Fn P f args C L2 post):Fn P f args C L post:=by
 refine ⟨h.1,fun w hw=>?_⟩
 have hs:St w C L C (L2++[]) w:=by rw [List.append_nil];exact (St.start hw).perm hp
 refine (h.callAt hs).mono fun ex w' ⟨u,C',L',k1,_,k2,k3⟩=>?_
 rw [List.append_nil] at k2
 exact ⟨u,C',L',k1,k2,k3⟩
theorem Fn.lendPur {P:Program}{f:FuncId}{args:List Value}{C:Mem}{q:Value->Prop}(hen:Enters P f=true)(ls:List Lent)(hw:∀ x∈ls,x.wf)(h:∀ C',C.le C'->(∀ x∈ls,x.seen C')->Pur P f args C' fun u _=>q u) :
  Fn P f args C (ls.map Lent.ent) fun u _ L'=>q u/\L'=ls.map Lent.ent:=by
 have h1:=Fn.lendAll (L:=[]) (post:=fun u L'=>L'=[]/\q u) hen ls hw fun C' hle hs=>h C' hle hs
 rw [List.append_nil] at h1
 refine h1.mono ?_
 rintro u C' L' _ ⟨L2,rfl,rfl,hq⟩
 exact ⟨hq,List.append_nil _⟩
theorem G.fe {F:Fx}{k:List KI}{fr:Fr}{C:Mem}{L:List Ent}{e:Exit}(j:Nat){v:Value}{t s m:Nat}{xs:List Value}(hj:L[j]?=some (.arr v t s m xs))(hm:0<m)(h:∀ g c,v=.slice (some ⟨g,0,none⟩) m c->G F k e fr C L):G F k e fr C L:=by
 cases m with
 | zero=>exact absurd hm (Nat.lt_irrefl _)
 | succ m=>exact G.rowForm j hj h
theorem G.finC2K {F:Fx}{fr:Fr}{C:Mem}{L:List Ent}(j:Nat){r s b t:Nat}{cs:List Value}{tb:TypeId}{fz:Nat × Nat}{ti:TI}{u v:Value}(hj:L[j]?=some (.obj b (.cells ⟨cs⟩ tb fz)))(hres:F.fn.results=#[.cell r t,.tmp s])(hr:ev fr [] (.tmp r)=some (.pointer (some ⟨b,0,none⟩)))(hs:ev fr [] (.tmp s)=some u)
  (ht:F.cx.T.get t=some ti) (hv:cV ti (cs.take ti.size)=some v) (h:F.post (.tuple #[v,u]) C (L.eraseIdx j)) (he:F.ends:=by exact ⟨fun _ _ _ h=>h,rfl⟩):G F [] .ret fr C L:=fun _ a w ha hw=>by
 refine he.kq ?_
 have hr':=bj ha (fun p hp=>by cases hp) hr
 have hs':=bj ha (fun p hp=>by cases hp) hs
 simp only [Act.eval] at hr' hs'
 have hm:Ent.obj b (.cells ⟨cs⟩ tb fz)∈L:=List.mem_of_getElem? hj
 refine bodyPost_ret (v:=.tuple #[v,u]) ?_ (ha.defers.trans he.2) ⟨_,C,_,rfl,St.drop (St.perm hw (aa hj)),h⟩
 have hl:=run_cell (F:=F) ht (hw.sep.e _ hm) hv
 simp only [Array.getD_eq_getD_getElem?] at hr' hs'
 simp [results,hres,hr',hs',asAddr,hl]
theorem map_front {α:Type}{l:List Nat}(hn:l.Nodup){i:Nat}(h:i∈l)(f g:Nat->α)(hfg:∀ j,j∈l->j≠i->f j=g j):(l.map f).Perm (f i::(l.erase i).map g):=by
 refine ((List.perm_cons_erase h).map f).trans ?_
 rw [List.map_cons]
 refine List.Perm.cons _ (List.Perm.of_eq (List.map_congr_left fun j hj=>?_))
 rw [hn.mem_erase_iff] at hj
 exact hfg j hj.2 hj.1
end Go.Jog
namespace Go.Proofs.YtifolnapeolhcaaGreatDoor
open Go Go.Jog
set_option maxRecDepth 100000

def bE (t:Lp.Tab)(wF:Nat->Value):List (Rat × Value):=(List.range t.basic.length).map fun i=>((t.line i).c,wF i)
theorem dT {t:Lp.Tab}{wF:Nat->Value}:(bE t wF).length=t.basic.length:=by simp [bE]
theorem rowsV_at {t:Lp.Tab}{wF:Nat->Value}{i:Nat}(h:i<t.basic.length):(bE t wF)[i]?=some ((t.line i).c,wF i):=by
 unfold bE
 rw [List.getElem?_map,List.getElem?_range h];rfl
def rowL (t:Lp.Tab)(wF:Nat->Value)(i:Nat):Lent:=.arr (wF i) t.others.length 1 27 ((t.line i).f.map encR)
def tabL (b n:Nat)(t:Lp.Tab)(wB wL wO wW:Value)(wF:Nat->Value):List Lent :=
 .obj b [.int .i64 n,wB,wL,wO,strV (qtx t.worth.c),wW] 143::.arr wB t.basic.length 1 3 (t.basic.map encN)::.arr wL t.basic.length 2 140 ((bE t wF).map encL)
  :: .arr wO t.others.length 1 3 (t.others.map encN)::.arr wW t.others.length 1 27 (t.worth.f.map encR)::(List.range t.basic.length).map (rowL t wF)
theorem eM {t:Lp.Tab}{N i:Nat}(ok:t.Ok N)(h:i<t.basic.length):(t.line i).f.length=t.others.length:=ok.fl _ (Lp.line_mem ok h)
theorem bK {l:List Rat}:∀ r∈l.map encR,r.length=1:=fun r hr=>by
 obtain ⟨x,_,rfl⟩:=List.mem_map.1 hr;rfl
theorem encN_all {l:List Nat}:∀ r∈l.map encN,r.length=1:=fun r hr=>by
 obtain ⟨x,_,rfl⟩:=List.mem_map.1 hr;rfl
theorem d9 {b n N:Nat}{t:Lp.Tab}{wB wL wO wW:Value}{wF:Nat->Value}(ok:t.Ok N):∀ x∈tabL b n t wB wL wO wW wF,x.wf:=by
 intro x hx
 unfold tabL at hx
 simp only [List.mem_cons,List.mem_map,List.mem_range] at hx
 rcases hx with rfl | rfl | rfl | rfl | rfl | ⟨i,hi,rfl⟩
 ·trivial
 ·exact ⟨by simp,encN_all⟩
 ·exact ⟨by simp [dT],fun r hr=>by obtain ⟨y,_,rfl⟩:=List.mem_map.1 hr;rfl⟩
 ·exact ⟨by simp,encN_all⟩
 ·exact ⟨by simp [ok.wl],bK⟩
 ·exact ⟨by simp [eM ok hi],bK⟩
theorem zip_range {α:Type}{f:Lp.Line->Value->α}{t:Lp.Tab}{N:Nat}{wF:Nat->Value}(ok:t.Ok N):List.zipWith f t.lines ((List.range t.basic.length).map wF)=(List.range t.basic.length).map fun i=>f (t.line i) (wF i):=by
 refine List.ext_getElem? fun i=>?_
 rw [List.getElem?_zipWith,List.getElem?_map,List.getElem?_map]
 by_cases h:i<t.basic.length
 ·have h2:t.lines[i]?=some (t.line i):=by
   unfold Lp.Tab.line
   rw [List.getD_eq_getElem?_getD,List.getElem?_eq_getElem (by rw [ok.ll];exact h)];rfl
  rw [h2,List.getElem?_range h];rfl
 ·rw [List.getElem?_eq_none (show (List.range t.basic.length).length<=i by simp;omega),List.getElem?_eq_none (show t.lines.length<=i by rw [ok.ll];omega)];rfl
theorem dt {C:Mem}{b n N:Nat}{t:Lp.Tab}{wB wL wO wW:Value}{wF:Nat->Value}(ok:t.Ok N)(h:∀ x∈tabL b n t wB wL wO wW wF,x.seen C):TabV C b n t wB wL wO wW ((List.range t.basic.length).map wF):=by
 have h1:=h _ (List.mem_cons_self ..)
 have h2:=h _ (List.mem_cons_of_mem _ (List.mem_cons_self ..))
 have h3:=h _ (List.mem_cons_of_mem _ (List.mem_cons_of_mem _ (List.mem_cons_self ..)))
 have h4:=h _ (List.mem_cons_of_mem _ (List.mem_cons_of_mem _ (List.mem_cons_of_mem _ (List.mem_cons_self ..))))
 have h5:=h _ (List.mem_cons_of_mem _ (List.mem_cons_of_mem _ (List.mem_cons_of_mem _ (List.mem_cons_of_mem _ (List.mem_cons_self ..)))))
 have h6:∀ i,i<t.basic.length->Sl C 1 (wF i) ((t.line i).f.map encR):=fun i hi =>
  h (rowL t wF i) (List.mem_cons_of_mem _ (List.mem_cons_of_mem _ (List.mem_cons_of_mem _ (List.mem_cons_of_mem _ (List.mem_cons_of_mem _ (List.mem_map.2 ⟨i,List.mem_range.2 hi,rfl⟩))))))
 refine ⟨h1,h2,h4,h5, ?_,by simp [ok.ll],fun i l w e1 e2=>?_⟩
 ·rw [zip_range ok]
  have h3':Sl C 2 wL ((bE t wF).map encL):=h3
  unfold bE at h3'
  rw [List.map_map] at h3'
  exact h3'
 ·have hi:i<t.lines.length:=(List.getElem?_eq_some_iff.1 e1).1
  rw [ok.ll] at hi
  rw [List.getElem?_map,List.getElem?_range hi] at e2
  cases e2
  have:t.line i=l:=by unfold Lp.Tab.line;rw [List.getD_eq_getElem?_getD,e1];rfl
  rw [<- this];exact h6 i hi
theorem putL2_fn (C:Mem)(hT:Tabs C)(bL m cL i n s:Nat)(w wy:Value)(ls:List (Rat × Value))(fs bf:List Rat)(c bc:Rat)(hml:ls.length=m)(hli:ls[i]?=some (c,w))(hfl:fs.length=n)(hbl:bf.length=n)(hs:s<n)(qc:QB 10 c)(qf:∀ x∈fs,QB 10 x)(qbc:QB 10 bc)(qb:∀ x∈bf,QB 10 x) :
  Jog.Fn cx.P 162 [.pointer (some ⟨bL,i*2,none⟩),.int .i64 s,.agg ⟨[strV (qtx bc),wy]⟩] C [.arr wy 27 1 n (bf.map encR).flatten,.arr (.slice (some ⟨bL,0,none⟩) m cL) 140 2 m (ls.map encL).flatten,.arr w 27 1 n (fs.map encR).flatten]
   fun u _ L'=>u=.tuple #[]/\L'=[.arr wy 27 1 n (bf.map encR).flatten,.arr (.slice (some ⟨bL,0,none⟩) m cL) 140 2 m ((ls.set i (c+fs.getD s 0*bc,w)).map encL).flatten,.arr w 27 1 n ((putF fs bf s (fs.getD s 0) n).map encR).flatten]:=by
 have hen:Jog.Enters cx.P 162=true:=by kernel_rfl
 refine Fn.perm (L2:=[.arr w 27 1 n (fs.map encR).flatten,.arr wy 27 1 n (bf.map encR).flatten,.arr (.slice (some ⟨bL,0,none⟩) m cL) 140 2 m (ls.map encL).flatten]) (List.perm_append_comm (l₁:=[_,_]) (l₂:=[_])) ?_
 refine Fn.form hen om_ fun bF cF hw=>?_
 subst hw
 refine Fn.perm (List.perm_append_comm (l₁:=[_]) (l₂:=[_,_])) ?_
 refine (Fn.lendRow (post:=fun u L'=>u=.tuple #[]/\L'=[.arr (.slice (some ⟨bL,0,none⟩) m cL) 140 2 m ((ls.set i (c+fs.getD s 0*bc,_)).map encL).flatten,.arr _ 27 1 n ((putF fs bf s (fs.getD s 0) n).map encR).flatten]) hen bK (by simp [hbl]) fun C' hle hB=>putL_fn C' (hT.mono hle) bL m cL i bF cF n s wy ls fs bf c bc hml hli hfl hbl hs hB qc qf qbc qb).mono ?_
 rintro u C' L' _ ⟨L2,rfl,h1,rfl⟩
 exact ⟨h1,rfl⟩
theorem putW2_fn (C:Mem)(hT:Tabs C)(bt n s:Nat)(v0 v1 v2 v3 w wy:Value)(fs bf:List Rat)(c bc:Rat)(hfl:fs.length=n)(hbl:bf.length=n)(hs:s<n)(qc:QB 10 c)(qf:∀ x∈fs,QB 10 x)(qbc:QB 10 bc)(qb:∀ x∈bf,QB 10 x) :
  Jog.Fn cx.P 162 [.pointer (some ⟨bt,4,none⟩),.int .i64 s,.agg ⟨[strV (qtx bc),wy]⟩] C [.arr wy 27 1 n (bf.map encR).flatten,.obj bt (.cells ⟨[v0,v1,v2,v3,strV (qtx c),w]⟩ 143 (0,0)),.arr w 27 1 n (fs.map encR).flatten]
   fun u _ L'=>u=.tuple #[]/\L'=[.arr wy 27 1 n (bf.map encR).flatten,.obj bt (.cells ⟨[v0,v1,v2,v3,strV (qtx (c+fs.getD s 0*bc)),w]⟩ 143 (0,0)),.arr w 27 1 n ((putF fs bf s (fs.getD s 0) n).map encR).flatten]:=by
 have hen:Jog.Enters cx.P 162=true:=by kernel_rfl
 refine Fn.perm (L2:=[.arr w 27 1 n (fs.map encR).flatten,.arr wy 27 1 n (bf.map encR).flatten,.obj bt (.cells ⟨[v0,v1,v2,v3,strV (qtx c),w]⟩ 143 (0,0))]) (List.perm_append_comm (l₁:=[_,_]) (l₂:=[_])) ?_
 refine Fn.form hen om_ fun bF cF hw=>?_
 subst hw
 refine Fn.perm (List.perm_append_comm (l₁:=[_]) (l₂:=[_,_])) ?_
 refine (Fn.lendRow (post:=fun u L'=>u=.tuple #[]/\L'=[.obj bt (.cells ⟨[v0,v1,v2,v3,strV (qtx (c+fs.getD s 0*bc)),_]⟩ 143 (0,0)),.arr _ 27 1 n ((putF fs bf s (fs.getD s 0) n).map encR).flatten]) hen bK (by simp [hbl]) fun C' hle hB=>putW_fn C' (hT.mono hle) bt bF cF n s v0 v1 v2 v3 wy fs bf c bc hfl hbl hs hB qc qf qbc qb).mono ?_
 rintro u C' L' _ ⟨L2,rfl,h1,rfl⟩
 exact ⟨h1,rfl⟩

theorem leaveR_cases {F s n:Nat}{t:Lp.Tab}{o:Int}(h:Lp.LeaveR F t s n o):o=-1∨∃ r:Nat,o=r/\r<n/\F<=t.bas r/\(t.line r).g s<0:=by
 cases h with
 | none _=>exact .inl rfl
 | some r h1 h2 h3 _=>exact .inr ⟨r,rfl,h1,h2,h3⟩
theorem pcmp_gt (a b:Rat):decide (cmpQ a b > 0)=decide (b<a):=by
 unfold cmpQ
 rw [decide_eq_decide]
 split
 ·next h=>exact ⟨fun h2=>absurd h2 (by decide),fun h2=>by grind⟩
 ·split
  ·next h=>exact ⟨fun _=>h,fun _=>by decide⟩
  ·next h=>exact ⟨fun h2=>absurd h2 (by decide),fun h2=>absurd h2 h⟩
theorem pcmp_eq (a b:Rat):(cmpQ a b == 0)=decide (b=a):=by
 unfold cmpQ
 split
 ·next h=>rw [decide_eq_false (by grind)];rfl
 ·split
  ·next h=>rw [decide_eq_false (by grind)];rfl
  ·next h=>rw [decide_eq_true (by grind)];rfl
theorem leave_fn (C:Mem)(hT:Tabs C)(b n s N:Nat)(t:Lp.Tab)(wB wL wO wW:Value)(wF:List Value)(h:TabV C b n t wB wL wO wW wF)(ok:t.Ok N)(hs:s<t.others.length)(hq:∀ i,i<t.basic.length->QB 1 (t.line i).c/\QB 1 ((t.line i).g s)) :
  Pur cx.P 119 [.pointer (some ⟨b,0,none⟩),.int .i64 s] C fun u _=>∃ o:Int,u=.int .i64 o/\Lp.LeaveR n t s t.basic.length o:=by
 obtain ⟨A1,c1,rfl,h11,h12,_⟩:=id h.B
 obtain ⟨A2,c2,rfl,h21,h22,_⟩:=id h.L
 have hsB:=h.B
 have hmx:maxLen<=9223372036854775807:=by simp [maxLen]
 have hll:=ok.ll
 have hfl:=h.fl
 have hlz:(List.zipWith (fun (l:Lp.Line) w=>[strV (qtx l.c),w]) t.lines wF).length=t.basic.length:=by simp;omega
 refine Fn.it kr_ Tryz.func119 85 fun w0=>?_
 refine G.z2 1 0 1 ?_
 refine G.z3 1 0 1 5 ?_
 refine G.z4 1 0 1 5 6 ?_
 refine G.rp 3 fun R hR=>?_
 refine D.ac (PtrTo.blockT ((h.mono mup).o) _ 1) ?_
 refine D.q7 2 0 1 5 6 15 16 17 hR ?_
 refine G.loop (fun fr C' L' μ=>∃ (i:Nat)(o:Int)(ms:Str),(i<=t.basic.length/\Lp.LeaveR n t s i o/\∀ r:Nat,o=r->ms=qtx ((t.line r).c / -(t.line r).g s))/\fr=[(0,[],.pointer (some ⟨b,0,none⟩)),(1,[],.int .i64 s),(5,[],.int .i64 o),(6,[],strV ms),(15,[],.slice A2 (List.zipWith (fun (l:Lp.Line) w=>[strV (qtx l.c),w]) t.lines wF).length c2),(16,[],.int .i64 (List.zipWith (fun (l:Lp.Line) w=>[strV (qtx l.c),w]) t.lines wF).length),(17,[],.int .i64 i)]/\L'=[]/\μ=t.basic.length-i) (h_7 0 1 5 6 15 16 17) ⟨0, -1,[],⟨Nat.zero_le _,.none fun j hj=>absurd hj (Nat.not_lt_zero _),fun r hr=>by omega⟩,rfl,rfl,rfl⟩ (fun fr C0' L0' m hle0 hI=>?_)
 obtain ⟨i,o,ms,⟨hi,hL,hms⟩,rfl,rfl,rfl⟩:=hI
 refine G.z8 1 0 1 5 6 15 16 17 18 ?_
 refine G.cd (fun h18=>?_) fun h18=>?_
 ·have hil:i<t.basic.length:=by
   have:=of_decide_eq_true h18
   omega
  obtain ⟨hsf,hfl2⟩:=line_slot h ok hil
  obtain ⟨A3,c3,h30,h31,h32,_⟩:=id hsf
  obtain ⟨hqc,hqg⟩:=hq i hil
  have hlr:=lslot_at (ls:=t.lines) (ws:=wF) (i:=i) om_ hfl
  rw [h30] at hlr hsf
  have hl1:(qtx ((t.line i).g s)).length<=1000000:=Nat.le_trans (aZ hqg (by decide)) (by decide)
  refine G.rp 1 fun R hR=>?_
  refine D.ak (h.L.mono mup) rfl rfl rfl rfl rfl rfl rfl rfl rfl rfl om_ hlr fl_ (fun p20 hp20=>?_)
  refine D.ac hp20 ?_
  refine D.aC (fun b8=>?_)
  refine D.ae ?_
  refine D.ag (j:=0) ?_
  refine D.e9 0 1 5 6 7 8 15 16 17 hR ?_
  refine G.freeze 0 rfl (fun C8 hle8 hb8=>?_)
  refine G.rp 4 fun R hR=>?_
  refine D.ac (PtrTo.blockT ((h.mono mup).o) _ 1) ?_
  refine D.ae ?_
  refine D.ak (hsB.mono mup) rfl rfl rfl rfl rfl rfl rfl rfl rfl rfl om_ (dA hil) fl_ (fun p28 hp28=>?_)
  refine D.ac hp28 ?_
  refine D.aj (dF _ b n (t.bas i) t _ _ wO wW wF (h.mono mup)) ?_
  refine D.ps 3 ?_
  refine D.aK rfl rfl rfl rfl rfl rfl (fun _=>PtrTo.blockT (Mem.get hb8 mup) _ 1) rfl rfl rfl ?_
  refine D.ae ?_
  refine D.index rfl rfl rfl rfl rfl rfl rfl rfl rfl rfl (fun hg=>⟨hsf.mono mup,by omega,ct om_⟩) fl_ rfl (fun p36 hp36=>?_)
  refine D.aK rfl rfl rfl rfl rfl rfl hp36 rfl rfl rfl ?_
  refine D.bn (fun _=>(eE _ ((t.line i).g s) hl1)) ?_
  refine D.ae ?_
  refine D.aG rfl rfl rfl rfl rfl rfl rfl rfl ?_
  refine D.e10 0 1 5 6 7 8 15 16 17 40 hR ?_
  refine G.cd (fun h40=>?_) fun h40=>?_
  ·have h40':n<=t.bas i->0<=(t.line i).g s:=by
    intro h1
    have h40':(!decide (n<=t.bas i) || decide (sgnZ ((t.line i).g s).num ≥ 0))=true:=h40
    rw [psgn_ge,decide_eq_true h1] at h40'
    simpa using h40'
   refine G.rg fun R hR=>?_
   refine D.aq _ ?_
   refine D.q7 1 0 1 5 6 15 16 17 hR ?_
   refine G.ap (m':=t.basic.length-(i+1)) om_ mup (h_7 0 1 5 6 15 16 17) ⟨i+1,o,ms,⟨by omega,hL.no h40',hms⟩,rfl,rfl,rfl⟩
  ·have h40':n<=t.bas i/\(t.line i).g s<0:=by
    have h40':(!decide (n<=t.bas i) || decide (sgnZ ((t.line i).g s).num ≥ 0))=false:=h40
    rw [psgn_ge] at h40'
    simp only [Bool.or_eq_false_iff,Bool.not_eq_false',decide_eq_true_eq,decide_eq_false_iff_not] at h40'
    exact ⟨h40'.1,by have:=h40'.2;grind⟩
   have hn0:-(t.line i).g s≠0:=by have:=h40'.2;grind
   have hqd:=QB_div hqc (QB_neg hqg) hn0
   refine G.aH [0,1,2,3,4,5,6,7,8,9,10,11,12,13] [(7,1),(8,1)] rfl kr_ (fun R hB hR=>?_)
   refine D.ae ?_
   refine D.ac (bkT hb8 1) ?_
   refine D.ae ?_
   refine D.ac (bkT hb8 1) ?_
   refine D.ae ?_
   refine D.ak (hsf.mono mup) rfl rfl rfl rfl rfl rfl rfl rfl rfl rfl om_ (ct om_) fl_ (fun p47 hp47=>?_)
   refine D.ac hp47 ?_
   refine D.bn (fun _=>(rneg_fn _ ((t.line i).g s) hl1)) ?_
   refine D.a6 (fun _=>(rdiv_fn _ (hT.mono mup) (t.line i).c (-(t.line i).g s) 1 (by decide) (by decide) hqc (QB_neg hqg) hn0)) rfl rfl rfl rfl rfl rfl rfl rfl rfl ?_
   refine D.q9 5 0 1 5 6 7 9 15 16 17 hR ?_
   refine G.z9 1 0 1 5 6 7 9 15 16 17 ?_
   refine G.z10 2 0 1 5 6 7 9 15 16 17 54 ?_
   refine G.cd (fun h54=>?_) fun h54=>?_
   ·have h54':0<=o:=by simpa using of_decide_eq_true h54
    obtain ⟨r,hor,hri,hrF,hrg⟩:=(leaveR_cases hL).resolve_left om_
    obtain ⟨hqc2,hqg2⟩:=hq r om_
    have hn2:-(t.line r).g s≠0:=by grind
    have hqd2:=QB_div hqc2 (QB_neg hqg2) hn2
    have hmr:=hms r hor
    rw [hor] at hL
    subst hor
    subst hmr
    obtain ⟨x,hx⟩:∃ x,(t.line i).c / -(t.line i).g s=x:=⟨_,rfl⟩
    obtain ⟨y,hy⟩:∃ y,(t.line r).c / -(t.line r).g s=y:=⟨_,rfl⟩
    refine G.rp 2 fun R hR=>?_
    refine D.al (rcompare_fn _ (hT.mono mup) _ _ 2 (by decide) (by decide) hqd hqd2) rfl rfl rfl rfl rfl rfl rfl fl_ ?_
    refine D.q10 1 0 1 5 6 7 9 11 15 16 17 hR ?_
    refine G.aH [0,1,2,3,4,5,6,7,8,9,10,11,12,13,14,15,16,17,18,19,20,21,22] [] rfl kr_ (fun R hB hR=>?_)
    refine D.ps 9 ?_
    refine D.aK rfl rfl rfl rfl rfl rfl (fun _=>PtrTo.blockT ((h.mono mup).o) _ 1) rfl rfl rfl ?_
    refine D.ae ?_
    refine D.index rfl rfl rfl rfl rfl rfl rfl rfl rfl rfl (fun hg=>⟨hsB.mono mup,by omega,dA hil⟩) fl_ rfl (fun p69 hp69=>?_)
    refine D.aK rfl rfl rfl rfl rfl rfl hp69 rfl rfl rfl ?_
    refine D.ps 3 ?_
    refine D.aK rfl rfl rfl rfl rfl rfl (fun _=>PtrTo.blockT ((h.mono mup).o) _ 1) rfl rfl rfl ?_
    refine D.ae ?_
    refine D.index rfl rfl rfl rfl rfl rfl rfl rfl rfl rfl (fun hg=>⟨hsB.mono mup,by omega,by rw [Int.toNat_natCast];exact dA om_⟩) fl_ rfl (fun p76 hp76=>?_)
    refine D.aK rfl rfl rfl rfl rfl rfl hp76 rfl rfl rfl ?_
    refine D.ae ?_
    refine D.au ?_
    refine D.aG rfl rfl rfl rfl rfl rfl rfl rfl ?_
    refine D.e10 0 1 5 6 7 9 15 16 17 80 hR ?_
    refine G.cd (fun h80=>?_) fun h80=>?_
    ·have h80':y<x∨y=x/\t.bas r<t.bas i:=by
      have h80':(decide (cmpQ ((t.line i).c / -(t.line i).g s) ((t.line r).c / -(t.line r).g s) > 0) || (cmpQ ((t.line i).c / -(t.line i).g s) ((t.line r).c / -(t.line r).g s) == 0 && decide ((t.bas i:Int) > (t.bas r:Int))))=true:=h80
      rw [hx,hy,pcmp_gt,pcmp_eq] at h80'
      simp only [Bool.or_eq_true,Bool.and_eq_true,decide_eq_true_eq] at h80'
      rcases h80' with h1 | ⟨h1,h2⟩
      ·exact .inl h1
      ·exact .inr ⟨h1,by omega⟩
     have hk:=hL.keep (by rw [hx,hy];exact h80'.elim .inl (fun h1=>.inr ⟨h1.1,by have:=h1.2;omega⟩))
     refine G.rg fun R hR=>?_
     refine D.aq _ ?_
     refine D.q7 1 0 1 5 6 15 16 17 hR ?_
     refine G.ap (m':=t.basic.length-(i+1)) om_ mup (h_7 0 1 5 6 15 16 17) ⟨i+1,(r:Int),qtx ((t.line r).c / -(t.line r).g s),⟨by omega,hk,hms⟩,rfl,rfl,rfl⟩
    ·have h80':x<y∨x=y/\t.bas i<=t.bas r:=by
      have h80':(decide (cmpQ ((t.line i).c / -(t.line i).g s) ((t.line r).c / -(t.line r).g s) > 0) || (cmpQ ((t.line i).c / -(t.line i).g s) ((t.line r).c / -(t.line r).g s) == 0 && decide ((t.bas i:Int) > (t.bas r:Int))))=false:=h80
      rw [hx,hy,pcmp_gt,pcmp_eq] at h80'
      simp only [Bool.or_eq_false_iff,Bool.and_eq_false_iff,decide_eq_false_iff_not] at h80'
      obtain ⟨h1,h2⟩:=h80'
      by_cases h3:x<y
      ·exact .inl h3
      ·have h4:y=x:=by grind
       rcases h2 with h2 | h2
       ·exact absurd h4 h2
       ·exact .inr ⟨h4.symm,by omega⟩
     have hk:=hL.less h40'.1 h40'.2 (by rw [hx,hy];exact h80')
     refine G.z7 4 0 1 5 6 15 16 17 ?_
     refine G.rg fun R hR=>?_
     refine D.aq _ ?_
     refine D.q7 1 0 1 5 6 15 16 17 hR ?_
     refine G.ap (m':=t.basic.length-(i+1)) om_ mup (h_7 0 1 5 6 15 16 17) ⟨i+1,(i:Int),qtx ((t.line i).c / -(t.line i).g s),⟨by omega,hk,fun r' hr'=>by rw [show r'=i by omega]⟩,rfl,rfl,rfl⟩
   ·have h54':¬ 0<=o:=by simpa using of_decide_eq_false h54
    have ho1:o=-1:=by
     rcases leaveR_cases hL with h1 | ⟨r,h1,_⟩
     ·exact h1
     ·omega
    subst ho1
    have hk:=hL.first h40'.1 h40'.2
    refine G.z7 4 0 1 5 6 15 16 17 ?_
    refine G.rg fun R hR=>?_
    refine D.aq _ ?_
    refine D.q7 1 0 1 5 6 15 16 17 hR ?_
    refine G.ap (m':=t.basic.length-(i+1)) om_ mup (h_7 0 1 5 6 15 16 17) ⟨i+1,(i:Int),qtx ((t.line i).c / -(t.line i).g s),⟨by omega,hk,fun r' hr'=>by rw [show r'=i by omega]⟩,rfl,rfl,rfl⟩
 ·have hil:i=t.basic.length:=by
   have:=of_decide_eq_false h18
   omega
  refine G.z1 2 4 ?_
  refine G.rf ?_
  exact ⟨rfl,o,rfl,by rw [<- hil];exact hL⟩

def ryF (t:Lp.Tab)(s n:Nat)(k:Rat)(i:Nat):List Rat:=(List.range n).map fun v=>if v∈t.basic.take i then k*t.dir s v else if v=t.oth s then k else 0
theorem ryF_len {t:Lp.Tab}{s n:Nat}{k:Rat}{i:Nat}:(ryF t s n k i).length=n:=by simp [ryF]
theorem ryF_at {t:Lp.Tab}{s n:Nat}{k:Rat}{i v:Nat}(h:v<n):(ryF t s n k i)[v]?=some (if v∈t.basic.take i then k*t.dir s v else if v=t.oth s then k else 0):=by
 unfold ryF
 rw [List.getElem?_map,List.getElem?_range h];rfl
theorem ryF_zero {t:Lp.Tab}{s n:Nat}{k:Rat}(h:n<=t.oth s):List.replicate n 0=ryF t s n k 0:=by
 refine List.ext_getElem? fun v=>?_
 by_cases hv:v<n
 ·rw [ryF_at hv,List.getElem?_replicate,if_pos hv,List.take_zero,if_neg List.not_mem_nil,if_neg om_]
 ·rw [List.getElem?_eq_none (by simp;omega),List.getElem?_eq_none (by rw [ryF_len];omega)]
theorem ryF_one {t:Lp.Tab}{s n:Nat}{k:Rat}(h:t.oth s<n):(List.replicate n 0).set (t.oth s) k=ryF t s n k 0:=by
 refine List.ext_getElem? fun v=>?_
 rw [List.getElem?_set]
 by_cases hv:v<n
 ·rw [ryF_at hv,List.getElem?_replicate,if_pos hv,List.take_zero,if_neg List.not_mem_nil]
  by_cases e:t.oth s=v
  ·rw [if_pos e,if_pos (by simpa using h),if_pos e.symm]
  ·rw [if_neg e,if_neg (fun e2=>e e2.symm)]
 ·rw [if_neg om_,List.getElem?_eq_none (by simp;omega),List.getElem?_eq_none (by rw [ryF_len];omega)]
theorem ryF_set {p:Lp.Sys}{t:Lp.Tab}{s n i:Nat}{k:Rat}(ht:Lp.TabOf p t)(hs:s<t.others.length)(h:i<t.basic.length)(hv:t.bas i<n):(ryF t s n k i).set (t.bas i) (k*(t.line i).g s)=ryF t s n k (i+1):=by
 refine List.ext_getElem? fun v=>?_
 rw [List.getElem?_set,ryF_len]
 by_cases hn:v<n
 ·rw [ryF_at hn,ryF_at hn,take_next h]
  by_cases e:t.bas i=v
  ·subst e
   rw [if_pos rfl,if_pos hn,if_pos (by simp),Lp.dir_bas ht hs h]
  ·rw [if_neg e]
   by_cases hm:v∈t.basic.take i
   ·rw [if_pos hm,if_pos (by simp [hm])]
   ·rw [if_neg hm,if_neg (show ¬ v∈t.basic.take i++[t.bas i] by simp [hm];exact fun h2=>e h2.symm)]
 ·rw [if_neg om_,List.getElem?_eq_none (by rw [ryF_len];omega),List.getElem?_eq_none (by rw [ryF_len];omega)]
theorem ryF_skip {t:Lp.Tab}{s n i:Nat}{k:Rat}(h:i<t.basic.length)(hv:n<=t.bas i):ryF t s n k i=ryF t s n k (i+1):=by
 refine List.map_congr_left fun v hm=>?_
 have hvn:=List.mem_range.1 hm
 rw [take_next h]
 by_cases hm:v∈t.basic.take i
 ·rw [if_pos hm,if_pos (by simp [hm])]
 ·rw [if_neg hm,if_neg (show ¬ v∈t.basic.take i++[t.bas i] by simp [hm];omega)]
theorem ryF_end {p:Lp.Sys}{t:Lp.Tab}{s n:Nat}{k:Rat}(ht:Lp.TabOf p t):ryF t s n k t.basic.length=(List.range n).map fun v=>k*t.dir s v:=by
 refine List.map_congr_left fun v _=>?_
 rw [List.take_length]
 split
 ·rfl
 ·next h =>
  rw [Lp.dir_oth ht h]
  split <;> grind
def rayK (t:Lp.Tab)(s:Nat):Rat:=if 0<t.worth.g s then -1 else 1
theorem qtxm1:qtx (-1)=[45,49]:=by decide +kernel
theorem ray_fn (C:Mem)(hT:Tabs C)(p:Lp.Sys)(b s:Nat)(t:Lp.Tab)(wB wL wO wW:Value)(wF:List Value)(h:TabV C b p.n t wB wL wO wW wF)(ht:Lp.TabOf p t)(hs:s<t.others.length)(hn:p.n<=1000000)(hq:∀ i,i<t.basic.length->QB 1 ((t.line i).g s))(hqw:QB 1 (t.worth.g s)) :
  Jog.Fn cx.P 59 [.pointer (some ⟨b,0,none⟩),.int .i64 s] C [] fun u _ L'=>∃ g,u=.slice (some ⟨g,0,none⟩) p.n p.n/\L'=[.arr u 27 1 p.n (((List.range p.n).map fun v=>rayK t s*t.dir s v).map encR).flatten]:=by
 have ok:=ht.ok
 obtain ⟨A1,c1,rfl,h11,h12,_⟩:=id h.B
 obtain ⟨A2,c2,rfl,h21,h22,_⟩:=id h.L
 obtain ⟨A3,c3,rfl,h31,h32,_⟩:=id h.O
 obtain ⟨A4,c4,rfl,h41,h42,_⟩:=id h.W
 have hsB:=h.B
 have h11':t.basic.length<=c1:=by rwa [List.length_map] at h11
 have hmx:maxLen<=9223372036854775807:=by simp [maxLen]
 have hll:=ok.ll
 have hfl:=h.fl
 have hwl:=ok.wl
 have hqk:QB 1 (rayK t s):=by unfold rayK;split <;> exact ⟨by decide,by decide⟩
 refine Fn.it kr_ Tryz.func59 72 fun w0=>?_
 refine G.z2 1 0 1 ?_
 refine G.z3 1 0 1 5 ?_
 refine G.rp 4 fun R hR=>?_
 refine D.ac (PtrTo.blockT ((h.mono mup).o) _ 1) ?_
 refine D.ae ?_
 refine D.ak (h.W.mono mup) rfl rfl rfl rfl rfl rfl rfl rfl rfl rfl om_ (ct om_) fl_ (fun p16 hp16=>?_)
 refine D.ac hp16 ?_
 refine D.al (eE _ (t.worth.g s) (Nat.le_trans (aZ hqw (by decide)) (by decide))) rfl rfl rfl rfl rfl rfl rfl fl_ ?_
 refine D.q4 1 0 1 5 19 hR ?_
 refine G.bW (fun fr C' L' μ=>(True)/\fr=[(0,[],.pointer (some ⟨b,0,none⟩)),(1,[],.int .i64 s),(5,[],strV (qtx (rayK t s)))]/\L'=[]) ?_ (fun fr C19 L19 μ hle19 hI=>?_)
 ·refine G.cd (fun h19=>?_) fun h19=>?_
  ·have hk:rayK t s=-1:=by
    have h19':0<t.worth.g s:=by
     have h19':decide (0<sgnZ (t.worth.g s).num)=true:=h19
     rw [psgn_pos] at h19'
     exact of_decide_eq_true h19'
    unfold rayK
    rw [if_pos h19']
   refine G.z3 1 0 1 5 ?_
   refine G.ar 0 (Mem.le.refl _) (h_3 0 1 5) ⟨trivial,by rw [hk,qtxm1];rfl,rfl⟩
  ·have hk:rayK t s=1:=by
    have h19':¬ 0<t.worth.g s:=by
     have h19':decide (0<sgnZ (t.worth.g s).num)=false:=h19
     rw [psgn_pos] at h19'
     exact of_decide_eq_false h19'
    unfold rayK
    rw [if_neg h19']
   refine G.ar 0 (Mem.le.refl _) (h_3 0 1 5) ⟨trivial,by rw [hk,qtx1];rfl,rfl⟩
 ·obtain ⟨htriv,rfl,rfl⟩:=hI
  refine G.aA [(4,3)] rfl (fun R hR=>?_)
  refine D.ps 3 ?_
  refine D.ac (PtrTo.blockT ((h.mono mup).o) _ 1) ?_
  refine D.call (pzeros_fn _ p.n hn) rfl (.inr (by decide)) rfl rfl rfl rfl rfl rfl (List.Perm.refl _) fl_ (fun v24 C24 L24 hle24 hq24=>?_)
  refine D.q4 1 0 1 5 6 hR ?_
  obtain ⟨g,rfl,rfl⟩:=hq24
  refine G.aM (L':=[.arr (.slice (some ⟨g,0,none⟩) p.n p.n) 27 1 p.n ((List.replicate p.n (0:Rat)).map encR).flatten]) (by rw [<- rep_enc];rfl) ?_
  refine G.rp 3 fun R hR=>?_
  refine D.ac (PtrTo.blockT ((h.mono mup).o) _ 1) ?_
  refine D.ae ?_
  refine D.ak (h.O.mono mup) rfl rfl rfl rfl rfl rfl rfl rfl rfl rfl om_ (show (t.others.map encN)[s]?=some (encN (t.oth s)) from dA hs) fl_ (fun p30 hp30=>?_)
  refine D.ac hp30 ?_
  refine D.q5 1 0 1 5 6 7 hR ?_
  refine G.rp 2 fun R hR=>?_
  refine D.aj (dF _ b p.n (t.oth s) t _ _ _ _ wF (h.mono mup)) ?_
  refine D.q6 1 0 1 5 6 7 35 hR ?_
  refine G.bW (fun fr C' L' μ=>(True)/\fr=[(0,[],.pointer (some ⟨b,0,none⟩)),(1,[],.int .i64 s),(5,[],strV (qtx (rayK t s))),(6,[],.slice (some ⟨g,0,none⟩) p.n p.n)]/\L'=[.arr (.slice (some ⟨g,0,none⟩) p.n p.n) 27 1 p.n ((ryF t s p.n (rayK t s) 0).map encR).flatten]) ?_ (fun fr C35 L35 μ hle35 hI=>?_)
  ·refine G.cd (fun h35=>?_) fun h35=>?_
   ·have h35':t.oth s<p.n:=by
     have h35':¬ p.n<=t.oth s:=by simpa using h35
     omega
    refine G.rp 3 fun R hR=>?_
    refine D.aD (t.oth s*1) rfl rfl rfl rfl rfl rfl rfl rfl rfl rfl (fun _=>⟨by omega,by omega,rfl⟩) rfl rfl ?_
    refine D.aE (j:=0) rfl rfl rfl rfl rfl rfl rfl rfl rfl rfl rfl (by show t.oth s*1+1<=_;rw [aW aU,List.length_replicate];omega) ?_
    refine D.e4 0 1 5 6 hR ?_
    refine G.aM (L':=[.arr (.slice (some ⟨g,0,none⟩) p.n p.n) 27 1 p.n ((ryF t s p.n (rayK t s) 0).map encR).flatten]) (by rw [<- ryF_one h35',<- aL aU _ (by rw [List.length_replicate];exact h35')];rfl) ?_
    refine G.ar 0 (Mem.le.refl _) (h_4 0 1 5 6) ⟨trivial,rfl,rfl⟩
   ·have h35':p.n<=t.oth s:=by simpa using h35
    rw [ryF_zero (k:=rayK t s) h35']
    refine G.ar 0 (Mem.le.refl _) (h_4 0 1 5 6) ⟨trivial,rfl,rfl⟩
  ·obtain ⟨htriv,rfl,rfl⟩:=hI
   refine G.rp 3 fun R hR=>?_
   refine D.ac (PtrTo.blockT ((h.mono mup).o) _ 1) ?_
   refine D.q7 2 0 1 5 6 43 44 45 hR ?_
   refine G.loop (fun fr C' L' μ=>∃ (i:Nat),(i<=t.basic.length)/\fr=[(0,[],.pointer (some ⟨b,0,none⟩)),(1,[],.int .i64 s),(5,[],strV (qtx (rayK t s))),(6,[],.slice (some ⟨g,0,none⟩) p.n p.n),(43,[],.slice A1 (t.basic.map encN).length c1),(44,[],.int .i64 (t.basic.map encN).length),(45,[],.int .i64 i)]/\L'=[.arr (.slice (some ⟨g,0,none⟩) p.n p.n) 27 1 p.n ((ryF t s p.n (rayK t s) i).map encR).flatten]/\μ=t.basic.length-i) (h_7 0 1 5 6 43 44 45) ⟨0,Nat.zero_le _,rfl,rfl,rfl⟩ (fun fr C0' L0' m hle0 hI=>?_)
   obtain ⟨i,hi,rfl,rfl,rfl⟩:=hI
   refine G.z8 1 0 1 5 6 43 44 45 46 ?_
   refine G.cd (fun h46=>?_) fun h46=>?_
   ·have hil:i<t.basic.length:=by
     have:=of_decide_eq_true h46
     rw [List.length_map] at this
     omega
    obtain ⟨hsf,hfl2⟩:=line_slot h ok hil
    obtain ⟨A5,c5,h50,h51,h52,_⟩:=id hsf
    have hlr:=lslot_at (ls:=t.lines) (ws:=wF) (i:=i) om_ hfl
    rw [h50] at hlr hsf
    refine G.rp 1 fun R hR=>?_
    refine D.ak (hsB.mono mup) rfl rfl rfl rfl rfl rfl rfl rfl rfl rfl om_ (show (t.basic.map encN)[i]?=some (encN (t.bas i)) from dA hil) fl_ (fun p48 hp48=>?_)
    refine D.ac hp48 ?_
    refine D.q9 2 0 1 5 6 8 9 43 44 45 hR ?_
    refine G.rp 2 fun R hR=>?_
    refine D.aj (dF _ b p.n (t.bas i) t _ _ _ _ wF (h.mono mup)) ?_
    refine D.q10 1 0 1 5 6 8 9 43 44 45 53 hR ?_
    refine G.cd (fun h53=>?_) fun h53=>?_
    ·have hv:t.bas i<p.n:=by
      have h53':¬ p.n<=t.bas i:=by simpa using h53
      omega
     refine G.rp 6 fun R hR=>?_
     refine D.ac (PtrTo.blockT ((h.mono mup).o) _ 1) ?_
     refine D.ae ?_
     refine D.ak (h.L.mono mup) rfl rfl rfl rfl rfl rfl rfl rfl rfl rfl om_ hlr fl_ (fun p62 hp62=>?_)
     refine D.d5 hp62 rfl rfl rfl rfl rfl rfl rfl rfl rfl rfl fl_ (fun p63 hp63=>?_)
     refine D.ac hp63 ?_
     refine D.ae ?_
     refine D.ak (hsf.mono mup) rfl rfl rfl rfl rfl rfl rfl rfl rfl rfl om_ (ct om_) fl_ (fun p66 hp66=>?_)
     refine D.ac hp66 ?_
     refine D.al (eG _ (hT.mono mup) (rayK t s) ((t.line i).g s) 1 (by decide) (by decide) hqk (hq i hil)) rfl rfl rfl rfl rfl rfl rfl fl_ ?_
     refine D.aD (t.bas i*1) rfl rfl rfl rfl rfl rfl rfl rfl rfl rfl (fun _=>⟨by omega,by omega,rfl⟩) rfl rfl ?_
     refine D.aE (j:=0) rfl rfl rfl rfl rfl rfl rfl rfl rfl rfl rfl (by show t.bas i*1+1<=_;rw [aW aU,ryF_len];omega) ?_
     refine D.e7 0 1 5 6 43 44 45 hR ?_
     refine G.rg fun R hR=>?_
     refine D.aq _ ?_
     refine D.q7 1 0 1 5 6 43 44 45 hR ?_
     refine G.aM (L':=[.arr (.slice (some ⟨g,0,none⟩) p.n p.n) 27 1 p.n ((ryF t s p.n (rayK t s) (i+1)).map encR).flatten]) (by rw [<- ryF_set ht hs hil hv,<- aL aU _ (by rw [ryF_len];exact hv)];rfl) ?_
     refine G.ap (m':=t.basic.length-(i+1)) om_ hle0 (h_7 0 1 5 6 43 44 45) ⟨i+1,om_,rfl,rfl,rfl⟩
    ·have hv:p.n<=t.bas i:=by simpa using h53
     rw [ryF_skip hil hv]
     refine G.rg fun R hR=>?_
     refine D.aq _ ?_
     refine D.q7 1 0 1 5 6 43 44 45 hR ?_
     refine G.ap (m':=t.basic.length-(i+1)) om_ hle0 (h_7 0 1 5 6 43 44 45) ⟨i+1,om_,rfl,rfl,rfl⟩
   ·have hil:i=t.basic.length:=by
     have:=of_decide_eq_false h46
     rw [List.length_map] at this
     omega
    refine G.z1 2 4 ?_
    refine G.ay (G.dC rfl rfl ?_)
    exact ⟨g,rfl,by rw [hil,ryF_end ht]⟩
end Go.Proofs.YtifolnapeolhcaaGreatDoor
