/- Laws that the proofs of this seat share, part 14. -/
import Derived.Test.YtgfiffppookakaaGreatDoorG13
import Derived.Test.YtgfiffppookakaaGreatDoorShelf
import Derived.Test.YtgfiffppookakaaGreatDoorCards
import Derived.Test.YtgfiffppookakaaGreatDoorTie
import Derived.Stop.LaidErr
import Derived.Lib.LaidTab
import Derived.Carry
import Derived.Deep.Strs
import Derived.Laws.IdiomArrays
set_option maxHeartbeats 4000000
namespace Go.Proofs.YtgfiffppookakaaGreatDoor
open Go Go.Jog
set_option maxRecDepth 100000

def gR (l:List Rel)(i:Int):Rel:=l.getD i.toNat default
theorem uI {l:List Rel}{i:Int}(h0:0<=i)(h1:i<l.length):l[i.toNat]?=some (gR l i)/\(l.map Rel.enc)[i.toNat]?=some (gR l i).enc:=by
 have e:l[i.toNat]?=some (gR l i):=by
  unfold gR;rw [aF,aq om_];rfl
 exact ⟨e,by rw [bX,e];rfl⟩
def zi (l:List Rel)(i:Int):Bool:=decide (0<=i) && decide (i<l.length) && decide (1<=(gR l i).kind) && decide ((gR l i).kind<=3)
theorem nS {l:List Rel}{i:Int}(h:zi l i=true):0<=i/\i<l.length:=by
 unfold zi at h;simp at h;omega
theorem u0 (C:Mem)(v:Value)(l:List Rel)(i:Int)(hv:Sl C 3 v (l.map Rel.enc)):Gives cx.P 31 [v,.int .i64 i] C (.bool (zi l i)):=by
 obtain ⟨A,c,rfl,_⟩:=id hv;simp only [aH] at hv ⊢;refine Fn.it kr_ Tryz.func31 29 fun w0=>?_;refine G.z2 1 0 1 ?_;refine G.rp 7 fun R hR=>?_;refine D.aw ?_;refine D.ps 3 ?_;refine D.index U10 (fun hg=>⟨hv,(by have h:(decide (0<=i) && decide (i<(l.length:Int)))=true:=hg.1;simp at h;omega),(by have h:(decide (0<=i) && decide (i<(l.length:Int)))=true:=hg.1;simp at h;exact (uI h.1 h.2).2)⟩) fl_ Z (fun p16 hp16=>?_);refine D.gu U10 hp16 fl_ Z (fun p17 hp17=>?_);refine D.aN U6 hp17 U3 ?_;refine D.ac ?_;refine D.aw ?_;refine D.ps 3 ?_;refine D.index U10 (fun hg=>⟨hv,(by have h:(decide (0<=i) && decide (i<(l.length:Int)) && decide (1<=(gR l i).kind))=true:=hg.1;simp at h;omega),(by have h:(decide (0<=i) && decide (i<(l.length:Int)) && decide (1<=(gR l i).kind))=true:=hg.1;simp at h;exact (uI h.1.1 h.1.2).2)⟩) fl_ Z (fun p24 hp24=>?_);refine D.gu U10 hp24 fl_ Z (fun p25 hp25=>?_);refine D.aN U6 hp25 U3 ?_;refine D.ac ?_;refine D.aw ?_;refine D.q1 1 4 hR ?_;refine G.rf ?_;exact ⟨Z,Z⟩
def jB (l:List Rel)(ix:Int):Str->List Int->Option Str
 | u,[]=>some u
 | u,i::r=>if zi l i && !(i == ix) && decide ((gR l i).lower=u) then jB l ix (gR l i).upper r else none
def Hy (l:List Rel)(ix:Int)(bs:List Int):Bool:=zi l ix && !(decide (bs.length=0)) && (match jB l ix (gR l ix).lower bs with
 | some u=>decide (u=(gR l ix).upper)
 | none=>false)
theorem o5 (C:Mem)(v vb:Value)(l:List Rel)(ix:Int)(bs:List Int)(hv:Sl C 3 v (l.map Rel.enc))(hb:Sl C 1 vb (bs.map dB)):Gives cx.P 12 [v,.int .i64 ix,vb] C (.bool (Hy l ix bs)):=by
 obtain ⟨A,c,rfl,hl1,hl2,_⟩:=id hv;obtain ⟨Ab,cb,rfl,hb1,hb2,_⟩:=id hb;have hmx:maxLen<=9223372036854775807:=by simp [maxLen]
 simp only [aH] at hv hb hb1 hl1 ⊢;refine Fn.it kr_ Tryz.func12 61 fun w0=>?_;refine G.z3 1 0 1 2 ?_;refine G.rp 2 fun R hR=>?_;refine D.ag (u0 _ _ l ix hv) ?_;refine D.ps 5 ?_;refine D.aI ?_;refine D.e4 0 1 2 18 hR ?_;refine G.cd (fun h18=>?_) fun h18=>?_
 ·have hno:Hy l ix bs=false:=by
   unfold Hy;cases h1:zi l ix with
   | false=>rfl
   | true =>
    rw [h1] at h18;have h2:bs.length=0:=by simpa using h18
    simp [h2]
  refine G.z1 1 6 ?_;refine G.rf ?_;exact ⟨by rw [hno],Z⟩
 ·have h1:zi l ix=true:=by
   cases h1:zi l ix with
   | true=>rfl
   | false=>rw [h1] at h18;cases h18
  have h2:¬ bs.length=0:=by
   rw [h1] at h18;simpa using h18
  obtain ⟨hx0,hx1⟩:=nS h1;have hI:Hy l ix bs=(match jB l ix (gR l ix).lower bs with
   | some u=>decide (u=(gR l ix).upper)
   | none=>false):=by
   unfold Hy;rw [h1];simp [h2]
  refine G.rp 2 fun R hR=>?_;refine D.ak hv.m_ U10 om_ (uI hx0 hx1).2 fl_ (fun p21 hp21=>?_);refine D.di hp21 U10 fl_ (fun p22 hp22=>?_);refine D.aa hp22 ?_;refine D.q4 1 0 1 2 7 hR ?_;refine G.z6 3 0 1 7 24 25 26 ?_;refine G.loop (fun fr C' L' μ=>∃ (k:Nat)(u:Str),(k<=bs.length/\jB l ix (gR l ix).lower bs=jB l ix u (bs.drop k))/\fr=[(0,[],.slice A l.length c),(1,[],.int .i64 ix),(7,[],aA u),(24,[],.slice Ab bs.length cb),(25,[],.int .i64 bs.length),(26,[],.int .i64 k)]/\L'=[]/\μ=bs.length-k) (h_6 0 1 7 24 25 26) ⟨0,(gR l ix).lower,⟨ch _,Z⟩,Z,Z,Z⟩ (fun fr C0' L0' m _ hI=>?_);obtain ⟨k,u,⟨hk,hst⟩,rfl,rfl,rfl⟩:=hI;refine G.z7 1 0 1 7 24 25 26 27 ?_;refine G.cd (fun h27=>?_) fun h27=>?_
  ·have hkl:k<bs.length:=by simpa using h27
   obtain ⟨i,hi⟩:∃ i,bs[k]?=some i:=⟨bs[k],aq hkl⟩;have hrow:(bs.map dB)[k]?=some (dB i):=by rw [bX,hi];rfl
   have hdr:bs.drop k=i::bs.drop (k+1):=by
    rw [K2 hkl];congr 1;exact (aJ.1 hi).2
   refine G.rg fun R hR=>?_;refine D.ak hb.m_ U10 om_ hrow fl_ (fun p28 hp28=>?_);refine D.aa hp28 ?_;refine D.q7 1 0 1 7 9 24 25 26 hR ?_;refine G.rp 2 fun R hR=>?_;refine D.ag (u0 _ _ l i hv.m_) ?_;refine D.ps 5 ?_;refine D.aI ?_;refine D.ps 3 ?_;refine D.index U10 (fun hg=>⟨hv.mono mup,(by have h:(!zi l i || (i == ix))=false:=hg.1;simp at h;exact (nS h.1).1),(by have h:(!zi l i || (i == ix))=false:=hg.1;simp at h;exact (uI (nS h.1).1 (nS h.1).2).2)⟩) fl_ Z (fun p42 hp42=>?_);refine D.gu U10 hp42 fl_ Z (fun p43 hp43=>?_);refine D.aN U6 hp43 U3 ?_;refine D.ps 2 ?_;refine D.aI ?_;refine D.e7 0 1 9 24 25 26 47 hR ?_;refine G.cd (fun h47=>?_) fun h47=>?_
   ·have hno:jB l ix (gR l ix).lower bs=none:=by
     rw [hst,hdr,jB,a7];intro h;simp at h h47;obtain ⟨⟨e1,e2⟩,e3⟩:=h;rw [e1] at h47;simp [e2,e3] at h47
    refine G.z1 1 6 ?_;refine G.rf ?_;exact ⟨by rw [hI,hno],Z⟩
   ·have hok:(zi l i && !(i == ix) && decide ((gR l i).lower=u))=true:=by
     simp at h47;simp [h47.1.1,h47.1.2,h47.2]
    have hin:=nS (l:=l) (i:=i) (by simp at hok;exact hok.1.1);refine G.rp 2 fun R hR=>?_;refine D.ak hv.m_ U10 om_ (uI hin.1 hin.2).2 fl_ (fun p50 hp50=>?_);refine D.di hp50 U10 fl_ (fun p51 hp51=>?_);refine D.aa hp51 ?_;refine D.q6 1 0 1 7 24 25 26 hR ?_;refine G.rg fun R hR=>?_;refine D.ar _ ?_;refine D.q6 1 0 1 7 24 25 26 hR ?_;refine G.ax (m':=bs.length-(k+1)) om_ mup (h_6 0 1 7 24 25 26) ⟨k+1,(gR l i).upper,⟨by omega,by rw [hst,hdr,jB,bW hok]⟩,Z,Z,Z⟩
  ·have hkl:bs.length<=k:=by
    have:¬ k<bs.length:=by simpa using h27
    omega
   refine G.rp 3 fun R hR=>?_;refine D.ak hv.m_ U10 om_ (uI hx0 hx1).2 fl_ (fun p57 hp57=>?_);refine D.di hp57 U10 fl_ (fun p58 hp58=>?_);refine D.aa hp58 ?_;refine D.q1 2 6 hR ?_;refine G.rf ?_;refine ⟨?_,Z⟩;rw [hI,hst,No hkl,jB];simp [HO]
def Jn (N:List Str)(s:Str):Nat:=if s∈N then Ke N s else 0
theorem uz (N:List Str)(s:Str):iM (.int .i64 0) true (dS (atM N 0) s)=.tuple #[.int .i64 (Jn N s),.bool (decide (s∈N))]:=by
 rw [wC];by_cases h:s∈N
 ·simp [h,Jn,iM]
 ·simp [h,Jn,iM]
theorem yq {α:Type}{l:List α}{x:α}(h:l.Nodup)(hx:x ∉ l):(l++[x]).Nodup:=by
 rw [ME];exact ⟨h,by simp,fun a ha b hb e=>by simp only [K5] at hb;subst hb;subst e;exact hx ha⟩
def sS (l:List Rel)(o:List Str)(k:Nat):Bool:=decide ((gR l k).upper∈o) && decide ((gR l k).lower∈o) && !(zi l k && decide (Jn o (gR l k).upper<=Jn o (gR l k).lower))
def ordB (l:List Rel)(o:List Str):Bool:=decide o.Nodup && (List.range l.length).all (sS l o)
theorem tq (C:Mem)(v vo:Value)(l:List Rel)(o:List Str)(hv:Sl C 3 v (l.map Rel.enc))(hvo:Sl C 1 vo (o.map ph)):Gives cx.P 13 [v,vo] C (.bool (ordB l o)):=by
 obtain ⟨A,c,rfl,hl1,hl2,_⟩:=id hv;obtain ⟨Ao,co,rfl,ho1,ho2,_⟩:=id hvo;have hmx:maxLen<=9223372036854775807:=by simp [maxLen]
 simp only [aH] at hv hvo hl1 ho1 ⊢;refine Fn.it kr_ Tryz.func13 73 fun w0=>?_;refine G.z2 1 0 1 ?_;refine G.rg fun R hR=>?_;refine D.makeMap keyS Z Z Z Z fl_ (fun b16=>?_);refine D.q3 1 0 1 5 hR ?_;refine G.z5 3 0 5 17 18 19 ?_;refine G.loop (fun fr C' L' μ=>∃ (k:Nat),(k<=o.length/\(o.take k).Nodup)/\fr=[(0,[],.slice A l.length c),(5,[],.map (some b16)),(17,[],.slice Ao o.length co),(18,[],.int .i64 o.length),(19,[],.int .i64 k)]/\L'=[.obj b16 (bf keyS.enc (atM (o.take k) 0))]/\μ=o.length-k) (h_5 0 5 17 18 19) ⟨0,⟨ch _,by simp⟩,Z,Z,Z⟩ (fun fr C0' L0' m _ hI=>?_);obtain ⟨k,⟨hk,hnd⟩,rfl,rfl,rfl⟩:=hI;refine G.z6 1 0 5 17 18 19 20 ?_;refine G.cd (fun h20=>?_) fun h20=>?_
 ·have hkl:k<o.length:=by simpa using h20
  obtain ⟨s,hs⟩:∃ s,o[k]?=some s:=⟨o[k],aq hkl⟩;have hrs:(o.map ph)[k]?=some (ph s):=by rw [bX,hs];rfl
  have htk:o.take (k+1)=o.take k++[s]:=by rw [xO,hs];rfl
  refine G.rp 1 fun R hR=>?_;refine D.ak hvo.m_ U10 om_ hrs fl_ (fun p22 hp22=>?_);refine D.aa hp22 ?_;refine D.q7 2 0 5 6 7 17 18 19 hR ?_;refine G.rp 2 fun R hR=>?_;refine D.fT keyS (.head _) Z Z Z Z Z Z Z Z kr_ Z (uz (o.take k) s) Z Z ?_;refine D.q8 5 0 5 6 7 9 17 18 19 hR ?_;refine G.z8 1 0 5 6 7 17 18 19 30 ?_;refine G.cd (fun h30=>?_) fun h30=>?_
  ·have h38':s∈o.take k:=by simpa using h30
   have hno:ordB l o=false:=by
    unfold ordB;have hn:¬ o.Nodup:=fun hn=>by
     have h2:=hn.sublist (List.take_sublist (k+1) o);rw [htk,ME] at h2;exact h2.2.2 s h38' s (by simp) Z
    simp [hn]
   refine G.z1 1 4 ?_;refine G.rf ?_;exact ⟨by rw [hno],Z⟩
  ·have h38':s ∉ o.take k:=by simpa using h30
   have hset:=wA (i:=0) h38';rw [<- htk,eB,Lt om_,LO] at hset;refine G.rp 3 fun R hR=>?_;refine D.mapUpdate keyS (j:=0) Z Z Z Z Z Z Z Z Z Z kr_ ?_;refine D.e5 0 5 17 18 19 hR ?_;refine G.rg fun R hR=>?_;refine D.ar _ ?_;refine D.q5 1 0 5 17 18 19 hR ?_;refine G.be (L':=[.obj b16 (bf keyS.enc (atM (o.take (k+1)) 0))]) (by rw [<- hset];rfl) ?_;refine G.ax (m':=o.length-(k+1)) om_ mup (h_5 0 5 17 18 19) ⟨k+1,⟨by omega,by rw [htk];exact yq hnd h38'⟩,Z,Z,Z⟩
 ·have hkl:o.length<=k:=by
   have:¬ k<o.length:=by simpa using h20
   omega
  rw [gG hkl] at hnd ⊢;refine G.z5 3 0 5 35 36 37 ?_;refine G.loop (fun fr C' L' μ=>∃ (k:Nat),(k<=l.length/\∀ j,j<k->sS l o j=true)/\fr=[(0,[],.slice A l.length c),(5,[],.map (some b16)),(35,[],.slice A l.length c),(36,[],.int .i64 l.length),(37,[],.int .i64 k)]/\L'=[.obj b16 (bf keyS.enc (atM o 0))]/\μ=l.length-k) (h_5 0 5 35 36 37) ⟨0,⟨ch _,fun j hj=>by omega⟩,Z,Z,Z⟩ (fun fr C1' L1' m _ hI=>?_);obtain ⟨k,⟨hk2,hall⟩,rfl,rfl,rfl⟩:=hI;refine G.z6 1 0 5 35 36 37 38 ?_;refine G.cd (fun h38=>?_) fun h38=>?_
  ·have hkl2:k<l.length:=by simpa using h38
   have hrx:=(uI (l:=l) (i:=(k:Int)) om_ om_).2;refine G.rp 1 fun R hR=>?_;refine D.ak hv.m_ U10 om_ hrx fl_ (fun p40 hp40=>?_);refine D.aa hp40 ?_;refine D.ai (fun b11=>?_);refine D.ac ?_;refine D.ae (j:=0) ?_;refine D.e7 0 5 10 11 35 36 37 hR ?_;refine G.rp 2 fun R hR=>?_;refine D.af (.head _) ?_;refine D.fT keyS (.tail _ (.head _)) Z Z Z Z Z Z Z Z kr_ Z (uz o (gR l k).upper) Z Z ?_;refine D.q9 5 0 5 10 11 12 13 35 36 37 hR ?_;refine G.rp 2 fun R hR=>?_;refine D.af (.head _) ?_;refine D.fT keyS (.tail _ (.head _)) Z Z Z Z Z Z Z Z kr_ Z (uz o (gR l k).lower) Z Z ?_;refine D.lc 5 0 5 10 12 13 14 15 35 36 37 hR ?_;refine G.rp 5 fun R hR=>?_;refine D.aI ?_;refine D.ps 3 ?_;refine D.aL (fun _=>(u0 _ _ l k hv.m_)) ?_;refine D.ps 4 ?_;refine D.aw ?_;refine D.aI ?_;refine D.e6 0 5 35 36 37 71 hR ?_;refine G.cd (fun h71=>?_) fun h71=>?_
   ·have hkp:sS l o k=false:=by
     unfold sS;cases h1:decide ((gR l k).upper∈o) <;> cases h2:decide ((gR l k).lower∈o) <;> try rfl
     rw [h1,h2] at h71;simp at h71;simp [h71.1,h71.2]
    have hno:ordB l o=false:=by
     unfold ordB;have:((List.range l.length).all (sS l o))=false:=by
      rw [M9];exact ⟨k,Md.2 hkl2,by rw [hkp];decide⟩
     rw [this,Bool.and_false]
    refine G.z1 1 4 ?_;refine G.rf ?_;exact ⟨by rw [hno],Z⟩
   ·have hkp:sS l o k=true:=by
     unfold sS;cases h1:decide ((gR l k).upper∈o) <;> cases h2:decide ((gR l k).lower∈o) <;> rw [h1,h2] at h71 <;> first
      | (simp at h71;done)
      | skip
     simp at h71;simp;cases h3:zi l k with
     | false=>exact .inl rfl
     | true=>exact .inr (by have:=h71 h3;omega)
    refine G.rg fun R hR=>?_;refine D.ar _ ?_;refine D.q5 1 0 5 35 36 37 hR ?_;refine G.eF 0 Z ?_;refine G.ax (m':=l.length-(k+1)) om_ mup (h_5 0 5 35 36 37) ⟨k+1,⟨by omega,fun j hj=>by
     by_cases e:j=k
     ·rw [e];exact hkp
     ·exact hall j om_⟩,Z,Z,Z⟩
  ·have hkl2:l.length<=k:=by
    have:¬ k<l.length:=by simpa using h38
    omega
   refine G.z1 1 4 ?_;refine G.rf ?_;refine ⟨?_,Z⟩;have h1:((List.range l.length).all (sS l o))=true:=by
    rw [ep];exact fun j hj=>hall j (by have:=Md.1 hj;omega)
   unfold ordB;rw [h1];simp [hnd]


def kl:List Rel:=[⟨1,[66],[65]⟩,⟨1,[67],[66]⟩,⟨1,[67],[65]⟩]
theorem kn1 (C:Mem):Gives cx.P 11 [aA [51,47,54]] C (.bool false):=by
 have h:=sH C [51,47,54] dc_;rw [show (cL [51,47,54]).isSome=false by decide +kernel] at h;exact h
theorem kn2 (C:Mem):Gives cx.P 11 [aA [45,51,47,50]] C (.bool true):=by
 have h:=sH C [45,51,47,50] dc_;rw [show (cL [45,51,47,50]).isSome=true by decide +kernel] at h;exact h
theorem ki1 (C:Mem)(v vb:Value)(hv:Sl C 3 v (kl.map Rel.enc))(hb:Sl C 1 vb (([0,1]:List Int).map dB)):Gives cx.P 12 [v,.int .i64 2,vb] C (.bool true):=by
 have h:=o5 C v vb kl 2 [0,1] hv hb;rw [show Hy kl 2 [0,1]=true by decide +kernel] at h;exact h
theorem ki2 (C:Mem)(v vb:Value)(hv:Sl C 3 v (kl.map Rel.enc))(hb:Sl C 1 vb (([1,0]:List Int).map dB)):Gives cx.P 12 [v,.int .i64 2,vb] C (.bool false):=by
 have h:=o5 C v vb kl 2 [1,0] hv hb;rw [show Hy kl 2 [1,0]=false by decide +kernel] at h;exact h
theorem ko1 (C:Mem)(v vo:Value)(hv:Sl C 3 v (kl.map Rel.enc))(ho:Sl C 1 vo (([[65],[66],[67]]:List Str).map ph)):Gives cx.P 13 [v,vo] C (.bool true):=by
 have h:=tq C v vo kl [[65],[66],[67]] hv ho;rw [show ordB kl [[65],[66],[67]]=true by decide +kernel] at h;exact h
theorem ko2 (C:Mem)(v vo:Value)(hv:Sl C 3 v (kl.map Rel.enc))(ho:Sl C 1 vo (([[66],[65],[67]]:List Str).map ph)):Gives cx.P 13 [v,vo] C (.bool false):=by
 have h:=tq C v vo kl [[66],[65],[67]] hv ho;rw [show ordB kl [[66],[65],[67]]=false by decide +kernel] at h;exact h
def kr:List (List Str × Str):=[([[45,49]],[45,49]),([[49]],[51])]
theorem kp1 (C:Mem)(hT:Tabs C)(v vo vp:Value)(A:Option Addr)(n c:Nat)(hv:RowsIn C v kr)(ho:Sl C 1 vo (([[49]]:List Str).map ph))(hp:Sl C 1 vp (([[49]]:List Str).map ph))(hd:Sl C 1 (.slice A n c) (([[49],[48]]:List Str).map ph)):Gives cx.P 14 [v,vo,vp,.agg ⟨[.slice A n c]⟩] C (.bool true):=by
 have h:=oU C hT v vo vp A n c kr [[49]] [[49]] [[49],[48]] hv ho hp hd dc_ dc_ dc_ dc_ dc_ dc_ dc_ dc_;rw [show EI kr [[49]] [[49]] [[49],[48]]=true by decide +kernel] at h;exact h
theorem kp2 (C:Mem)(hT:Tabs C)(v vo vp:Value)(A:Option Addr)(n c:Nat)(hv:RowsIn C v kr)(ho:Sl C 1 vo (([[49]]:List Str).map ph))(hp:Sl C 1 vp (([[50]]:List Str).map ph))(hd:Sl C 1 (.slice A n c) (([[49],[48]]:List Str).map ph)):Gives cx.P 14 [v,vo,vp,.agg ⟨[.slice A n c]⟩] C (.bool false):=by
 have h:=oU C hT v vo vp A n c kr [[49]] [[50]] [[49],[48]] hv ho hp hd dc_ dc_ dc_ dc_ dc_ dc_ dc_ dc_;rw [show EI kr [[49]] [[50]] [[49],[48]]=false by decide +kernel] at h;exact h
theorem wF (C:Mem)(hT:Tabs C):Gives cx.P 4 [] C (.bool true):=by
 refine Fn.it kr_ Tryz.func4 63 fun w0=>?_;refine G.rp 1 fun R hR=>?_;refine D.bA [] trivial (hR _ _ _ Z ?_);refine G.rg fun R hR=>?_;refine D.ap (Rel.mk 1 [66] [65]).enc ?_;refine D.ap (Rel.mk 1 [67] [66]).enc ?_;refine D.ap (Rel.mk 1 [67] [65]).enc ?_;refine D.ah (kl.map Rel.enc) (fun p8 _ _ hs8=>?_);refine D.q1 1 1 hR ?_;refine G.rg fun R hR=>?_;refine D.dw [[aA [45,49]]] U12 fl_ (fun b9 _ _ hs9=>?_);refine D.ap (RV.mk (some ⟨b9,0,none⟩) 1 1 [45,49]).enc ?_;refine D.dw [[aA [49]]] U12 fl_ (fun b11 _ _ hs11=>?_);refine D.ap (RV.mk (some ⟨b11,0,none⟩) 1 1 [51]).enc ?_;refine D.ah [(RV.mk (some ⟨b9,0,none⟩) 1 1 [45,49]).enc,(RV.mk (some ⟨b11,0,none⟩) 1 1 [51]).enc] (fun p13 C13 _ hs13=>?_);refine D.q2 1 1 2 hR ?_;have hri:RowsIn C13 p13 kr:=by
  refine ⟨[⟨some ⟨b9,0,none⟩,1,1,[45,49]⟩,⟨some ⟨b11,0,none⟩,1,1,[51]⟩],hs13,Z, ?_⟩;intro i r row hr hw
  match i with
  | 0=>cases hr;cases hw;exact ⟨hs9.mono mup,rfl⟩
  | 1=>cases hr;cases hw;exact ⟨hs11.mono mup,rfl⟩
  | i+2=>simp at hr
 refine G.rg fun R hR=>?_;refine D.ah [[aA [49]]] (fun p14 _ _ hs14=>?_);refine D.q3 1 1 2 3 hR ?_;refine G.rg fun R hR=>?_;refine D.dw [[aA [49]],[aA [48]]] U12 fl_ (fun b15 _ _ hs15=>?_);refine D.ap [.slice (some ⟨b15,0,none⟩) 2 2] ?_;refine D.ai (fun b4=>?_);refine D.ae (j:=0) ?_;refine D.e4 1 2 3 4 hR ?_;refine G.rg fun R hR=>?_;refine D.ag (kn1 _) ?_;refine D.ps 2 ?_;refine D.aL (fun _=>(kn2 _)) ?_;refine D.aw ?_;refine D.ps 2 ?_;refine D.cJ [[.int .i64 0],[.int .i64 1]] U12 fl_ U2 (fun b24 _ _ hs24=>?_);refine D.aL (fun _=>(ki1 _ _ _ hs8.m_ ((hs24 ⟨Z,trivial⟩).mono mup))) ?_;refine D.aw ?_;refine D.ps 2 ?_;refine D.cJ [[.int .i64 1],[.int .i64 0]] U12 fl_ U2 (fun b29 _ _ hs29=>?_);refine D.aL (fun _=>(ki2 _ _ _ hs8.m_ ((hs29 ⟨Z,trivial⟩).mono mup))) ?_;refine D.ac ?_;refine D.aw ?_;refine D.ps 2 ?_;refine D.cJ [[aA [65]],[aA [66]],[aA [67]]] U12 fl_ U2 (fun b35 _ _ hs35=>?_);refine D.aL (fun _=>(ko1 _ _ _ hs8.m_ ((hs35 ⟨Z,trivial⟩).mono mup))) ?_;refine D.aw ?_;refine D.ps 2 ?_;refine D.cJ [[aA [66]],[aA [65]],[aA [67]]] U12 fl_ U2 (fun b40 _ _ hs40=>?_);refine D.aL (fun _=>(ko2 _ _ _ hs8.m_ ((hs40 ⟨Z,trivial⟩).mono mup))) ?_;refine D.ac ?_;refine D.aw ?_;refine D.ps 4 ?_;refine D.af (.head _) ?_;refine D.aL (fun _=>(kp1 _ hT.m_ _ _ _ _ _ _ hri.m_ hs14.m_ hs14.m_ hs15.m_)) ?_;refine D.aw ?_;refine D.ps 3 ?_;refine D.cJ [[aA [50]]] U12 fl_ U2 (fun b54 _ _ hs54=>?_);refine D.af (.head _) ?_;refine D.aL (fun _=>(kp2 _ hT.m_ _ _ _ _ _ _ hri.m_ hs14.m_ ((hs54 ⟨Z,trivial⟩).mono mup) hs15.m_)) ?_;refine D.ac ?_;refine D.aw ?_;refine D.ac ?_;refine D.ap Jr ?_;refine D.aL (fun _=>(Ht _)) ?_;refine D.aw ?_;refine D.q1 1 0 hR ?_;refine G.rf ?_;exact ⟨Z,Z⟩

structure Sht where
 kd:Nat
 a:Int
 b:Int
 h:Bool
theorem nG {np:Nat}{ds:List Deed}{i:Nat}{e:Evt}(h:(kU np ds)[i]?=some e):∃ d,ds[i]?=some d/\e=bJ np d i:=by
 unfold kU at h;rw [NZ] at h;obtain ⟨d,hd,rfl⟩:=MB.1 h;exact ⟨d,hd,Z⟩
theorem KE (m:Nat)(hm:m<8)(a b:Int)(h:Bool)(ds:List Deed)(hl:ds.length<=3):HisR (fY m a b h) (shT m) gl (kU (fY m a b h).length ds):=by
 have hlen:(kU (fY m a b h).length ds).length=ds.length:=List.length_mapIdx;refine ⟨(x4 m hm a b h).1,fun e he=>?_,by omega,by decide,fun i e he s hs hmem=>?_⟩
 ·obtain ⟨i,hi⟩:=Ma he;obtain ⟨d,hd,rfl⟩:=nG hi;have:=(aJ.1 hd).1;exact HY _ d i om_
 ·obtain ⟨d,hd,rfl⟩:=nG he;have hil:=(aJ.1 hd).1;have hsig:=F5 s hs;rcases cI.1 hmem with rfl | hm2
  ·exact Ej om_ hsig Z
  ·obtain ⟨e2,he2,hs2⟩:=List.mem_flatMap.1 hm2;obtain ⟨j,hj⟩:=Ma he2;rw [Ly] at hj;split at hj
   ·rename_i hji;obtain ⟨d2,hd2,rfl⟩:=nG hj;have:=(aJ.1 hd2).1;have:=I8 om_ om_ hsig (F5 s hs2);omega
   ·cases hj
theorem F4 {np:Nat}(pts:List Pt)(tris:List Tri)(bas:Str):∀ (es:List Evt)(p:V3),(∀ e∈es,EvO np e)->(oF pts tris bas es p).1.length<=es.length/\∀ z∈(oF pts tris bas es p).1, -2<=z/\z<=9
 | [],p,_=>⟨aP _,fun z hz=>by cases hz⟩
 | e::es,p,he=>by
  have hn:=ur (he e (.head _)) pts tris p;obtain ⟨h1,h2⟩:=F4 pts tris bas es (js e p) (fun x hx=>he x (.tail _ hx));cases h:gJ e (dX pts tris e p) with
  | some u =>
   rw [kw h];refine ⟨by simp,fun z hz=>?_⟩;obtain rfl:=K5.1 hz;exact ⟨hn.1,hn.2.2⟩
  | none =>
   rw [oE h];refine ⟨Nat.succ_le_succ h1,fun z hz=>?_⟩;rcases cI.1 hz with rfl | hz
   ·exact ⟨hn.1,hn.2.2⟩
   ·exact h2 z hz
theorem HisIn.form {C:Mem}{v:Value}{pts:List Pt}{tris:List Tri}{bas:Str}{es:List Evt}(h:HisIn C v pts tris bas es):∃ A1 c1 A2 c2 A3 c3,v=.agg ⟨[.slice A1 pts.length c1,.slice A2 tris.length c2,aA bas,.slice A3 es.length c3]⟩:=by
 obtain ⟨v1,v2,A,c,rfl,hm,_⟩:=h;obtain ⟨w1,w2,he,h1,h2⟩:=hm.ex;obtain ⟨A1,c1,rfl,_⟩:=h1;obtain ⟨A2,c2,rfl,_⟩:=h2;simp only [Value.agg.injEq,Array.mk.injEq,MU,N8] at he;obtain ⟨rfl,rfl⟩:=he;exact ⟨A1,c1,A2,c2,A,c,by simp only [aH]⟩
def hisS (pts:List Pt)(tris:List Tri)(bas:Str)(es:List Evt):SPc:=⟨fun v C=>HisIn C v pts tris bas es,fun _ _ _ hl h=>h.mono hl⟩
theorem pset {l:List Int}{i:Nat}(v:Int)(h:i<l.length):aM (l.map dB).flatten [.int .i64 v] i=((l.set i v).map dB).flatten:=by
 have:=bV (enc:=dB) (s:=1) fl_ v h
 rwa [Nl] at this
theorem pget {l:List Int}{i:Nat}(h:i<l.length):((l.map dB).flatten.drop i).take 1=[.int .i64 (l.getD i 0)]:=by
 have:=fm (enc:=dB) (s:=1) fl_ (l:=l) (i:=i) (x:=l.getD i 0) (by rw [aF,aq h];rfl)
 rwa [Nl] at this
theorem prow {l:List Int}{i:Nat}(h:i<l.length):(l.map dB)[((i:Nat):Int).toNat]?=some (dB (l.getD i 0)):=by
 rw [L5,bX,aF,aq h];rfl
theorem Ky (l:List Int):(l.map dB).flatten.length=l.length:=by
 rw [show (l.map dB).flatten=l.map fun z=>Value.int .i64 z from eo _ l,aH]
theorem Kw (l:List Int)(m:Nat):((l.take m).map dB).flatten=((l.map dB).flatten).take (m*1):=by
 rw [show (l.map dB).flatten=l.map fun z=>Value.int .i64 z from eo _ l,show ((l.take m).map dB).flatten=(l.take m).map fun z=>Value.int .i64 z from eo _ _,Nl,Ov]
theorem Eh {p t:List Int}{u v:Str}:((((p.length:Nat):Int) == ((t.length:Nat):Int)) && u == v)=true ↔ p.length=t.length/\u=v/\p.take 0=t.take 0:=by
 rw [bL,Lg,Lg];exact ⟨fun h=>⟨by omega,h.2,Z⟩,fun h=>⟨by omega,h.2.1⟩⟩
theorem G1 {p t:List Int}{u v:Str}{i:Nat}{sm:Bool}(hi:i<p.length)(h:sm=true ↔ p.length=t.length/\u=v/\p.take i=t.take i)(hs:sm=true):((p.getD i 0 == t.getD i 0)=true) ↔ p.length=t.length/\u=v/\p.take (i+1)=t.take (i+1):=by
 obtain ⟨h1,h2,h3⟩:=h.1 hs;have hi2:i<t.length:=by omega
 rw [Lg,xO,xO,h3,aq hi,aq hi2,aF,aF,aq hi,aq hi2,NG,NG];exact ⟨fun e=>⟨h1,h2,by rw [e]⟩,fun g=>by have:=List.append_cancel_left g.2.2;simpa using this⟩
theorem I7 {p t:List Int}{u v:Str}{i:Nat}{sm:Bool}(hi:i<=p.length)(h:sm=true ↔ p.length=t.length/\u=v/\p.take i=t.take i)(hc:(decide (((i:Nat):Int)<((p.length:Nat):Int)) && sm)=false):sm=true ↔ p=t/\u=v:=by
 constructor
 ·intro hs;obtain ⟨h1,h2,h3⟩:=h.1 hs;rw [hs,Bool.and_true,Lc] at hc;rw [gG om_,gG om_] at h3;exact ⟨h3,h2⟩
 ·rintro ⟨rfl,rfl⟩;exact h.2 ⟨Z,Z,Z⟩
theorem BC (C:Mem)(hT:Tabs C)(S:Sht)(A:Option Addr)(c:Nat)(ds:List Deed)(x y z:Int)(how at_:Nat)(by':Int)(sb:Str)(hk:S.kd<256)(hds:Sl C 12 (.slice A ds.length c) (ds.map jY))(hdr:∀ d∈ds,DeedR d)
  (hx:-128<=x/\x<=127) (hy:-128<=y/\y<=127) (hz:-128<=z/\z<=127) (_hh:how<256) (ha:at_<256) (hb:-128<=by'/\by'<=127) :
  Gives cx.P 3 [.agg ⟨[.int .u8 S.kd,.int .i8 S.a,.int .i8 S.b,.bool S.h,.slice A ds.length c]⟩,.agg ⟨[.int .i8 x,.int .i8 y,.int .i8 z]⟩,.agg ⟨[.int .u8 how,.int .u8 at_,.int .i8 by',aA sb]⟩] C (.bool true):=by
 have hmx:maxLen<=9223372036854775807:=by simp [maxLen]
 obtain ⟨P,hP⟩:∃ P,fY (S.kd % 8) S.a S.b S.h=P:=⟨_,rfl⟩;obtain ⟨Q,hQ⟩:∃ Q,shT (S.kd % 8)=Q:=⟨_,rfl⟩;obtain ⟨q,hq⟩:∃ q,Kf S.a S.b S.h x y z=q:=⟨_,rfl⟩;obtain ⟨E,hE⟩:∃ E,kU P.length ds=E:=⟨_,rfl⟩;obtain ⟨T,hTr⟩:∃ T,oF P Q gl E.reverse q=T:=⟨_,rfl⟩;have hpl:PlR 0 q:=by rw [<- hq];exact Kx S.a S.b S.h hx hy hz
 have hmk:∀ D,C.le D->ds.length<=3->Pur cx.P 6 [.agg ⟨[.int .u8 S.kd,.int .i8 S.a,.int .i8 S.b,.bool S.h,.slice A ds.length c]⟩] D fun u F=>HisIn F u P Q gl E:=fun D hle hl=>by
  have:=BA D (hT.mono hle) S.kd S.a S.b S.h hk A c ds (hds.mono hle) hdr hl
  rwa [hP,hQ,hE] at this
 have hpk:∀ D,C.le D->Gives cx.P 7 [.agg ⟨[.int .u8 S.kd,.int .i8 S.a,.int .i8 S.b,.bool S.h,.slice A ds.length c]⟩,.agg ⟨[.int .i8 x,.int .i8 y,.int .i8 z]⟩] D (vV q):=fun D hle=>by
  have:=yk D (hT.mono hle) S.kd S.a S.b S.h (.slice A ds.length c) x y z hx hy hz
  rwa [hq] at this
 refine Fn.it kr_ Tryz.func3 141 fun w0=>?_;refine G.rg fun R hR=>?_;refine D.aD (fun b3=>?_);refine D.aD (fun b4=>?_);refine D.aD (fun b5=>?_);refine D.q3 1 3 4 5 hR ?_;clear hR R;refine G.freeze 2 Z (fun _ _ hb3=>?_);refine G.freeze 1 Z (fun _ _ hb4=>?_);refine G.freeze 0 Z (fun _ _ hb5=>?_);refine G.rg fun R hR=>?_;refine D.ag (wF _ hT.m_) ?_;refine D.ps 2 ?_;refine D.aN U6 (fun _=>PtrTo.blockT (Mem.get hb3 mup) _ 5) U3 ?_;refine D.aL (fun _=>(Co _ _ A ds.length c ⟨_,_,_,_,Z⟩)) ?_;refine D.ac ?_;refine D.aI ?_;refine D.ps 2 ?_;refine D.aN U6 (fun _=>PtrTo.blockT (Mem.get hb5 mup) _ 1) U3 ?_;refine D.ps 2 ?_;refine D.aI ?_;refine D.e4 3 4 5 27 hR ?_;clear hR R;refine G.cd (fun h27=>?_) fun h27=>?_
 ·refine G.rg fun R hR=>?_;refine D.ag (wF _ hT.m_) ?_;refine D.q1 1 6 hR ?_;clear hR R;refine G.rf ?_;exact ⟨Z,Z⟩
 ·rw [LU,LU] at h27;have hl3:ds.length<=3:=by have:=h27.1.2;simpa using this
  have hHR:HisR P Q gl E:=by
   have:=KE (S.kd % 8) (K9 _ dc_) S.a S.b S.h ds hl3
   rwa [hP,hQ,hE] at this
  have hEl:=hHR.l;obtain ⟨hTl,hTb⟩:=F4 P Q gl E.reverse q (fun e he=>hHR.e e (List.mem_reverse.1 he));rw [hTr] at hTl hTb;rw [Ng] at hTl;have hacc:∀ (p2:List Int)(u2:Str),pC P Q gl E.reverse q p2 u2=true ↔ p2=T.1/\u2=T.2.1:=fun p2 u2=>by rw [DC,hTr]
  have hTg:∀ i, -2<=T.1.getD i 0/\T.1.getD i 0<=9:=fun i=>by
   rw [aF];cases h:T.1[i]? with
   | none=>decide
   | some z=>exact hTb z (ba h)
  refine G.cB [0,2,3] [] [(1,[]),(4,[]),(5,[]),(6,[]),(7,[5,1]),(8,[6,4])] [(1,[]),(4,[])] [(4,1),(0,0),(2,0),(3,0)] Z kr_ (fun R hB hS=>?_);refine D.am (fun _=>((bkT hb3 5).mono hB)) ?_;refine D.am (fun _=>((bkT hb3 5).mono hB)) ?_;refine D.am (fun _=>((bkT hb4 3).mono hB)) ?_;refine hS [⟨5,7,1,40,[.slice none 0 0,.slice none 0 0,aA [],.slice none 0 0]⟩,⟨6,8,4,44,[aA [],aA [],aA []]⟩] (fun iq vq Cz=>(bn [(1,hisS P Q gl E),(4,JK (vV q))] iq).1 vq Cz) kr_ (fun iq vq Cz Cy hl h=>(bn _ iq).2 vq Cz Cy hl h) Z ⟨?_, ?_,trivial⟩ ⟨?_, ?_, ?_, ?_,trivial⟩ (fun R2 hB2 hR Cq hleq=>?_)
  ·intro Rq Cq Lq hleq fin;refine D.az (hmk _ mup hl3) (fun v30 _ _ hq30=>?_);exact fin _ _ _ mup (fun d hd=>by cases hd;rfl) hq30
  ·intro Rq Cq Lq hleq fin;refine D.aL (fun _=>(hpk _ mup)) ?_;exact fin _ _ _ mup (fun d hd=>by cases hd;rfl) Z
  ·intro Rq Cq Lq hleq fin;refine D.ai (fun bq=>?_);exact fin _ bq (fun d hd=>by cases hd;rfl)
  ·intro Rq Cq Lq bq v30 hleq hq30 fin;obtain ⟨A1,c1,A2,c2,A3,c3,rfl⟩:=HisIn.form hq30;refine D.ae (j:=0) ?_;exact fin _
  ·intro Rq Cq Lq hleq fin;refine D.ai (fun bq=>?_);exact fin _ bq (fun d hd=>by cases hd;rfl)
  ·intro Rq Cq Lq bq v33 hleq hq33 fin;obtain rfl:=hq33;refine D.ae (j:=0) ?_;exact fin _
  intro v30 hq30 v33 hq33 v7 hq7 v8 hq8 _ _ _ _;obtain ⟨b7,rfl⟩:=hq7;obtain ⟨b8,rfl⟩:=hq8;have hHI:HisIn Cq v30 P Q gl E:=hq30;obtain ⟨A1,c1,A2,c2,A3,c3,rfl⟩:=HisIn.form hHI;obtain rfl:=hq33;refine D.e3 5 7 8 hR ?_;clear hR R2 hS hB2 hB R;refine G.be (L':=[.obj b7 (.cells ⟨[.slice A1 P.length c1,.slice A2 Q.length c2,aA gl,.slice A3 E.length c3]⟩ 40 (0,0)),.obj b8 (.cells ⟨nB q⟩ 44 (0,0))]) Z ?_;refine G.freeze 0 Z (fun _ _ hb7=>?_);refine G.freeze 0 Z (fun _ _ hb8=>?_);refine G.rg fun R hR=>?_;refine D.aa (bkT hb7 4) ?_;refine D.ag (sU _ hT.m_ _ P Q gl E hHI.m_ hHR) ?_;refine D.q4 1 5 7 8 36 hR ?_;clear hR R;refine G.cd (fun h36=>?_) fun h36=>?_
  ·exact absurd h36 dc_
  ·refine G.rg fun R hR=>?_;refine D.aa (bkT hb7 4) ?_;refine D.aa (bkT hb8 3) ?_;refine D.az (yE _ hT.m_ _ P Q gl E hHI.m_ hHR q hpl T hTr) (fun v40 _ _ hq40=>?_);obtain ⟨A9,n9,c9,rfl,hs9⟩:=hq40;obtain ⟨_,_,e9,_⟩:=id hs9;cases e9
   simp only [aH] at hs9 ⊢;refine D.ps 3 ?_;refine D.ai (fun b9=>?_);refine D.ae (j:=0) ?_;refine D.q5 1 5 7 8 9 10 hR ?_;clear hR R;refine G.freeze 0 Z (fun _ _ hb9=>?_);refine G.rp 3 fun R hR=>?_;refine D.aN U6 (fun _=>PtrTo.blockT (Mem.get hb7 mup) _ 4) U3 ?_;refine D.aN U6 (fun _=>PtrTo.blockT (Mem.get hb8 mup) _ 3) U3 ?_;refine D.ac ?_;refine D.aN U6 (fun _=>PtrTo.blockT (Mem.get hb9 mup) _ 1) U3 ?_;refine D.ac ?_;refine D.aN U6 (fun _=>PtrTo.blockT (Mem.get hb9 mup) _ 1) U3 ?_;refine D.aL (fun _=>(w5 _ hT.m_ _ P Q gl E hHI.m_ hHR q hpl T.1 A9 c9 hs9.m_ T.2.1)) ?_;refine D.ac ?_;refine D.aI ?_;refine D.e5 5 7 8 9 54 hR ?_;clear hR R;refine G.cd (fun h54=>?_) fun h54=>?_
   ·rw [(hacc T.1 T.2.1).2 ⟨rfl,rfl⟩] at h54;exact absurd h54 dc_
   ·refine G.aG [1,2,4,5,0,3,6,7] [(2,0),(5,0)] Z kr_ (fun R hB hR=>?_);refine D.ac ?_;refine D.am (fun _=>((bkT hb9 1).mono hB)) ?_;refine D.ac ?_;refine D.am (fun _=>((bkT hb9 1).mono hB)) ?_;refine D.ec [] U12 fl_ (fun b55=>?_);refine D.aQ (j:=0) U11 hs9.m_ (by rw [List.all_map];exact ep.2 fun _ _=>rfl) (by simp only [aH,J8,maxLen];omega) (by simp only [aH,J8];omega) fl_ (fun A58 n58 c58=>?_);refine D.ps 2 ?_;refine D.e6 5 7 8 9 11 12 hR ?_;clear hR hB R;refine G.be (L':=[.arr (.slice A58 n58 c58) 3 1 T.1.length (T.1.map dB).flatten]) (by simp) ?_;refine G.pG 0 Z (fun A59 c59 hv59=>?_);injection hv59 with f1 f2 f3;subst f2;refine G.rp 1 fun R hR=>?_;refine D.aa (bkT hb5 1) ?_;refine D.dV (how) (4) U6 om_ U2 ?_;refine D.e7 5 7 8 9 11 12 63 hR ?_;clear hR R;refine G.z8 2 5 7 8 9 11 12 63 66 ?_;refine G.cut (fun fr C' L' μ=>∃ (w:Value)(p2:List Int)(u2:Str),(p2.length<=4)/\fr=[(7,[],.pointer (some ⟨b7,0,none⟩)),(8,[],.pointer (some ⟨b8,0,none⟩)),(9,[],.pointer (some ⟨b9,0,none⟩)),(11,[],w),(12,[],aA u2)]/\L'=[.arr w 3 1 p2.length (p2.map dB).flatten]) ?_ (fun fr _ L66 μ _ hI=>?_)
    ·refine G.cd (fun h66=>?_) fun h66=>?_
     ·refine G.z7 3 5 7 8 9 11 12 70 ?_;refine G.cd (fun h70=>?_) fun h70=>?_
      ·have h70:0<T.1.length:=by have hL58:=bi h70;omega
       obtain ⟨m,hm⟩:∃ m,T.1.length=m+1:=⟨T.1.length-1,by omega⟩;refine G.nU 0 (m:=m) (by rw [<- hm];rfl) (fun g cg hv=>?_);injection hv with e1 e2 e3;subst e1;have hix:at_ % T.1.length<T.1.length:=K9 _ h70;have hg:=hTg (at_ % T.1.length);refine G.aG [0,1,2,3,4,5,6,7,8,9,10,11,12,13,14] [(3,0),(11,0)] Z kr_ (fun R hB hR=>?_);refine D.ps 2 ?_;refine D.aa (bkT hb5 1) ?_;refine D.bS (c:=(at_:Int)) U8 (wrap_i64 om_ om_) U2 ?_;refine D.ps 2 ?_;refine D.dV (at_) (T.1.length) U6 h70 U2 ?_;refine D.bu ((at_ % T.1.length)) U10 (fun _=>⟨by omega,by omega,(by show at_ % T.1.length=(at_ % T.1.length)*1;omega)⟩) U2 ?_;refine D.er (.head _) U6 (fun _=>(show bR _ (((T.1.map dB).flatten.drop (at_ % T.1.length)).take 1)=some (.int .i64 (T.1.getD (at_ % T.1.length) 0)) from by rw [pget hix];rfl)) U2 ?_;refine D.ac ?_;refine D.aa (bkT hb5 1) ?_;refine D.bS (c:=by') U8 (wrap_i64 om_ om_) U2 ?_;refine D.ar _ ?_;refine D.bu ((at_ % T.1.length)) U10 (fun _=>⟨by omega,by omega,(by show at_ % T.1.length=(at_ % T.1.length)*1;omega)⟩) U2 ?_;refine D.bE (j:=0) U11 (by rw [Ky];exact hix) ?_;refine D.e5 7 8 9 11 12 hR ?_;clear hR hB R;refine G.be (L':=[.arr (.slice (some ⟨g,0,none⟩) T.1.length c58) 3 1 (T.1.set (at_ % T.1.length) (T.1.getD (at_ % T.1.length) 0+by')).length ((T.1.set (at_ % T.1.length) (T.1.getD (at_ % T.1.length) 0+by')).map dB).flatten]) (by rw [Nx,<- pset _ hix];rfl) ?_;refine G.aK 0 (Mem.le.refl _) (h_5 7 8 9 11 12) ⟨_,T.1.set (at_ % T.1.length) (T.1.getD (at_ % T.1.length) 0+by'),T.2.1,by rw [Nx];omega,Z,Z⟩
      ·refine G.aK 0 (Mem.le.refl _) (h_5 7 8 9 11 12) ⟨_,T.1,T.2.1,by omega,Z,Z⟩
     ·refine G.z8 2 5 7 8 9 11 12 63 85 ?_;refine G.cd (fun h85=>?_) fun h85=>?_
      ·refine G.rp 2 fun R hR=>?_;refine D.aa (bkT hb5 1) ?_;refine D.bT (c:=by') U8 (wrap_i64 om_ om_) fl_ ?_;refine D.buildSlice [dB by'] Z Z Z Z Z Z Z Z Z Z Z Z fl_ (fun p91 _ _ hs91=>?_);refine D.aQ (j:=0) U11 hs91.m_ Z (by simp only [bz,maxLen];omega) (by simp only [bz];omega) fl_ (fun A92 n92 c92=>?_);refine D.q5 1 7 8 9 11 12 hR ?_;clear hR R;refine G.be (L':=[.arr (.slice A92 n92 c92) 3 1 (T.1++[by']).length ((T.1++[by']).map dB).flatten]) (by rw [LC,LK,eh];rfl) ?_;refine G.aK 0 mup (h_5 7 8 9 11 12) ⟨_,T.1++[by'],T.2.1,by rw [eh,bz];omega,Z,Z⟩
      ·refine G.z7 2 5 7 8 9 11 12 93 ?_;refine G.cd (fun h93=>?_) fun h93=>?_
       ·refine G.z6 3 7 8 9 11 12 97 ?_;refine G.cd (fun h97=>?_) fun h97=>?_
        ·have h97:0<T.1.length:=by have hL58:=bi h97;omega
         obtain ⟨m,hm⟩:∃ m,T.1.length=m+1:=⟨T.1.length-1,by omega⟩;refine G.nU 0 (m:=m) (by rw [<- hm];rfl) (fun g cg hv=>?_);injection hv with e1 e2 e3;subst e1;refine G.FO 0 Z (fun hlc hcm=>?_);refine G.rp 3 fun R hR=>?_;refine D.cf (((m:Nat):Int)) U4 om_ om_ om_ U2 ?_;refine D.fp 0 m c58 U12 (fun _=>⟨.inl ⟨Z,Z⟩,.inr ⟨_,Z⟩,.inl ⟨Z,Z⟩,ch _,by omega,aP _⟩) U2 ?_;rw [show (if c58=0 then some (⟨g,0,none⟩:Addr) else (some (⟨g,0,none⟩:Addr)).map (fun x=>x.add (0*1)))=some ⟨g,0,none⟩ from by split <;> simp [Addr.add_lit]];refine D.q5 1 7 8 9 11 12 hR ?_;clear hR R;refine G.FN 0 m Z om_ ?_;refine G.be (L':=[.arr (.slice (some ⟨g,0,none⟩) m c58) 3 1 (T.1.take m).length ((T.1.take m).map dB).flatten]) (by rw [eB,Lt om_,Kw];rfl) ?_;refine G.aK 0 (Mem.le.refl _) (h_5 7 8 9 11 12) ⟨_,T.1.take m,T.2.1,by rw [eB];omega,Z,Z⟩
        ·refine G.aK 0 (Mem.le.refl _) (h_5 7 8 9 11 12) ⟨_,T.1,T.2.1,by omega,Z,Z⟩
       ·refine G.rp 1 fun R hR=>?_;refine D.aa (bkT hb5 1) ?_;refine D.q5 1 7 8 9 11 12 hR ?_;clear hR R;refine G.aK 0 (Mem.le.refl _) (h_5 7 8 9 11 12) ⟨_,T.1,sb,by omega,Z,Z⟩
    ·obtain ⟨w ,p2 ,u2,hp2,rfl,rfl⟩:=hI;refine G.freezeArr 0 (p2.map dB) U2 (by intro r hr;obtain ⟨y,_,rfl⟩:=j5.1 hr;rfl) (by rw [aH]) (fun _ hg2 hs2=>?_);obtain ⟨Aw,cw,rfl,_⟩:=id hs2;simp only [aH] at hs2 ⊢;refine G.rp 3 fun R hR=>?_;refine D.aa (bkT hb9 1) ?_;refine D.ps 5 ?_;refine D.aN U6 (fun _=>PtrTo.blockT (Mem.get hb9 mup) _ 1) U3 ?_;refine D.ac ?_;refine D.aw ?_;refine D.q6 1 7 8 9 11 12 13 hR ?_;clear hR R;refine G.z7 1 7 8 9 11 12 13 14 ?_;refine G.loop (fun fr C' L' μ=>∃ (i:Nat)(sm:Bool),(i<=p2.length/\(sm=true ↔ p2.length=T.1.length/\u2=T.2.1/\p2.take i=T.1.take i))/\fr=[(7,[],.pointer (some ⟨b7,0,none⟩)),(8,[],.pointer (some ⟨b8,0,none⟩)),(9,[],.pointer (some ⟨b9,0,none⟩)),(11,[],.slice Aw p2.length cw),(12,[],aA u2),(13,[],.bool sm),(14,[],.int .i64 i)]/\L'=[]/\μ=p2.length-i) (h_7 7 8 9 11 12 13 14) ⟨0,_,⟨ch _,Eh⟩,Z,Z,Z⟩ (fun fr C0' L0' m _ hI=>?_);obtain ⟨i,sm,⟨hi,hsm⟩,rfl,rfl,rfl⟩:=hI;refine G.rp 6 fun R hR=>?_;refine D.aw ?_;refine D.e8 7 8 9 11 12 13 14 121 hR ?_;clear hR R;refine G.cd (fun h121=>?_) fun h121=>?_
     ·rw [bL,cH] at h121;have hil:i<p2.length:=by omega
      obtain ⟨hs1,hs22,_⟩:=hsm.1 h121.2;refine G.aG [0,1,2,3,4,5,6,7,8,9,10] [] Z kr_ (fun R hB hR=>?_);refine D.ps 2 ?_;refine D.ak hs2.m_ U10 om_ (prow hil) fl_ (fun p126 hp126=>?_);refine D.aa hp126 ?_;refine D.ac ?_;refine D.aa (bkT hb9 1) ?_;refine D.ac ?_;refine D.ak hs9.m_ U10 om_ (prow (show i<T.1.length by omega)) fl_ (fun p131 hp131=>?_);refine D.aa hp131 ?_;refine D.ps 2 ?_;refine D.e7 7 8 9 11 12 13 14 hR ?_;clear hR hB R;refine G.rp 1 fun R hR=>?_;refine D.ar _ ?_;refine D.q7 1 7 8 9 11 12 13 14 hR ?_;clear hR R;refine G.ax (m':=p2.length-(i+1)) om_ mup (h_7 7 8 9 11 12 13 14) ⟨i+1,_,⟨hil,G1 hil hsm h121.2⟩,Z,Z,Z⟩
     ·have hend:=I7 hi hsm h121;refine G.rg fun R hR=>?_;refine D.aa (bkT hb7 4) ?_;refine D.aa (bkT hb8 3) ?_;refine D.ps 2 ?_;refine D.ag (w5 _ hT.m_ _ P Q gl E hHI.m_ hHR q hpl p2 Aw cw hs2.m_ u2) ?_;refine D.q1 3 6 hR ?_;clear hR R;refine G.rf ?_;refine ⟨congrArg Value.bool ?_,Z⟩;have hac:=hacc p2 u2;rw [<- hend] at hac;rw [Lg,Mq];exact hac
open Go Go.Jog Go.ChangeShapes Go.WideShapes Go.ChangeAt Go.RowKit
set_option maxRecDepth 100000

theorem own:ownKnob Tryz.prog.godebug=none:=by kernel_rfl
section
variable {H:Type} {enc:TypeId × Value->H} {W:World} {spare:Nat->Bool} {held:Bool}
theorem Ko {n:Nat}{c:Value}{y:DataW H × List MemPlace}(h:DataW.trod enc Tryz.prog W 0 spare held n 5 [c]=some y):∃ b:UInt8,c=.int .u8 b.toNat:=by
 obtain ⟨m,h1,_,h3⟩:=DataW.trod_int Tryz.underlying5 h;simp only [MU,N8] at h1;subst h1;have hb:0<=m/\m<256:=by
  simp [Lit.wf,IntKind.min,IntKind.max,IntKind.signed,IntKind.bits] at h3;omega
 refine ⟨UInt8.ofNat m.toNat, ?_⟩;congr 1;simp only [Oa];omega
theorem lg {n:Nat}{c:Value}{y:DataW H × List MemPlace}(h:DataW.trod enc Tryz.prog W 0 spare held n 5 [c]=some y):∃ m:Nat,c=.int .u8 m/\m<256:=by
 obtain ⟨b,rfl⟩:=Ko h;exact ⟨b.toNat,Z,b.toNat_lt⟩
theorem uE {n:Nat}{c:Value}{y:DataW H × List MemPlace}(h:DataW.trod enc Tryz.prog W 0 spare held n 22 [c]=some y):∃ m:Int,c=.int .i8 m/\-128<=m/\m<=127:=by
 obtain ⟨m,h1,_,h3⟩:=DataW.trod_int Tryz.underlying22 h;simp only [MU,N8] at h1;refine ⟨m,h1, ?_⟩;simp [Lit.wf,IntKind.min,IntKind.max,IntKind.signed,IntKind.bits] at h3;omega
theorem H9 {n:Nat}{c:Value}{y:DataW H × List MemPlace}(h:DataW.trod enc Tryz.prog W 0 spare held n 4 [c]=some y):∃ b:Bool,c=.bool b:=by
 obtain ⟨b,h1,_⟩:=DataW.trod_bool Tryz.underlying4 h;simp only [MU,N8] at h1;exact ⟨b,h1⟩
theorem Dr {t e:TypeId}{k n:Nat}{cs:List Value}{y:DataW H × List MemPlace}(ht:Tryz.prog.underlying t=some (.array k e))(he:Tryz.prog.cellsOf e=1)(h:DataW.trod enc Tryz.prog W 0 spare held n t cs=some y) :
  ∃ m,∀ i,i<k->∃ z,DataW.trod enc Tryz.prog W 0 spare held m e ((cs.drop i).take 1)=some z:=by
 obtain ⟨xs,m,_,_,_,hx,hf⟩:=DataW.trod_array ht h;refine ⟨m,fun i hi=>?_⟩;have h1:=hf i hi;rw [he,Nl] at h1;rw [h1,aq om_];exact ⟨_,Z⟩
theorem j3:Tryz.prog.cellsOf 5=1:=by kernel_rfl
theorem lZ:Tryz.prog.cellsOf 22=1:=by kernel_rfl
theorem y7:Tryz.prog.cellsOf 4=1:=by kernel_rfl
theorem Da:Tryz.prog.cellsOf 23=2:=by kernel_rfl
theorem Fw:Tryz.prog.cellsOf 29=3:=by kernel_rfl
theorem En {n:Nat}{c0 c1 c2 c3:Value}{y:DataW H × List MemPlace}(h:DataW.trod enc Tryz.prog W 0 spare held n 25 [c0,c1,c2,c3]=some y):∃ S:Sht,[c0,c1,c2,c3]=([.int .u8 S.kd,.int .i8 S.a,.int .i8 S.b,.bool S.h]:List Value)/\S.kd<256:=by
 obtain ⟨y0,y1,y2,n',_,hl,h0,h1,h2⟩:=Go.Deep.trod_struct3 Tryz.underlying25 h;simp only [j3,Da,y7] at h0 h1 h2;obtain ⟨kd,rfl,hk⟩:=lg h0;obtain ⟨m,ha⟩:=Dr Tryz.underlying23 lZ h1;obtain ⟨z0,e0⟩:=ha 0 dc_;obtain ⟨z1,e1⟩:=ha 1 dc_;obtain ⟨a,rfl,_⟩:=uE e0;obtain ⟨b,rfl,_⟩:=uE e1;obtain ⟨hh,rfl⟩:=H9 h2;exact ⟨⟨kd,a,b,hh⟩,Z,hk⟩
theorem rZ {P:Program}{t:TypeId}{f0 f1 f2 f3 f4:Field}{fuel:Nat}{cs:List Value}{x:DataW H × List MemPlace}(ht:P.underlying t=some (.struct #[f0,f1,f2,f3,f4]))(h:DataW.trod enc P W 0 spare held fuel t cs=some x) :
  ∃ y0 y1 y2 y3 y4 n,DataW.trod enc P W 0 spare held n f0.type ((cs.drop f0.offset).take (P.cellsOf f0.type))=some y0/\DataW.trod enc P W 0 spare held n f1.type ((cs.drop f1.offset).take (P.cellsOf f1.type))=some y1/\DataW.trod enc P W 0 spare held n f2.type ((cs.drop f2.offset).take (P.cellsOf f2.type))=some y2 /\
   DataW.trod enc P W 0 spare held n f3.type ((cs.drop f3.offset).take (P.cellsOf f3.type))=some y3/\DataW.trod enc P W 0 spare held n f4.type ((cs.drop f4.offset).take (P.cellsOf f4.type))=some y4:=by
 obtain ⟨xs,n,_,rfl,hl,hlen,hf⟩:=DataW.trod_struct ht h
 match xs,hlen with
 | [y0,y1,y2,y3,y4],_=>exact ⟨y0,y1,y2,y3,y4,n,by simpa using hf 0 f0 rfl,by simpa using hf 1 f1 rfl,by simpa using hf 2 f2 rfl,by simpa using hf 3 f3 rfl,by simpa using hf 4 f4 rfl⟩
theorem Fv:Tryz.prog.cellsOf 74=4:=by kernel_rfl
theorem BZ {t:TypeId}{n:Nat}{cs:List Value}{y:DataW H × List MemPlace}(ht:Tryz.prog.underlying t=some (.array 3 22))(h:DataW.trod enc Tryz.prog W 0 spare held n t cs=some y)(hl:cs.length=3):∃ a b c:Int,cs=[.int .i8 a,.int .i8 b,.int .i8 c]/\(-128<=a/\a<=127)/\(-128<=b/\b<=127)/\(-128<=c/\c<=127):=by
 match cs,hl with
 | [c0,c1,c2],_ =>
  obtain ⟨m,ha⟩:=Dr ht lZ h;obtain ⟨z0,e0⟩:=ha 0 dc_;obtain ⟨z1,e1⟩:=ha 1 dc_;obtain ⟨z2,e2⟩:=ha 2 dc_;obtain ⟨a,rfl,g0⟩:=uE e0;obtain ⟨b,rfl,g1⟩:=uE e1;obtain ⟨c,rfl,g2⟩:=uE e2;exact ⟨a,b,c,Z,g0,g1,g2⟩
theorem HV {n:Nat}{cs:List Value}{y:DataW H × List MemPlace}(hl:cs.length=12)(h:DataW.trod enc Tryz.prog W 0 spare held n 76 cs=some y):∃ d:{d:Deed // DeedR d},cs=jY d.1:=by
 obtain ⟨y0,y1,y2,y3,y4,n',h0,h1,h2,h3,h4⟩:=rZ Tryz.underlying76 h
 match cs,hl with
 | [c0,c1,c2,c3,c4,c5,c6,c7,c8,c9,c10,c11],_ =>
  simp only [j3,lZ,Fw,Fv] at h0 h1 h2 h3 h4;obtain ⟨kd,rfl,hk⟩:=lg h0;obtain ⟨a0,a1,a2,ea,ga⟩:=BZ Tryz.underlying29 h1 rfl;obtain ⟨b0,b1,b2,eb,gb⟩:=BZ Tryz.underlying29 h2 rfl;obtain ⟨nn,rfl,gn⟩:=uE h3;obtain ⟨m,ha⟩:=Dr Tryz.underlying74 j3 h4;obtain ⟨z0,e0⟩:=ha 0 dc_;obtain ⟨z1,e1⟩:=ha 1 dc_;obtain ⟨z2,e2⟩:=ha 2 dc_;obtain ⟨z3,e3⟩:=ha 3 dc_;obtain ⟨k0,rfl,g0⟩:=lg e0;obtain ⟨k1,rfl,g1⟩:=lg e1;obtain ⟨k2,rfl,g2⟩:=lg e2;obtain ⟨k3,rfl,g3⟩:=lg e3;simp only [List.drop,List.take,MU,N8] at ea eb;obtain ⟨rfl,rfl,rfl⟩:=ea;obtain ⟨rfl,rfl,rfl⟩:=eb;refine ⟨⟨⟨kd,a0,a1,a2,b0,b1,b2,nn,k0,k1,k2,k3⟩,hk, ?_, ?_, ?_⟩,Z⟩
  ·intro z hz;simp only [dA,cI,L4,Nk] at hz;rcases hz with rfl | rfl | rfl <;> omega
  ·intro z hz;simp only [cI,L4,Nk] at hz;rcases hz with rfl | rfl | rfl | rfl <;> omega
  ·intro z hz;simp only [dK,cI,L4,Nk] at hz;rcases hz with rfl | rfl | rfl | rfl <;> omega
theorem Fi {fuel:Nat}{v:Value}{x:DataW H × List MemPlace}(h:DataW.trod enc Tryz.prog W 0 spare held fuel 26 [v]=some x):∃ l:List Deed,Sl (ol W) 12 v (l.map jY)/\∀ s∈l,DeedR s:=by
 obtain ⟨l,hl⟩:=Ak (fun s:{s:Deed // DeedR s}=>jY s.1) Tryz.underlying26 kr_ dc_ (fun n cs y hl hy=>HV hl hy) h;refine ⟨l.map (·.1),by rw [Ns];exact hl,fun s hs=>?_⟩;obtain ⟨z,_,rfl⟩:=j5.1 hs;exact z.2
theorem Hc {n:Nat}{cs:List Value}{y:DataW H × List MemPlace}(h:DataW.trod enc Tryz.prog W 0 spare held n 28 cs=some y):∃ (S:Sht)(A:Option Addr)(c:Nat)(l:List Deed),cs=[.int .u8 S.kd,.int .i8 S.a,.int .i8 S.b,.bool S.h,.slice A l.length c]/\S.kd<256/\Sl (ol W) 12 (.slice A l.length c) (l.map jY)/\∀ s∈l,DeedR s:=by
 obtain ⟨y0,y1,n',_,hl,h0,h1⟩:=Go.ChangeShapes.trod_struct2 Tryz.underlying28 h;have hc:Tryz.prog.cellsOf 28=5:=by kernel_rfl
 have h4:Tryz.prog.cellsOf 25=4:=by kernel_rfl
 have hs:Tryz.prog.cellsOf 26=1:=by kernel_rfl
 rw [hc] at hl
 match cs,hl with
 | [c0,c1,c2,c3,c4],_ =>
  simp only [h4,hs] at h0 h1;obtain ⟨S,e0,hk⟩:=En h0;obtain ⟨l,hsl,hR⟩:=Fi h1;obtain ⟨A,c,rfl,_⟩:=id hsl;simp only [MU,N8] at e0;obtain ⟨rfl,rfl,rfl,rfl⟩:=e0;simp only [aH] at hsl ⊢;exact ⟨S,A,c,l,Z,hk,hsl,hR⟩
theorem GV {n:Nat}{cs:List Value}{y:DataW H × List MemPlace}(h:DataW.trod enc Tryz.prog W 0 spare held n 31 cs=some y) :
  ∃ (how at_:Nat)(by':Int)(s:Str),cs=[.int .u8 how,.int .u8 at_,.int .i8 by',aA s]/\how<256/\at_<256/\-128<=by'/\by'<=127:=by
 obtain ⟨xs,n',_,_,hl,hlen,hf⟩:=DataW.trod_struct Tryz.underlying31 h;have hc:Tryz.prog.cellsOf 31=4:=by kernel_rfl
 have hs:Tryz.prog.cellsOf 9=1:=by kernel_rfl
 rw [hc] at hl
 match xs,hlen,cs,hl with
 | [y0,y1,y2,y3],_,[c0,c1,c2,c3],_ =>
  have h0:DataW.trod enc Tryz.prog W 0 spare held n' 5 [c0]=some y0:=by simpa [j3] using hf 0 _ rfl
  have h1:DataW.trod enc Tryz.prog W 0 spare held n' 5 [c1]=some y1:=by simpa [j3] using hf 1 _ rfl
  have h2:DataW.trod enc Tryz.prog W 0 spare held n' 22 [c2]=some y2:=by simpa [lZ] using hf 2 _ rfl
  have h3:DataW.trod enc Tryz.prog W 0 spare held n' 9 [c3]=some y3:=by simpa [hs] using hf 3 _ rfl
  obtain ⟨a,rfl,ga⟩:=lg h0;obtain ⟨b,rfl,gb⟩:=lg h1;obtain ⟨c,rfl,gc,gd⟩:=uE h2;obtain ⟨⟨⟨s⟩⟩,hs1,_⟩:=DataW.trod_string Tryz.underlying9 h3;simp only [MU,N8] at hs1;subst hs1;exact ⟨a,b,c,s,Z,ga,gb,gc,gd⟩
end

def jP (cs:Array Value):Obj->Obj
 | .cells _ t frozen=>.cells cs t frozen
 | o=>o
def CQ:Array Value:=(Lib.deBruijn32tab.map fun z:Nat=>Value.int .u8 (z:Int)).toArray
def CP:Array Value:=(Lib.deBruijn64tab.map fun z:Nat=>Value.int .u8 (z:Int)).toArray
def yj:Array Value:=(Lib.pow10Tab.map fun z=>Value.int .u64 z).toArray
def AT:ByteArray:=⟨#[118,97,108,117,101,32,111,117,116,32,111,102,32,114,97,110,103,101]⟩
def xV:ByteArray:=⟨#[105,110,118,97,108,105,100,32,115,121,110,116,97,120]⟩
noncomputable def low:Nat:=(World.holding Tryz.prog default ⟨#[],#[],[]⟩).heap.size
noncomputable def m5 (os:Os):World :=
 let w0:=World.holding Tryz.prog os ⟨#[.cells #[.string AT] 428,.cells #[.string xV] 428],#[],[]⟩
 { w0 with heap:=((((w0.heap.modify 4 (jP CQ)).modify 5 (jP CP)).modify 3 (jP yj)).modify 2 (jP #[.iface 426 (.pointer (some ⟨low,0,none⟩))])).modify 1 (jP #[.iface 426 (.pointer (some ⟨low+1,0,none⟩))]) }
theorem GZ {W : World} (h : laidMet Tryz.prog [("math/bits.deBruijn32tab", Rows.laid_math_bits_deBruijn32tab), ("math/bits.deBruijn64tab", Rows.laid_math_bits_deBruijn64tab), ("internal/strconv.uint64pow10", Rows.laid_internal_strconv_uint64pow10), ("strconv.ErrRange", Rows.laid_strconv_ErrRange), ("strconv.ErrSyntax", Rows.laid_strconv_ErrSyntax)] W) : Tabs (ol W) := by
 have h2:=h.tail.tail;have e2:(Rows.laid_internal_strconv_uint64pow10:DataW Unit)=Lib.tabData .u64 Lib.pow10Tab:=by rfl
 rw [e2] at h2;have t2:=Lib.tabIs_of_head (g:=3) (t:=419) (e:=284) (n:=20) kr_ kr_ Tryz.underlying419 Tryz.underlying284 kr_ kr_ h2;exact ⟨VarC.ofWorld t2⟩
theorem qM:laidOutB Tryz.prog=true:=by kernel_rfl
section
variable {H:Type} {enc:TypeId × Value->H} {W:World} {spare:Nat->Bool} {held:Bool}
end
section
variable {H:Type} {enc:TypeId × Value->H} {W:World} {spare:Nat->Bool} {held:Bool}
theorem qy {P:Program}{w:World}{r:Reach}{base:Nat}{t e:TypeId}{k:Nat}{v:Value}(ht:P.underlying t=some (.array k e))(h:Value.okWide P w r base t v):∃ cs,v=.agg cs/\cs.size=P.cellsOf t:=by
 simp only [Value.okWide,ht] at h;obtain ⟨cs,h1,h2,_⟩:=h;exact ⟨cs,h1,h2⟩
end
end Go.Proofs.YtgfiffppookakaaGreatDoor
