/- Laws that the proofs of this seat share, part 8. -/
import Derived.Test.YtllimhhofkcgpaaGreatDoorG7
import Derived.Test.YtllimhhofkcgpaaGreatDoorShelf
set_option maxHeartbeats 4000000
namespace Go.Proofs.YtllimhhofkcgpaaGreatDoor
open Go Go.Jog
set_option maxRecDepth 100000

def lessB (x:Lay):Bool:=match x.max with
 | none=>false
 | some m=>decide (m<x.min)
def layZ (pre:List Lay)(x:Lay):Int:=if dG x.unit=false then 8 else if 0<=idxF (isU x.unit) pre 0 then 9 else if x.min<0 then 3 else if lessB x then 6 else 0
def colF (l:List Lay):Nat->Int
 | 0=>0
 | n+1=>if colF l n≠0 then colF l n else layZ (l.take n) (l.getD n ⟨[],0,none⟩)
def colZ (l:List Lay):Int:=if l=[] then 13 else if 60<l.length then 4 else colF l l.length
theorem colF_stay {l:List Lay}{n:Nat}(h:colF l n≠0):∀ m,n<=m->colF l m=colF l n
 | 0,hm=>by rw [show n=0 by omega]
 | m+1,hm=>by
  rcases Nat.lt_or_ge m n with h1 | h1
  ·rw [show n=m+1 by omega]
  ·have ih:=colF_stay h m h1
   simp only [colF,ih]
   rw [if_pos h]
theorem lay_at {l:List Lay}{i:Nat}{x:Lay}(h:l[i]?=some x):l.getD i ⟨[],0,none⟩=x:=by rw [List.getD_eq_getElem?_getD,h,Option.getD_some]
theorem col_step {l:List Lay}{i:Nat}{x:Lay}(h0:colF l i=0)(hx:l[i]?=some x):colF l (i+1)=layZ (l.take i) x:=by
 simp only [colF,h0]
 rw [if_neg (by decide),lay_at hx]
theorem col_err {l:List Lay}{i:Nat}{x:Lay}{z:Int}(h0:colF l i=0)(hx:l[i]?=some x)(hz:layZ (l.take i) x=z)(hne:z≠0)(hl:¬ 60<l.length):colZ l=z:=by
 have hi:=(List.getElem?_eq_some_iff.1 hx).1
 have h1:=col_step h0 hx
 unfold colZ
 rw [if_neg (fun e=>by rw [e] at hi;simp at hi),if_neg hl,colF_stay (n:=i+1) (by rw [h1,hz];exact hne) l.length om_,h1,hz]
theorem cmp_opt (C:Mem)(hT:Tabs C)(mo:Option Rat)(mn:Rat)(h1:QB 22 mn)(h2:∀ q,mo=some q->QB 22 q)(h:(!((⟨(optS mo).toArray⟩:ByteArray).data.toList == (⟨#[]⟩:ByteArray).data.toList))=true) :
  Gives cx.P 58 [strV (optS mo),strV (qtx mn)] C (.int .i64 (cmpQ (mo.getD 0) mn)):=by
 rw [opt_nil] at h
 cases mo with
 | none=>cases h
 | some q=>exact rcompare_fn C hT q mn 22 (by decide) (by decide) (h2 q rfl) h1
theorem less_opt (x:Lay):(x.max.isSome && decide (cmpQ (x.max.getD 0) x.min<0))=lessB x:=by
 unfold lessB
 cases x.max with
 | none=>rfl
 | some q =>
  show (true && decide (cmpQ q x.min<0))=decide (q<x.min)
  unfold cmpQ
  by_cases h:q<x.min
  ·simp [h]
  ·rw [if_neg h,decide_eq_false h]
   split <;> rfl
theorem neg_sgn (q:Rat):decide (sgnZ q.num<0)=decide (q<0):=by
 rw [decide_eq_decide,<- qnum_neg]
 rcases cH q.num with h | h | h <;> omega
theorem colCheck_fn (C:Mem)(hT:Tabs C)(v:Value)(l:List Lay)(hv:Sl C 3 v (l.map encL))(hl:∀ x∈l,LayR x)(hll:l.length<=1000000):Gives cx.P 25 [v] C (.int .i64 (colZ l)):=by
 obtain ⟨A0,c0,rfl,hc1,hc2,_⟩:=id hv
 have hmx:maxLen<=9223372036854775807:=by simp [maxLen]
 simp only [List.length_map] at hv hc1 ⊢
 refine Fn.it kr_ Tryz.func25 57 fun w0=>?_
 refine G.z1 1 0 ?_
 refine G.z2 4 0 6 ?_
 refine G.cd (fun h6=>?_) fun h6=>?_
 ·have h0:l=[]:=by
   have h:((l.length:Nat):Int)=0:=by simpa using h6
   exact List.eq_nil_of_length_eq_zero om_
  refine G.z1 1 2 ?_
  refine G.rf ?_
  exact ⟨by rw [h0];rfl,rfl⟩
 ·have h0:l≠[]:=by
   intro e
   rw [e] at h6
   exact absurd h6 (by decide)
  refine G.z2 4 0 10 ?_
  refine G.cd (fun h10=>?_) fun h10=>?_
  ·have h60:60<l.length:=by
    simp only [decide_eq_true_eq] at h10
    omega
   refine G.z1 1 2 ?_
   refine G.rf ?_
   exact ⟨by unfold colZ;rw [if_neg h0,if_pos h60],rfl⟩
  ·have h60:¬ 60<l.length:=by
    simp only [decide_eq_false_iff_not] at h10
    omega
   refine G.z4 3 0 14 15 16 ?_
   refine G.loop (fun fr C' L' μ=>∃ (i:Nat),(i<=l.length/\colF l i=0)/\fr=[(0,[],.slice A0 l.length c0),(14,[],.slice A0 l.length c0),(15,[],.int .i64 l.length),(16,[],.int .i64 i)]/\L'=[]/\μ=l.length-i) (h_4 0 14 15 16) ⟨0,⟨Nat.zero_le _,rfl⟩,rfl,rfl,rfl⟩ (fun fr C0' L0' m hle0 hI=>?_)
   obtain ⟨i,⟨hi,hno⟩,rfl,rfl,rfl⟩:=hI
   refine G.z5 1 0 14 15 16 17 ?_
   refine G.cd (fun h17=>?_) fun h17=>?_
   ·have hil:i<l.length:=by simpa using h17
    obtain ⟨x,hx⟩:∃ x,l[i]?=some x:=⟨l[i],List.getElem?_eq_getElem hil⟩
    obtain ⟨hr1,hr2,hr3⟩:=hl x (List.mem_of_getElem? hx)
    have hsub:=Sl.sub hv (l:=0) (h:=i) (m:=c0) (Nat.zero_le _) (by simp;omega) om_ (Nat.le_refl _)
    rw [List.drop_zero,<- List.map_take] at hsub
    refine G.rp 1 fun R hR=>?_
    refine D.al (hv.mono mup) rfl rfl rfl rfl rfl rfl rfl rfl rfl rfl om_ (bt hx) fl_ (fun p19 hp19=>?_)
    refine D.aa hp19 ?_
    refine D.aj (fun b4=>?_)
    refine D.ac ?_
    refine D.ag (j:=0) ?_
    refine D.e6 0 3 4 14 15 16 hR ?_
    refine G.rg fun R hR=>?_
    refine D.ae (.head _) ?_
    refine D.af (layer_fn _ (hT.mono mup) x ⟨hr1,hr2,hr3⟩) ?_
    refine D.q7 1 0 3 4 5 14 15 16 hR ?_
    refine G.z8 2 0 3 4 5 14 15 16 24 ?_
    refine G.cd (fun h24=>?_) fun h24=>?_
    ·exact absurd h24 (by decide)
    ·refine G.rp 1 fun R hR=>?_
     refine D.ae (.head _) ?_
     refine D.ai (eD _ x.unit om_) rfl rfl rfl rfl rfl rfl rfl fl_ ?_
     refine D.q7 2 0 3 4 14 15 16 26 hR ?_
     refine G.cd (fun h26=>?_) fun h26=>?_
     ·have hnm:dG x.unit=false:=by simpa using h26
      refine G.z1 1 2 ?_
      refine G.rf ?_
      exact ⟨by rw [col_err (z:=8) hno hx (by unfold layZ;rw [if_pos hnm]) (by decide) h60],rfl⟩
     ·have hnm:¬ dG x.unit=false:=by
       have h:dG x.unit=true:=by simpa using h26
       rw [h];decide
      refine G.aH [0,1,2,3,4,5,6,7] [(5,1)] rfl kr_ (fun R hB hR=>?_)
      refine D.ps 2 ?_
      refine D.dr 0 i c0 rfl rfl rfl rfl rfl rfl rfl rfl rfl rfl rfl rfl (fun _=>⟨.inl ⟨rfl,rfl⟩,.inr ⟨_,rfl⟩,.inl ⟨rfl,rfl⟩,by omega,by omega,by omega⟩) rfl rfl ?_
      refine D.ac ?_
      refine D.ae (.head _) ?_
      refine D.aW (fun _=>(colAt_fn _ _ (l.take i) x.unit (hsub.mono mup))) ?_
      refine D.q6 2 0 4 14 15 16 31 hR ?_
      refine G.cd (fun h31=>?_) fun h31=>?_
      ·have hd:0<=idxF (isU x.unit) (l.take i) 0:=by simpa using h31
       refine G.z1 1 2 ?_
       refine G.rf ?_
       exact ⟨by rw [col_err (z:=9) hno hx (by unfold layZ;rw [if_neg hnm,if_pos hd]) (by decide) h60],rfl⟩
      ·have hd:¬ 0<=idxF (isU x.unit) (l.take i) 0:=by simpa using h31
       refine G.rp 1 fun R hR=>?_
       refine D.ae (.head _) ?_
       refine D.af (rsign_fn _ x.min (r22_s hr1)) ?_
       refine D.q6 2 0 4 14 15 16 39 hR ?_
       refine G.cd (fun h39=>?_) fun h39=>?_
       ·have hs:x.min<0:=by
         rw [neg_sgn] at h39
         exact of_decide_eq_true h39
        refine G.z1 1 2 ?_
        refine G.rf ?_
        exact ⟨by rw [col_err (z:=3) hno hx (by unfold layZ;rw [if_neg hnm,if_neg hd,if_pos hs]) (by decide) h60],rfl⟩
       ·have hs:¬ x.min<0:=by
         rw [neg_sgn] at h39
         exact of_decide_eq_false h39
        refine G.rp 1 fun R hR=>?_
        refine D.ae (.head _) ?_
        refine D.ps 3 ?_
        refine D.ae (.head _) ?_
        refine D.ac ?_
        refine D.ae (.head _) ?_
        refine D.aC (fun hg=>(cmp_opt _ (hT.mono mup) x.max x.min hr1 hr2 (by exact hg.1))) rfl rfl rfl rfl rfl rfl rfl rfl rfl ?_
        refine D.ac ?_
        refine D.aq ?_
        refine D.q5 1 0 14 15 16 44 hR ?_
        refine G.cd (fun h44=>?_) fun h44=>?_
        ·have ho:lessB x=true:=by
          rw [<- less_opt,<- opt_nil]
          exact h44
         refine G.z1 1 2 ?_
         refine G.rf ?_
         exact ⟨by rw [col_err (z:=6) hno hx (by unfold layZ;rw [if_neg hnm,if_neg hd,if_neg hs,if_pos ho]) (by decide) h60],rfl⟩
        ·have ho:lessB x=false:=by
          rw [<- less_opt,<- opt_nil]
          exact h44
         have hnx:colF l (i+1)=0:=by rw [col_step hno hx];unfold layZ;rw [if_neg hnm,if_neg hd,if_neg hs,ho];rfl
         refine G.rg fun R hR=>?_
         refine D.am _ ?_
         refine D.q4 1 0 14 15 16 hR ?_
         refine G.dropAll ?_
         refine G.ax (m':=l.length-(i+1)) om_ hle0 (h_4 0 14 15 16) ⟨i+1,⟨by omega,hnx⟩,rfl,rfl,rfl⟩
   ·have hil:i=l.length:=by
     have:¬ i<l.length:=by simpa using h17
     omega
    refine G.z1 1 2 ?_
    refine G.rf ?_
    refine ⟨?_,rfl⟩
    rw [hil] at hno
    unfold colZ
    rw [if_neg h0,if_neg h60,hno]
theorem colIndex_fn (C:Mem)(hT:Tabs C)(v:Value)(l:List Lay)(u:Str)(hv:Sl C 3 v (l.map encL))(hl:∀ x∈l,LayR x)(hz:colZ l=0)(i:Nat)(hi:idxF (isU u) l 0=(i:Nat)):Gives cx.P 68 [v,strV u] C (.tuple #[.int .i64 (i:Nat),.bool true,.int .i64 0]):=by
 have hll:l.length<=1000000:=by
  unfold colZ at hz
  split at hz
  ·cases hz
  ·split at hz
   ·cases hz
   ·omega
 refine Fn.it kr_ Tryz.func68 20 fun w0=>?_
 refine G.z2 3 0 1 ?_
 refine G.rp 1 fun R hR=>?_
 refine D.ai (by have h:=colCheck_fn _ (hT.mono mup) v l (hv.mono mup) hl hll;rw [hz] at h;exact h) rfl rfl rfl rfl rfl rfl rfl fl_ ?_
 refine D.q3 1 0 1 7 hR ?_
 refine G.z4 2 0 1 7 12 ?_
 refine G.cd (fun h12=>?_) fun h12=>?_
 ·exact absurd h12 (by decide)
 ·refine G.rp 2 fun R hR=>?_
  refine D.ai (by have h:=colAt_fn _ v l u (hv.mono mup);rw [hi] at h;exact h) rfl rfl rfl rfl rfl rfl rfl fl_ ?_
  refine D.q1 1 8 hR ?_
  refine G.z2 2 8 18 ?_
  refine G.cd (fun h18=>?_) fun h18=>?_
  ·refine G.z3 4 4 5 6 ?_
   refine G.az (G.dropAll (G.eM rfl rfl rfl rfl ?_))
   exact ⟨rfl,rfl⟩
  ·exfalso
   simp only [decide_eq_false_iff_not] at h18
   omega

structure Obs where
 kind:Int
 name:Str
 x:Str
 y:Str
 depth:Str
 upper:Str
 lower:Str
 nx:Str
 ny:Str
 nz:Str
def encO (o:Obs):List Value:=[.int .i64 o.kind,strV o.name,strV o.x,strV o.y,strV o.depth,strV o.upper,strV o.lower,strV o.nx,strV o.ny,strV o.nz]
structure ObsR (o:Obs):Prop where
 name:o.name.length<=9223372036854775807
 x:o.x.length<=9223372036854775807
 y:o.y.length<=9223372036854775807
 depth:o.depth.length<=9223372036854775807
 upper:o.upper.length<=9223372036854775807
 lower:o.lower.length<=9223372036854775807
 nx:o.nx.length<=9223372036854775807
 ny:o.ny.length<=9223372036854775807
 nz:o.nz.length<=9223372036854775807
def nameBad (o:Obs):Bool:=(!dG o.name || !dG o.upper) || ((!(o.kind == 1)) && !dG o.lower)
def numBad (o:Obs):Bool:=(!(aV o.x && aV o.y) || ((o.kind == 2) && !aV o.depth)) || ((o.kind == 3) && !(aV o.nx && aV o.ny && aV o.nz))
def formBad (o:Obs):Bool:=(((o.kind == 1) && !(o.lower == [])) || ((!(o.kind == 2)) && !(o.depth == []))) || ((!(o.kind == 3)) && !(decide (o.nx=[]/\o.ny=[]/\o.nz=[])))
def dh (o:Obs):Int:=if o.kind<1∨3<o.kind then 12 else if nameBad o then 8 else if numBad o then 2 else if formBad o then 7 else 0
theorem nil3 (a b c:Str):(!((a == []) && ((b == []) && ((c == []) && true))))=!decide (a=[]/\b=[]/\c=[]):=by
 cases a <;> cases b <;> cases c <;> rfl
theorem chk_ne' (b:Bool):(chkZ b != 0)=!b:=by cases b <;> rfl
theorem shape_fn (C:Mem)(hT:Tabs C)(o:Obs)(ho:ObsR o):Gives cx.P 59 [.agg ⟨encO o⟩] C (.int .i64 (dh o)):=by
 have h1:=ho.name
 have h2:=ho.upper
 have h3:=ho.lower
 refine Fn.it kr_ Tryz.func59 87 fun w0=>?_
 refine G.rg fun R hR=>?_
 refine D.aB (fun b1=>?_)
 refine D.q1 1 1 hR ?_
 refine G.freeze 0 rfl (fun C1 hle1 hb1=>?_)
 refine G.rp 1 fun R hR=>?_
 refine D.aa (bkT hb1 1) ?_
 refine D.ps 3 ?_
 refine D.aU rfl rfl rfl rfl rfl rfl (fun _=>PtrTo.blockT (Mem.get hb1 mup) _ 1) rfl rfl rfl ?_
 refine D.ac ?_
 refine D.aF rfl rfl rfl rfl rfl rfl rfl rfl ?_
 refine D.e2 1 10 hR ?_
 refine G.cd (fun h10=>?_) fun h10=>?_
 ·have hk:o.kind<1∨3<o.kind:=by simpa using h10
  refine G.z1 1 2 ?_
  refine G.rf ?_
  exact ⟨by unfold dh;rw [if_pos hk],rfl⟩
 ·have hk:¬ (o.kind<1∨3<o.kind):=by simpa using h10
  refine G.rp 1 fun R hR=>?_
  refine D.aa (bkT hb1 1) ?_
  refine D.ai (eD _ o.name om_) rfl rfl rfl rfl rfl rfl rfl fl_ ?_
  refine D.ps 3 ?_
  refine D.aU rfl rfl rfl rfl rfl rfl (fun _=>PtrTo.blockT (Mem.get hb1 mup) _ 1) rfl rfl rfl ?_
  refine D.aC (fun _=>(eD _ o.upper om_)) rfl rfl rfl rfl rfl rfl rfl rfl rfl ?_
  refine D.ac ?_
  refine D.aF rfl rfl rfl rfl rfl rfl rfl rfl ?_
  refine D.ps 2 ?_
  refine D.aU rfl rfl rfl rfl rfl rfl (fun _=>PtrTo.blockT (Mem.get hb1 mup) _ 1) rfl rfl rfl ?_
  refine D.ps 3 ?_
  refine D.aU rfl rfl rfl rfl rfl rfl (fun _=>PtrTo.blockT (Mem.get hb1 mup) _ 1) rfl rfl rfl ?_
  refine D.aC (fun _=>(eD _ o.lower om_)) rfl rfl rfl rfl rfl rfl rfl rfl rfl ?_
  refine D.ac ?_
  refine D.aq ?_
  refine D.aF rfl rfl rfl rfl rfl rfl rfl rfl ?_
  refine D.e2 1 31 hR ?_
  refine G.cd (fun h31=>?_) fun h31=>?_
  ·have hn:nameBad o=true:=h31
   refine G.z1 1 2 ?_
   refine G.rf ?_
   exact ⟨by unfold dh;rw [if_neg hk,if_pos hn],rfl⟩
  ·have hn:¬ nameBad o=true:=by rw [show nameBad o=false from h31];decide
   refine G.rp 1 fun R hR=>?_
   refine D.aa (bkT hb1 2) ?_
   refine D.af (eJ _ (hT.mono mup) o.x o.y ho.x ho.y) ?_
   refine D.ps 3 ?_
   refine D.aU rfl rfl rfl rfl rfl rfl (fun _=>PtrTo.blockT (Mem.get hb1 mup) _ 1) rfl rfl rfl ?_
   refine D.ps 3 ?_
   refine D.aU rfl rfl rfl rfl rfl rfl (fun _=>PtrTo.blockT (Mem.get hb1 mup) _ 1) rfl rfl rfl ?_
   refine D.aW (fun _=>(cL _ (hT.mono mup) o.depth ho.depth)) ?_
   refine D.ac ?_
   refine D.aq ?_
   refine D.aF rfl rfl rfl rfl rfl rfl rfl rfl ?_
   refine D.ps 2 ?_
   refine D.aU rfl rfl rfl rfl rfl rfl (fun _=>PtrTo.blockT (Mem.get hb1 mup) _ 1) rfl rfl rfl ?_
   refine D.ps 3 ?_
   refine D.aU rfl rfl rfl rfl rfl rfl (fun _=>PtrTo.blockT (Mem.get hb1 mup) _ 3) rfl rfl rfl ?_
   refine D.aW (fun _=>(checkVector_fn _ (hT.mono mup) o.nx o.ny o.nz ho.nx ho.ny ho.nz)) ?_
   refine D.ac ?_
   refine D.aq ?_
   refine D.aF rfl rfl rfl rfl rfl rfl rfl rfl ?_
   refine D.e2 1 57 hR ?_
   refine G.cd (fun h57=>?_) fun h57=>?_
   ·have hq:numBad o=true:=by
     simp only [chk_ne'] at h57
     exact h57
    refine G.z1 1 2 ?_
    refine G.rf ?_
    exact ⟨by unfold dh;rw [if_neg hk,if_neg hn,if_pos hq],rfl⟩
   ·have hq:¬ numBad o=true:=by
     simp only [chk_ne'] at h57
     rw [show numBad o=false from h57];decide
    refine G.rp 1 fun R hR=>?_
    refine D.aa (bkT hb1 1) ?_
    refine D.ps 3 ?_
    refine D.aU rfl rfl rfl rfl rfl rfl (fun _=>PtrTo.blockT (Mem.get hb1 mup) _ 1) rfl rfl rfl ?_
    refine D.ac ?_
    refine D.aq ?_
    refine D.ps 2 ?_
    refine D.aU rfl rfl rfl rfl rfl rfl (fun _=>PtrTo.blockT (Mem.get hb1 mup) _ 1) rfl rfl rfl ?_
    refine D.ps 3 ?_
    refine D.aU rfl rfl rfl rfl rfl rfl (fun _=>PtrTo.blockT (Mem.get hb1 mup) _ 1) rfl rfl rfl ?_
    refine D.ac ?_
    refine D.aq ?_
    refine D.aF rfl rfl rfl rfl rfl rfl rfl rfl ?_
    refine D.ps 2 ?_
    refine D.aU rfl rfl rfl rfl rfl rfl (fun _=>PtrTo.blockT (Mem.get hb1 mup) _ 1) rfl rfl rfl ?_
    refine D.ps 3 ?_
    refine D.aU rfl rfl rfl rfl rfl rfl (fun _=>PtrTo.blockT (Mem.get hb1 mup) _ 3) rfl rfl rfl ?_
    refine D.ak [strV [],strV [],strV []] ?_
    refine D.neAgg (!decide (o.nx=[]/\o.ny=[]/\o.nz=[])) kr_ rfl rfl rfl rfl rfl rfl rfl rfl (fun _=>(nil3 o.nx o.ny o.nz)) rfl rfl ?_
    refine D.aq ?_
    refine D.aF rfl rfl rfl rfl rfl rfl rfl rfl ?_
    refine D.e1 86 hR ?_
    refine G.cd (fun h86=>?_) fun h86=>?_
    ·have hf:formBad o=true:=h86
     refine G.z1 1 2 ?_
     refine G.rf ?_
     exact ⟨by unfold dh;rw [if_neg hk,if_neg hn,if_neg hq,if_pos hf],rfl⟩
    ·have hf:¬ formBad o=true:=by rw [show formBad o=false from h86];decide
     refine G.z1 1 2 ?_
     refine G.rf ?_
     exact ⟨by unfold dh;rw [if_neg hk,if_neg hn,if_neg hq,if_neg hf],rfl⟩

noncomputable def cm (s:Str):Rat:=if h:aV s=true then (rat_of h).choose else 0
theorem bW {s:Str}(h:aV s=true):s=qtx (cm s)/\QB 23 (cm s):=by
 unfold cm
 rw [dif_pos h]
 exact (rat_of h).choose_spec
theorem ratOf_qtx {q:Rat}(h:aV (qtx q)=true):cm (qtx q)=q:=(qtx_eq (bW h).1).symm
noncomputable def ptO (o:Obs):Pt:=(cm o.x,cm o.y)
noncomputable def conB (pts:List Pt)(tris:List Tri)(o:Obs):Bool:=decide (locL pts tris (ptO o)≠[])
def unkB (col:List Lay)(o:Obs):Bool:=decide (idxF (isU o.upper) col 0<0) || ((!(o.kind == 1)) && decide (idxF (isU o.lower) col 0<0))
def ordB (col:List Lay)(o:Obs):Bool:=(!(o.kind == 1)) && decide (idxF (isU o.upper) col 0<=idxF (isU o.lower) col 0)
noncomputable def depB (o:Obs):Bool:=(o.kind == 2) && decide (cm o.depth<0)
def zerB (o:Obs):Bool:=(o.kind == 3) && decide (o.nz=[48])
noncomputable def overZ (pts:List Pt)(tris:List Tri)(col:List Lay)(o:Obs):Int :=
 if dh o≠0 then dh o else if conB pts tris o=false then 28 else if unkB col o then 10 else if ordB col o then 6 else if depB o then 3 else if zerB o then 17 else 0
theorem shape_nums {o:Obs}(h:dh o=0):aV o.x=true/\aV o.y=true/\(o.kind=2->aV o.depth=true):=by
 unfold dh at h
 split at h
 ·cases h
 split at h
 ·cases h
 split at h
 ·cases h
 rename_i hq
 have hq':numBad o=false:=by simpa using hq
 unfold numBad at hq'
 rw [Bool.or_eq_false_iff,Bool.or_eq_false_iff] at hq'
 obtain ⟨⟨h1,h2⟩,_⟩:=hq'
 have h3:(aV o.x && aV o.y)=true:=by simpa using h1
 rw [Bool.and_eq_true] at h3
 refine ⟨h3.1,h3.2,fun hk=>?_⟩
 rw [hk] at h2
 simpa using h2
theorem ptO_ok {o:Obs}(h:dh o=0):ptV (ptO o)=.agg ⟨[strV o.x,strV o.y]⟩/\QP 23 (ptO o)/\PtR (ptO o):=by
 obtain ⟨h1,h2,_⟩:=shape_nums h
 obtain ⟨e1,q1⟩:=bW h1
 obtain ⟨e2,q2⟩:=bW h2
 refine ⟨?_,⟨q1,q2⟩, ?_, ?_⟩
 ·unfold ptV encP ptO;rw [<- e1,<- e2]
 ·unfold ptO;rw [<- e1];exact h1
 ·unfold ptO;rw [<- e2];exact h2
theorem bA {k z:Int}(h:(k == z)=true):k=z:=by simpa using h
theorem sign_dep (C:Mem)(s:Str)(h:aV s=true)(hl:s.length<=9223372036854775807):Gives cx.P 57 [strV s] C (.int .i64 (sgnZ (cm s).num)):=by
 have e:=(bW h).1
 have h2:=rsign_fn C (cm s) (by have:=hl;exact Nat.le_trans (bk (bW h).2 (by decide)) (by decide))
 rwa [<- e] at h2
theorem over_fn (C:Mem)(hT:Tabs C)(mv cv:Value)(pts:List Pt)(tris:List Tri)(col:List Lay)(o:Obs)(hm:MeshIn C mv pts tris)(hG:Good pts tris)(hc:Sl C 3 cv (col.map encL))(ho:ObsR o) :
  Gives cx.P 26 [mv,cv,.agg ⟨encO o⟩] C (.int .i64 (overZ pts tris col o)):=by
 have hm0:=hm
 obtain ⟨v1,v2,rfl,h1,h2⟩:=id hm.ex
 refine Fn.it kr_ Tryz.func26 79 fun w0=>?_
 refine G.rg fun R hR=>?_
 refine D.aB (fun b3=>?_)
 refine D.aB (fun b5=>?_)
 refine D.q3 1 1 3 5 hR ?_
 refine G.freeze 1 rfl (fun C3 hle3 hb3=>?_)
 refine G.freeze 0 rfl (fun C5 hle5 hb5=>?_)
 refine G.rg fun R hR=>?_
 refine D.aa (bkT hb5 10) ?_
 refine D.af (shape_fn _ (hT.mono mup) o ho) ?_
 refine D.q4 1 1 3 5 7 hR ?_
 refine G.z5 2 1 3 5 7 15 ?_
 refine G.cd (fun h15=>?_) fun h15=>?_
 ·have hs:dh o≠0:=by
   intro e
   rw [e] at h15
   exact absurd h15 (by decide)
  refine G.z1 2 6 ?_
  refine G.rf ?_
  exact ⟨by unfold overZ;rw [if_pos hs],rfl⟩
 ·have hs:dh o=0:=by simpa using h15
  have hs':¬ dh o≠0:=fun h=>h hs
  obtain ⟨hpe,hpq,hpr⟩:=ptO_ok hs
  have hdp:=(shape_nums hs).2.2
  refine G.rg fun R hR=>?_
  refine D.aa (PtrTo.block (Mem.get hb3 mup) _) ?_
  refine D.ac ?_
  refine D.aa (bkT hb5 2) ?_
  refine D.ai (by have h:=contains_fn C5 (hT.mono mup) _ pts tris (ptO o) (hm0.mono mup) hG hpq hpr;rw [hpe] at h;exact h) rfl rfl rfl rfl rfl rfl rfl fl_ ?_
  refine D.q4 5 1 5 8 9 hR ?_
  refine G.rp 5 fun R hR=>?_
  refine D.aF rfl rfl rfl rfl rfl rfl rfl rfl ?_
  refine D.e3 1 5 29 hR ?_
  refine G.cd (fun h29=>?_) fun h29=>?_
  ·have hcn:conB pts tris o=false:=by
    have h:(!conB pts tris o)=true:=h29
    simpa using h
   refine G.z1 1 6 ?_
   refine G.rf ?_
   exact ⟨by unfold overZ;rw [if_neg hs',if_pos hcn],rfl⟩
  ·have hcn:¬ conB pts tris o=false:=by
    have h:(!conB pts tris o)=false:=h29
    have h2:conB pts tris o=true:=by simpa using h
    rw [h2];decide
   refine G.aH [0,1,2,3,4,5,6,7,8,9] [(3,1),(7,1)] rfl kr_ (fun R hB hR=>?_)
   refine D.ps 2 ?_
   refine D.aa (bkT hb5 1) ?_
   refine D.aW (fun _=>(bookIdx_fn _ _ col o.upper (hc.mono mup))) ?_
   refine D.ps 2 ?_
   refine D.aa (bkT hb5 1) ?_
   refine D.aW (fun _=>(bookIdx_fn _ _ col o.lower (hc.mono mup))) ?_
   refine D.q3 2 5 10 11 hR ?_
   refine G.rp 4 fun R hR=>?_
   refine D.aU rfl rfl rfl rfl rfl rfl (fun _=>PtrTo.blockT (Mem.get hb5 mup) _ 1) rfl rfl rfl ?_
   refine D.ps 4 ?_
   refine D.aq ?_
   refine D.aF rfl rfl rfl rfl rfl rfl rfl rfl ?_
   refine D.q4 1 5 10 11 38 hR ?_
   refine G.cd (fun h38=>?_) fun h38=>?_
   ·have hu:unkB col o=true:=h38
    refine G.z1 1 6 ?_
    refine G.rf ?_
    exact ⟨by unfold overZ;rw [if_neg hs',if_neg hcn,if_pos hu],rfl⟩
   ·have hu:¬ unkB col o=true:=by rw [show unkB col o=false from h38];decide
    refine G.rp 1 fun R hR=>?_
    refine D.aa (bkT hb5 1) ?_
    refine D.ps 5 ?_
    refine D.aq ?_
    refine D.q2 1 5 50 hR ?_
    refine G.cd (fun h50=>?_) fun h50=>?_
    ·have hor:ordB col o=true:=h50
     refine G.z1 1 6 ?_
     refine G.rf ?_
     exact ⟨by unfold overZ;rw [if_neg hs',if_neg hcn,if_neg hu,if_pos hor],rfl⟩
    ·have hor:¬ ordB col o=true:=by rw [show ordB col o=false from h50];decide
     refine G.rp 1 fun R hR=>?_
     refine D.aa (bkT hb5 1) ?_
     refine D.ps 3 ?_
     refine D.aU rfl rfl rfl rfl rfl rfl (fun _=>PtrTo.blockT (Mem.get hb5 mup) _ 1) rfl rfl rfl ?_
     refine D.aC (fun hg=>(sign_dep _ o.depth (hdp (by exact bA hg.1)) ho.depth)) rfl rfl rfl rfl rfl rfl rfl rfl rfl ?_
     refine D.ac ?_
     refine D.aq ?_
     refine D.q2 1 5 59 hR ?_
     refine G.cd (fun h59=>?_) fun h59=>?_
     ·have hd:depB o=true:=by
       rw [neg_sgn] at h59
       exact h59
      refine G.z1 1 6 ?_
      refine G.rf ?_
      exact ⟨by unfold overZ;rw [if_neg hs',if_neg hcn,if_neg hu,if_neg hor,if_pos hd],rfl⟩
     ·have hd:¬ depB o=true:=by
       rw [neg_sgn] at h59
       rw [show depB o=false from h59];decide
      refine G.rp 1 fun R hR=>?_
      refine D.aa (bkT hb5 1) ?_
      refine D.ps 4 ?_
      refine D.aU rfl rfl rfl rfl rfl rfl (fun _=>PtrTo.blockT (Mem.get hb5 mup) _ 1) rfl rfl rfl ?_
      refine D.ac ?_
      refine D.aq ?_
      refine D.q1 1 69 hR ?_
      refine G.cd (fun h69=>?_) fun h69=>?_
      ·have hz:zerB o=true:=by
        unfold zerB
        rw [<- strEq]
        exact h69
       refine G.z1 1 6 ?_
       refine G.rf ?_
       exact ⟨by unfold overZ;rw [if_neg hs',if_neg hcn,if_neg hu,if_neg hor,if_neg hd,if_pos hz],rfl⟩
      ·have hz:¬ zerB o=true:=by
        unfold zerB
        rw [<- strEq]
        intro h
        rw [show ((o.kind == 3) && ((⟨o.nz.toArray⟩:ByteArray).data.toList == (⟨([48]:Str).toArray⟩:ByteArray).data.toList))=false from h69] at h
        cases h
       refine G.z1 1 6 ?_
       refine G.rf ?_
       exact ⟨by unfold overZ;rw [if_neg hs',if_neg hcn,if_neg hu,if_neg hor,if_neg hd,if_neg hz],rfl⟩

structure Bk where
 pts:List Pt
 tris:List Tri
 terr:List Str
 col:List Lay
 obs:List Obs
structure BookIn (C:Mem)(bv:Value)(B:Bk):Prop where
 ex:∃ v1 v2 tv cv ov,bv=.agg ⟨[v1,v2,tv,cv,ov]⟩/\Sl C 2 v1 (B.pts.map encP)/\Sl C 3 v2 (B.tris.map encT)/\Sl C 1 tv (B.terr.map encS1)/\Sl C 3 cv (B.col.map encL)/\Sl C 10 ov (B.obs.map encO)
theorem BookIn.mono {C D:Mem}{bv:Value}{B:Bk}(h:BookIn C bv B)(hl:C.le D):BookIn D bv B:=by
 obtain ⟨v1,v2,tv,cv,ov,h1,h2,h3,h4,h5,h6⟩:=h.ex
 exact ⟨v1,v2,tv,cv,ov,h1,h2.mono hl,h3.mono hl,h4.mono hl,h5.mono hl,h6.mono hl⟩
structure BookR (B:Bk):Prop where
 terr:∀ s∈B.terr,s.length<=9223372036854775807
 col:∀ x∈B.col,LayR x
 lcol:B.col.length<=1000000
 obs:∀ o∈B.obs,ObsR o
noncomputable def obZ (B:Bk)(pre:List Obs)(o:Obs):Int:=if overZ B.pts B.tris B.col o≠0 then overZ B.pts B.tris B.col o else if o.name∈pre.map Obs.name then 9 else 0
def noObs:Obs:=⟨0,[],[],[],[],[],[],[],[],[]⟩
noncomputable def obsF (B:Bk):Nat->Int
 | 0=>0
 | n+1=>if obsF B n≠0 then obsF B n else obZ B (B.obs.take n) (B.obs.getD n noObs)
noncomputable def bookZ (B:Bk):Int:=if fldZ B.pts.length B.terr≠0 then fldZ B.pts.length B.terr else if colZ B.col≠0 then colZ B.col else if 100<B.obs.length then 4 else obsF B B.obs.length
theorem obsF_stay {B:Bk}{n:Nat}(h:obsF B n≠0):∀ m,n<=m->obsF B m=obsF B n
 | 0,hm=>by rw [show n=0 by omega]
 | m+1,hm=>by
  rcases Nat.lt_or_ge m n with h1 | h1
  ·rw [show n=m+1 by omega]
  ·have ih:=obsF_stay h m h1
   simp only [obsF,ih]
   rw [if_pos h]
theorem obs_at {l:List Obs}{i:Nat}{x:Obs}(h:l[i]?=some x):l.getD i noObs=x:=by rw [List.getD_eq_getElem?_getD,h,Option.getD_some]
theorem obs_step {B:Bk}{i:Nat}{x:Obs}(h0:obsF B i=0)(hx:B.obs[i]?=some x):obsF B (i+1)=obZ B (B.obs.take i) x:=by
 simp only [obsF,h0]
 rw [if_neg (by decide),obs_at hx]
theorem obs_err {B:Bk}{i:Nat}{x:Obs}{z:Int}(h0:obsF B i=0)(hx:B.obs[i]?=some x)(hz:obZ B (B.obs.take i) x=z)(hne:z≠0):obsF B B.obs.length=z:=by
 have hi:=(List.getElem?_eq_some_iff.1 hx).1
 have h1:=obs_step h0 hx
 rw [obsF_stay (n:=i+1) (by rw [h1,hz];exact hne) B.obs.length om_,h1,hz]
def metO (l:List Obs):List (Str × Value):=l.map fun o=>(o.name,.bool true)
theorem metO_look (l:List Obs)(s:Str):lookV (.bool false) false (mget (metO l) s)=.bool (decide (s∈l.map Obs.name)):=by
 have hk:(metO l).map (·.1)=l.map Obs.name:=by unfold metO;rw [List.map_map];rfl
 cases h:mget (metO l) s with
 | none =>
  have h1:=bi.1 h
  rw [hk] at h1
  rw [decide_eq_false h1]
  rfl
 | some v =>
  have h1:=eA h
  have h2:=List.mem_map_of_mem (f:=(·.1)) h1
  rw [hk] at h2
  obtain ⟨o,_,ho⟩:=List.mem_map.1 h1
  cases ho
  rw [decide_eq_true h2]
  rfl
theorem metO_new {l:List Obs}{o:Obs}(h:o.name ∉ l.map Obs.name):mset (metO l) o.name (.bool true)=metO (l++[o]):=by
 have hk:(metO l).map (·.1)=l.map Obs.name:=by unfold metO;rw [List.map_map];rfl
 rw [mset_new (by rw [bi,hk];exact h)]
 simp [metO]
theorem checkAll_fn (C:Mem)(hT:Tabs C)(bv:Value)(B:Bk)(hB:BookIn C bv B)(hG:Good B.pts B.tris)(hbR:BookR B) :
  Gives cx.P 6 [bv] C (.int .i64 (bookZ B)):=by
 obtain ⟨v1,v2,tv,cv,ov,rfl,h1,h2,h3,h4,h5⟩:=id hB.ex
 obtain ⟨A5,c5,rfl,hq5,hq6,_⟩:=id h5
 have hmx:maxLen<=9223372036854775807:=by simp [maxLen]
 simp only [List.length_map] at h5 hq5 ⊢
 have hm:MeshIn C (.agg ⟨[v1,v2]⟩) B.pts B.tris:=⟨v1,v2,rfl,h1,h2⟩
 refine Fn.it kr_ Tryz.func6 59 fun w0=>?_
 refine G.rg fun R hR=>?_
 refine D.aB (fun b1=>?_)
 refine D.q1 1 1 hR ?_;clear hR R
 refine G.freeze 0 rfl (fun C1 hle1 hb1=>?_)
 refine G.rp 1 fun R hR=>?_
 refine D.aa (bkT hb1 2) ?_
 refine D.af (good_check _ (hT.mono mup) _ B.pts B.tris (hm.mono mup) hG) ?_
 refine D.q2 1 1 3 hR ?_;clear hR R
 refine G.z3 2 1 3 14 ?_
 refine G.cd (fun h14=>?_) fun h14=>?_
 ·exact absurd h14 (by decide)
 ·refine G.rp 1 fun R hR=>?_
  refine D.aa (bkT hb1 2) ?_
  refine D.ac ?_
  refine D.aa (bkT hb1 1) ?_
  refine D.af (fieldCheck_fn _ (hT.mono mup) _ _ B.pts B.tris B.terr (hm.mono mup) hG (h3.mono mup) hbR.terr) ?_
  refine D.q2 1 1 4 hR ?_;clear hR R
  refine G.z3 2 1 4 22 ?_
  refine G.cd (fun h22=>?_) fun h22=>?_
  ·have hf:fldZ B.pts.length B.terr≠0:=by
    intro e
    rw [e] at h22
    exact absurd h22 (by decide)
   refine G.z1 2 2 ?_
   refine G.rf ?_
   exact ⟨by unfold bookZ;rw [if_pos hf],rfl⟩
  ·have hf:¬ fldZ B.pts.length B.terr≠0:=by
    have h:fldZ B.pts.length B.terr=0:=by simpa using h22
    exact fun h2=>h2 h
   refine G.rp 1 fun R hR=>?_
   refine D.aa (bkT hb1 1) ?_
   refine D.af (colCheck_fn _ (hT.mono mup) _ B.col (h4.mono mup) hbR.col hbR.lcol) ?_
   refine D.q2 1 1 5 hR ?_;clear hR R
   refine G.z3 2 1 5 28 ?_
   refine G.cd (fun h28=>?_) fun h28=>?_
   ·have hc:colZ B.col≠0:=by
     intro e
     rw [e] at h28
     exact absurd h28 (by decide)
    refine G.z1 2 2 ?_
    refine G.rf ?_
    exact ⟨by unfold bookZ;rw [if_neg hf,if_pos hc],rfl⟩
   ·have hc:¬ colZ B.col≠0:=by
     have h:colZ B.col=0:=by simpa using h28
     exact fun h2=>h2 h
    refine G.rp 1 fun R hR=>?_
    refine D.aa (bkT hb1 1) ?_
    refine D.q2 2 1 33 hR ?_;clear hR R
    refine G.cd (fun h33=>?_) fun h33=>?_
    ·have hl:100<B.obs.length:=by
      simp only [decide_eq_true_eq] at h33
      omega
     refine G.z1 1 2 ?_
     refine G.rf ?_
     exact ⟨by unfold bookZ;rw [if_neg hf,if_neg hc,if_pos hl],rfl⟩
    ·have hl:¬ 100<B.obs.length:=by
      simp only [decide_eq_false_iff_not] at h33
      omega
     refine G.rg fun R hR=>?_
     refine D.makeMap keyS rfl rfl rfl rfl fl_ (fun b34=>?_)
     refine D.q2 1 1 6 hR ?_;clear hR R
     refine G.rp 1 fun R hR=>?_
     refine D.aa (bkT hb1 1) ?_
     refine D.q5 2 1 6 36 37 38 hR ?_;clear hR R
     refine G.loop (fun fr C' L' μ=>∃ (i:Nat),(i<=B.obs.length/\obsF B i=0)/\fr=[(1,[],.pointer (some ⟨b1,0,none⟩)),(6,[],.map (some b34)),(36,[],.slice A5 B.obs.length c5),(37,[],.int .i64 B.obs.length),(38,[],.int .i64 i)]/\L'=[.obj b34 (aD keyS.enc (metO (B.obs.take i)))]/\μ=B.obs.length-i) (h_5 1 6 36 37 38) ⟨0,⟨Nat.zero_le _,rfl⟩,rfl,rfl,rfl⟩ (fun fr C0' L0' m hle0 hI=>?_)
     obtain ⟨i,⟨hi,hno⟩,rfl,rfl,rfl⟩:=hI
     refine G.z6 1 1 6 36 37 38 39 ?_
     refine G.cd (fun h39=>?_) fun h39=>?_
     ·have hil:i<B.obs.length:=by simpa using h39
      obtain ⟨x,hx⟩:∃ x,B.obs[i]?=some x:=⟨B.obs[i],List.getElem?_eq_getElem hil⟩
      have hxr:=hbR.obs x (List.mem_of_getElem? hx)
      have htk:B.obs.take (i+1)=B.obs.take i++[x]:=by rw [List.take_add_one,hx];rfl
      refine G.rg fun R hR=>?_
      refine D.al (h5.mono mup) rfl rfl rfl rfl rfl rfl rfl rfl rfl rfl om_ (bt hx) fl_ (fun p40 hp40=>?_)
      refine D.aa hp40 ?_
      refine D.aj (fun b8=>?_)
      refine D.ag (j:=0) ?_
      refine D.e6 1 6 8 36 37 38 hR ?_;clear hR R
      refine G.rp 1 fun R hR=>?_
      refine D.aa (bkT hb1 2) ?_
      refine D.ac ?_
      refine D.aa (bkT hb1 1) ?_
      refine D.ae (.head _) ?_
      refine D.af (over_fn _ (hT.mono mup) _ _ B.pts B.tris B.col x (hm.mono mup) hG (h4.mono mup) hxr) ?_
      refine D.q7 1 1 6 8 9 36 37 38 hR ?_;clear hR R
      refine G.z8 2 1 6 8 9 36 37 38 49 ?_
      refine G.cd (fun h49=>?_) fun h49=>?_
      ·have ho:overZ B.pts B.tris B.col x≠0:=by
        intro e
        rw [e] at h49
        exact absurd h49 (by decide)
       have he:=obs_err hno hx (z:=overZ B.pts B.tris B.col x) (by unfold obZ;rw [if_pos ho]) ho
       refine G.z1 2 2 ?_
       refine G.rf ?_
       exact ⟨by unfold bookZ;rw [if_neg hf,if_neg hc,if_neg hl,he],rfl⟩
      ·have ho:¬ overZ B.pts B.tris B.col x≠0:=by
        have h:overZ B.pts B.tris B.col x=0:=by simpa using h49
        exact fun h2=>h2 h
       refine G.rp 2 fun R hR=>?_
       refine D.ae (.head _) ?_
       refine D.eW keyS (.tail _ (.head _)) rfl rfl rfl rfl rfl rfl rfl rfl kr_ rfl (metO_look (B.obs.take i) x.name) rfl rfl ?_
       refine D.e7 1 6 8 36 37 38 54 hR ?_;clear hR R
       refine G.cd (fun h54=>?_) fun h54=>?_
       ·have hin:x.name∈(B.obs.take i).map Obs.name:=of_decide_eq_true h54
        have he:=obs_err hno hx (z:=9) (by unfold obZ;rw [if_neg ho,if_pos hin]) (by decide)
        refine G.z1 1 2 ?_
        refine G.rf ?_
        exact ⟨by unfold bookZ;rw [if_neg hf,if_neg hc,if_neg hl,he],rfl⟩
       ·have hin:x.name ∉ (B.obs.take i).map Obs.name:=of_decide_eq_false h54
        have hnx:obsF B (i+1)=0:=by rw [obs_step hno hx];unfold obZ;rw [if_neg ho,if_neg hin]
        refine G.rp 2 fun R hR=>?_
        refine D.ae (.head _) ?_
        refine D.mapUpdate keyS (j:=1) rfl rfl rfl rfl rfl rfl rfl rfl rfl rfl kr_ ?_
        refine D.e5 1 6 36 37 38 hR ?_;clear hR R
        refine G.rg fun R hR=>?_
        refine D.am _ ?_
        refine D.q5 1 1 6 36 37 38 hR ?_;clear hR R
        refine G.cW 1 rfl ?_
        refine G.aY (L':=[.obj b34 (aD keyS.enc (metO (B.obs.take (i+1))))]) (by rw [htk,<- metO_new hin];rfl) ?_
        refine G.ax (m':=B.obs.length-(i+1)) om_ mup (h_5 1 6 36 37 38) ⟨i+1,⟨by omega,hnx⟩,rfl,rfl,rfl⟩
     ·have hil:i=B.obs.length:=by
       have:¬ i<B.obs.length:=by simpa using h39
       omega
      refine G.z1 1 2 ?_
      refine G.rf ?_
      refine ⟨?_,rfl⟩
      rw [hil] at hno
      unfold bookZ
      rw [if_neg hf,if_neg hc,if_neg hl,hno]
theorem checkAll_bad (C:Mem)(bv:Value)(v1 v2 tv cv ov:Value)(z:Int)(hbv:bv=.agg ⟨[v1,v2,tv,cv,ov]⟩)(hz:z≠0)(hm:∀ D:Mem,C.le D->Gives cx.P 23 [.agg ⟨[v1,v2]⟩] D (.int .i64 z)) :
  Gives cx.P 6 [bv] C (.int .i64 z):=by
 subst hbv
 refine Fn.it kr_ Tryz.func6 59 fun w0=>?_
 refine G.rg fun R hR=>?_
 refine D.aB (fun b1=>?_)
 refine D.q1 1 1 hR ?_
 refine G.freeze 0 rfl (fun C1 hle1 hb1=>?_)
 refine G.rp 1 fun R hR=>?_
 refine D.aa (bkT hb1 2) ?_
 refine D.af (hm _ mup) ?_
 refine D.q2 1 1 3 hR ?_
 refine G.z3 2 1 3 14 ?_
 refine G.cd (fun h14=>?_) fun h14=>?_
 ·refine G.z1 2 2 ?_
  refine G.rf ?_
  exact ⟨rfl,rfl⟩
 ·exfalso
  have h:z=0:=by simpa using h14
  exact hz h
theorem checkIndex_fn (C:Mem)(hT:Tabs C)(bv:Value)(B:Bk)(hB:BookIn C bv B)(hG:Good B.pts B.tris)(hbR:BookR B)(hz:bookZ B=0)(i:Nat)(hi:i<B.obs.length) :
  Gives cx.P 102 [bv,.int .i64 i] C (.int .i64 0):=by
 have hB0:=hB
 obtain ⟨v1,v2,tv,cv,ov,rfl,h1,h2,h3,h4,h5⟩:=id hB.ex
 obtain ⟨A5,c5,rfl,hq5,hq6,_⟩:=id h5
 have hmx:maxLen<=9223372036854775807:=by simp [maxLen]
 simp only [List.length_map] at h5 hq5 hB0 ⊢
 refine Fn.it kr_ Tryz.func102 20 fun w0=>?_
 refine G.rg fun R hR=>?_
 refine D.aB (fun b2=>?_)
 refine D.q2 1 1 2 hR ?_;clear hR R
 refine G.rg fun R hR=>?_
 refine D.ae (.head _) ?_
 refine D.ai (by have h:=checkAll_fn _ (hT.mono mup) _ B (hB0.mono mup) hG hbR;rw [hz] at h;exact h) rfl rfl rfl rfl rfl rfl rfl fl_ ?_
 refine D.q3 1 1 2 5 hR ?_;clear hR R
 refine G.z4 2 1 2 5 9 ?_
 refine G.cd (fun h9=>?_) fun h9=>?_
 ·exact absurd h9 (by decide)
 ·refine G.rp 5 fun R hR=>?_
  refine D.ae (.head _) ?_
  refine D.ps 2 ?_
  refine D.aF rfl rfl rfl rfl rfl rfl rfl rfl ?_
  refine D.e1 19 hR ?_;clear hR R
  refine G.cd (fun h19=>?_) fun h19=>?_
  ·exfalso
   simp only [Bool.or_eq_true,decide_eq_true_eq] at h19
   omega
  ·refine G.z1 1 4 ?_
   refine G.rf ?_
   exact ⟨rfl,rfl⟩

noncomputable def hgtQ (o:Obs)(z:Rat):Rat:=if o.kind=2 then z-cm o.depth else z
structure ObsAt (o:Obs)(p:Pt):Prop where
 x:o.x=qtx p.1
 y:o.y=qtx p.2
 q:QP 23 p
 r:PtR p
 d:o.kind=2->aV o.depth=true
theorem obsAt_val {o:Obs}{p:Pt}(h:ObsAt o p):(.agg ⟨[strV o.x,strV o.y]⟩:Value)=ptV p:=by unfold ptV encP;rw [h.x,h.y]
structure Terr (B:Bk)(fs:List Rat):Prop where
 e:B.terr=fs.map qtx
 l:fs.length=B.pts.length
 q:∀ q∈fs,QB 22 q
theorem terr_r {B:Bk}{fs:List Rat}(h:Terr B fs):∀ q∈fs,aV (qtx q)=true:=fun q hq=>ba (h.q q hq)
theorem height_fn (C:Mem)(hT:Tabs C)(bv:Value)(B:Bk)(fs:List Rat)(o:Obs)(p:Pt)(z:Rat)(hB:BookIn C bv B)(hG:Good B.pts B.tris)(hF:Terr B fs)(hO:ObsAt o p)(hz:valV B.pts B.tris fs p=.tuple #[strV (qtx z),.int .i64 0])(hq:QB 22 z) :
  Gives cx.P 103 [bv,.agg ⟨encO o⟩] C (.tuple #[strV (qtx (hgtQ o z)),.int .i64 0]):=by
 obtain ⟨v1,v2,tv,cv,ov,rfl,h1,h2,h3,h4,h5⟩:=id hB.ex
 have hm:MeshIn C (.agg ⟨[v1,v2]⟩) B.pts B.tris:=⟨v1,v2,rfl,h1,h2⟩
 rw [hF.e,<- encQ_S1] at h3
 refine Fn.it kr_ Tryz.func103 31 fun w0=>?_
 refine G.rg fun R hR=>?_
 refine D.aB (fun b2=>?_)
 refine D.aB (fun b3=>?_)
 refine D.q2 2 2 3 hR ?_;clear hR R
 refine G.freeze 1 rfl (fun C2 hle2 hb2=>?_)
 refine G.freeze 0 rfl (fun C3 hle3 hb3=>?_)
 refine G.rp 1 fun R hR=>?_
 refine D.aa (bkT hb2 2) ?_
 refine D.ac ?_
 refine D.aa (bkT hb2 1) ?_
 refine D.ac ?_
 refine D.aa (bkT hb3 2) ?_
 refine D.ai (by have h:=value_fn C3 (hT.mono mup) _ _ B.pts B.tris fs 22 (by decide) (by decide) (hm.mono mup) hG (h3.mono mup) hF.l hF.q (terr_r hF) p hO.q hO.r;rw [hz,<- obsAt_val hO] at h;exact h) rfl rfl rfl rfl rfl rfl rfl fl_ ?_
 refine D.q3 5 3 6 7 hR ?_;clear hR R
 refine G.rp 4 fun R hR=>?_
 refine D.aU rfl rfl rfl rfl rfl rfl (fun _=>PtrTo.blockT (Mem.get hb3 mup) _ 1) rfl rfl rfl ?_
 refine D.ac ?_
 refine D.aq ?_
 refine D.e4 3 6 7 24 hR ?_;clear hR R
 refine G.cd (fun h24=>?_) fun h24=>?_
 ·have hk:o.kind=2:=bA (Bool.and_eq_true_iff.1 h24).2
  obtain ⟨hd1,hd2⟩:=bW (hO.d hk)
  refine G.rp 2 fun R hR=>?_
  refine D.aa (bkT hb3 1) ?_
  refine D.ai (by have h:=bR C3 (hT.mono mup) z (cm o.depth) 23 (by decide) (by decide) (hq.le (by decide)) hd2;rw [<- hd1] at h;exact h) rfl rfl rfl rfl rfl rfl rfl fl_ ?_
  refine D.q2 1 6 7 hR ?_;clear hR R
  refine G.z2 4 4 5 ?_
  refine G.az (G.dropAll (G.aK rfl rfl rfl ?_))
  exact ⟨by unfold hgtQ;rw [if_pos hk],rfl⟩
 ·have hk:¬ o.kind=2:=by
   intro e
   rw [show ((((0:Int) == 0) && (o.kind == 2))=true) by rw [e];rfl] at h24
   cases h24
  refine G.z2 4 4 5 ?_
  refine G.az (G.dropAll (G.aK rfl rfl rfl ?_))
  exact ⟨by unfold hgtQ;rw [if_neg hk],rfl⟩
theorem heightX_fn (C:Mem)(hT:Tabs C)(bv:Value)(B:Bk)(fs:List Rat)(i:Nat)(o:Obs)(p:Pt)(z:Rat)(hB:BookIn C bv B)(hG:Good B.pts B.tris)(hbR:BookR B)(hbz:bookZ B=0)(hF:Terr B fs)(ho:B.obs[i]?=some o)(hO:ObsAt o p)(hz:valV B.pts B.tris fs p=.tuple #[strV (qtx z),.int .i64 0])(hq:QB 22 z)(hq2:QB 22 (hgtQ o z)) :
  Gives cx.P 64 [bv,.int .i64 i] C (.tuple #[strV (qtx (hgtQ o z)),.int .i64 0]):=by
 have hB0:=hB
 have hil:=(List.getElem?_eq_some_iff.1 ho).1
 obtain ⟨v1,v2,tv,cv,ov,rfl,h1,h2,h3,h4,h5⟩:=id hB.ex
 obtain ⟨A5,c5,rfl,hq5,hq6,_⟩:=id h5
 have hmx:maxLen<=9223372036854775807:=by simp [maxLen]
 simp only [List.length_map] at h5 hq5 hB0 ⊢
 refine Fn.it kr_ Tryz.func64 36 fun w0=>?_
 refine G.rg fun R hR=>?_
 refine D.aB (fun b2=>?_)
 refine D.q2 2 1 2 hR ?_;clear hR R
 refine G.freeze 0 rfl (fun C2 hle2 hb2=>?_)
 refine G.rg fun R hR=>?_
 refine D.aa (bkT hb2 5) ?_
 refine D.ac ?_
 refine D.af (checkIndex_fn _ (hT.mono mup) _ B (hB0.mono mup) hG hbR hbz i hil) ?_
 refine D.q3 1 1 2 6 hR ?_;clear hR R
 refine G.z4 2 1 2 6 13 ?_
 refine G.cd (fun h13=>?_) fun h13=>?_
 ·exact absurd h13 (by decide)
 ·refine G.aH [0,1,2,3,4,5,6,7,8,9,10,11] [(6,1)] rfl kr_ (fun R hB hR=>?_)
  refine D.aa (bkT hb2 5) ?_
  refine D.ac ?_
  refine D.aa (bkT hb2 1) ?_
  refine D.ac ?_
  refine D.al (h5.mono mup) rfl rfl rfl rfl rfl rfl rfl rfl rfl rfl om_ (bt ho) fl_ (fun p20 hp20=>?_)
  refine D.aa hp20 ?_
  refine D.aW (fun _=>(height_fn _ (hT.mono mup) _ B fs o p z (hB0.mono mup) hG hF hO hz hq)) ?_
  refine D.ps 5 ?_
  refine D.e2 7 8 hR ?_;clear hR hB R
  refine G.rp 4 fun R hR=>?_
  refine D.aW (fun _=>(cL _ (hT.mono mup) _ (r22_len hq2))) ?_
  refine D.ac ?_
  refine D.aq ?_
  refine D.e3 7 8 31 hR ?_;clear hR R
  refine G.cd (fun h31=>?_) fun h31=>?_
  ·exfalso
   rw [chk_ok hq2] at h31
   exact absurd h31 (by decide)
  ·refine G.z3 2 7 8 33 ?_
   refine G.cd (fun h33=>?_) fun h33=>?_
   ·exact absurd h33 (by decide)
   ·refine G.z2 3 4 5 ?_
    refine G.az (G.dropAll (G.aK rfl rfl rfl ?_))
    exact ⟨rfl,rfl⟩
def surfN (lo hi:Int)(n:Nat):List Nat:=(List.range n).filter fun k:Nat=>decide (lo<=(k:Int)/\(k:Int)<hi)
def surfLo (col:List Lay)(o:Obs):Int:=if o.kind=1 then idxF (isU o.upper) col 0-1 else idxF (isU o.lower) col 0
def surfHi (col:List Lay)(o:Obs):Int:=if o.kind=1 then idxF (isU o.upper) col 0+1 else idxF (isU o.upper) col 0
def bF (col:List Lay)(o:Obs):List Nat:=surfN (surfLo col o) (surfHi col o) (col.length-1)
theorem surf_end {lo hi:Int}{n i:Nat}(h1:max lo 0<=(i:Int))(h2:(i:Int)<=max (max lo 0) (min hi n))(h3:min hi (n:Int)<=(i:Int)):(List.range i).filter (fun k:Nat=>decide (lo<=(k:Int)))=surfN lo hi n:=by
 unfold surfN
 have hs:∀ m:Nat,(List.range (i+m)).filter (fun k:Nat=>decide (lo<=(k:Int)/\(k:Int)<hi/\k<n))=(List.range i).filter (fun k:Nat=>decide (lo<=(k:Int)/\(k:Int)<hi/\k<n)):=by
  intro m
  induction m with
  | zero=>rfl
  | succ m ih =>
   rw [show i+(m+1)=i+m+1 by omega,List.range_succ,List.filter_append,ih,List.filter_cons]
   rw [if_neg (by simp only [decide_eq_true_eq];omega)]
   simp
 have e1:(List.range i).filter (fun k:Nat=>decide (lo<=(k:Int)))=(List.range i).filter (fun k:Nat=>decide (lo<=(k:Int)/\(k:Int)<hi/\k<n)):=by
  refine List.filter_congr (fun k hk=>?_)
  rw [List.mem_range] at hk
  rw [decide_eq_decide]
  omega
 have e2:(List.range n).filter (fun k:Nat=>decide (lo<=(k:Int)/\(k:Int)<hi))=(List.range n).filter (fun k:Nat=>decide (lo<=(k:Int)/\(k:Int)<hi/\k<n)):=by
  refine List.filter_congr (fun k hk=>?_)
  rw [List.mem_range] at hk
  rw [decide_eq_decide]
  omega
 rw [e1,e2]
 rcases Nat.le_total i n with hle | hle
 ·obtain ⟨m,rfl⟩:=Nat.exists_eq_add_of_le hle
  exact (hs m).symm
 ·have hs2:∀ m:Nat,(List.range (n+m)).filter (fun k:Nat=>decide (lo<=(k:Int)/\(k:Int)<hi/\k<n))=(List.range n).filter (fun k:Nat=>decide (lo<=(k:Int)/\(k:Int)<hi/\k<n)):=by
   intro m
   induction m with
   | zero=>rfl
   | succ m ih =>
    rw [show n+(m+1)=n+m+1 by omega,List.range_succ,List.filter_append,ih,List.filter_cons]
    rw [if_neg (by simp only [decide_eq_true_eq];omega)]
    simp
  obtain ⟨m,rfl⟩:=Nat.exists_eq_add_of_le hle
  exact hs2 m
theorem idxF_range {α:Type}(p:α->Bool)(l:List α):-1<=idxF p l 0/\idxF p l 0<=(l.length:Int):=by
 rcases idxF_cases p l with ⟨h,_⟩ | ⟨i,x,h,h2,_⟩
 ·omega
 ·have:=(List.getElem?_eq_some_iff.1 h2).1
  omega
theorem surfaces_fn (C:Mem)(_hT:Tabs C)(bv:Value)(B:Bk)(o:Obs)(hB:BookIn C bv B)(hbl:B.col.length<=1000)(hb0:B.col≠[]) :
  Pur cx.P 104 [bv,.agg ⟨encO o⟩] C fun u D=>Sl D 1 u ((bF B.col o).map encN):=by
 obtain ⟨v1,v2,tv,cv,ov,rfl,h1,h2,h3,h4,h5⟩:=id hB.ex
 obtain ⟨A4,c4,rfl,hq5,hq6,_⟩:=id h4
 have hmx:maxLen<=9223372036854775807:=by simp [maxLen]
 have hcp:=List.length_pos_iff.2 hb0
 have hr1:=idxF_range (isU o.lower) B.col
 have hr2:=idxF_range (isU o.upper) B.col
 obtain ⟨lw,hlw⟩:∃ z,idxF (isU o.lower) B.col 0=z:=⟨_,rfl⟩
 obtain ⟨up,hup⟩:∃ z,idxF (isU o.upper) B.col 0=z:=⟨_,rfl⟩
 obtain ⟨lo,hlo⟩:∃ z,surfLo B.col o=z:=⟨_,rfl⟩
 obtain ⟨hi,hhi⟩:∃ z,surfHi B.col o=z:=⟨_,rfl⟩
 obtain ⟨n,hn⟩:∃ n,B.col.length-1=n:=⟨_,rfl⟩
 unfold bF
 rw [hlo,hhi,hn]
 unfold surfLo at hlo
 unfold surfHi at hhi
 rw [hlw] at hr1 hlo
 rw [hup] at hr2 hlo hhi
 simp only [List.length_map] at h4 hq5 ⊢
 have hlob:-2<=lo/\lo<=1000:=by rw [<- hlo];split <;> omega
 have hhib:-2<=hi/\hi<=1001:=by rw [<- hhi];split <;> omega
 refine Fn.it kr_ Tryz.func104 43 fun w0=>?_
 refine G.rg fun R hR=>?_
 refine D.aB (fun b2=>?_)
 refine D.aB (fun b3=>?_)
 refine D.q2 1 2 3 hR ?_;clear hR R
 refine G.freeze 1 rfl (fun C2 hle2 hb2=>?_)
 refine G.freeze 0 rfl (fun C3 hle3 hb3=>?_)
 refine G.aH [0,1,2,3,4,5,6,7,8,9,10,11] [(4,1),(9,1)] rfl kr_ (fun R hB hR=>?_)
 refine D.ac ?_
 refine D.aa (bkT hb2 1) ?_
 refine D.ac ?_
 refine D.aa (bkT hb3 1) ?_
 refine D.aC (fun _=>(by have h:=bookIdx_fn C3 _ B.col o.lower (h4.mono mup);rw [hlw] at h;exact h)) rfl rfl rfl rfl rfl rfl rfl rfl rfl ?_
 refine D.ac ?_
 refine D.aa (bkT hb2 1) ?_
 refine D.ac ?_
 refine D.aa (bkT hb3 1) ?_
 refine D.aC (fun _=>(by have h:=bookIdx_fn C3 _ B.col o.upper (h4.mono mup);rw [hup] at h;exact h)) rfl rfl rfl rfl rfl rfl rfl rfl rfl ?_
 refine D.ps 2 ?_
 refine D.e4 2 3 5 6 hR ?_;clear hR hB R
 refine G.rp 1 fun R hR=>?_
 refine D.aa (bkT hb3 1) ?_
 refine D.q4 1 2 5 6 21 hR ?_;clear hR R
 refine G.cut (fun fr C' L' μ=>(True)/\fr=[(2,[],.pointer (some ⟨b2,0,none⟩)),(5,[],.int .i64 lo),(6,[],.int .i64 hi)]/\L'=[]) ?_ (fun fr C21 L21 μ hle21 hI=>?_)
 ·refine G.cd (fun h21=>?_) fun h21=>?_
  ·have hk:o.kind=1:=bA h21
   rw [if_pos hk] at hlo hhi
   subst hlo hhi
   refine G.rp 1 fun R hR=>?_
   refine D.am _ ?_
   refine D.ac ?_
   refine D.am _ ?_
   refine D.q3 2 2 5 6 hR ?_;clear hR R
   refine G.aw 0 (Mem.le.refl _) (h_3 2 5 6) ⟨trivial,rfl,rfl⟩
  ·have hk:¬ o.kind=1:=by
    intro e
    rw [show ((o.kind == 1)=true) by rw [e];rfl] at h21
    cases h21
   rw [if_neg hk] at hlo hhi
   subst hlo hhi
   refine G.aw 0 (Mem.le.refl _) (h_3 2 5 6) ⟨trivial,rfl,rfl⟩
 ·obtain ⟨_,rfl,rfl⟩:=hI
  refine G.z4 1 2 5 6 7 ?_
  obtain ⟨i0,hi0⟩:∃ i0:Nat,max lo 0=(i0:Int):=⟨(max lo 0).toNat,by omega⟩
  refine G.rp 1 fun R hR=>?_
  refine D.max (((i0:Nat):Int)) rfl rfl rfl rfl rfl rfl hi0 rfl rfl ?_
  refine D.q4 1 2 6 7 8 hR ?_;clear hR R
  refine G.nilArr 3 1 ?_
  refine G.loop (fun fr C' L' μ=>∃ (i:Nat)(out:List Nat)(w:Value),(max lo 0<=(i:Int)/\(i:Int)<=max (max lo 0) (min hi n)/\out=(List.range i).filter (fun k:Nat=>decide (lo<=(k:Int))))/\fr=[(2,[],.pointer (some ⟨b2,0,none⟩)),(6,[],.int .i64 hi),(7,[],w),(8,[],.int .i64 i)]/\L'=[.arr w 3 1 out.length (out.map encN).flatten]/\μ=2000-i) (h_4 2 6 7 8) ⟨i0,[],_,⟨by omega,by omega,by
   symm
   rw [List.filter_eq_nil_iff]
   intro k hk
   rw [List.mem_range] at hk
   simp only [decide_eq_true_eq]
   omega⟩,rfl,rfl,rfl⟩ (fun fr C0' L0' m hle0 hI=>?_)
  obtain ⟨i,out,w,⟨hi1,hi2,hout⟩,rfl,rfl,rfl⟩:=hI
  refine G.rp 3 fun R hR=>?_
  refine D.aa (bkT hb2 1) ?_
  refine D.ac ?_
  refine D.am _ ?_
  refine D.min ((min hi (n:Int))) rfl rfl rfl rfl rfl rfl om_ rfl rfl ?_
  refine D.q5 1 2 6 7 8 35 hR ?_;clear hR R
  refine G.cd (fun h35=>?_) fun h35=>?_
  ·have hlt:(i:Int)<min hi (n:Int):=of_decide_eq_true h35
   have hol:out.length<=i:=by
    rw [hout]
    exact Nat.le_trans (List.length_filter_le _ _) (by simp)
   have hnew:(List.range (i+1)).filter (fun k:Nat=>decide (lo<=(k:Int)))=out++[i]:=by
    rw [List.range_succ,List.filter_append,<- hout,List.filter_cons,if_pos (by simp only [decide_eq_true_eq];omega)]
    rfl
   refine G.rp 2 fun R hR=>?_
   refine D.ah [encN i] (fun p40 C40 hle40 hs40=>?_)
   refine D.append (j:=0) rfl rfl rfl rfl rfl rfl rfl rfl rfl rfl rfl hs40 rfl (by simp only [List.length_singleton,maxLen];omega) (by simp only [List.length_singleton];omega) fl_ (fun v41=>?_)
   refine D.q4 1 2 6 7 8 hR ?_;clear hR R
   refine G.rp 1 fun R hR=>?_
   refine D.am _ ?_
   refine D.q4 1 2 6 7 8 hR ?_;clear hR R
   refine G.aY (L':=[.arr v41 3 1 (out++[i]).length ((out++[i]).map encN).flatten]) (by simp [encN]) ?_
   refine G.ax (m':=2000-(i+1)) om_ mup (h_4 2 6 7 8) ⟨i+1,out++[i],v41,⟨by omega,by omega,hnew.symm⟩,rfl,rfl,rfl⟩
  ·have hge:min hi (n:Int)<=(i:Int):=by
    have:=of_decide_eq_false h35
    omega
   refine G.z1 2 4 ?_
   refine G.freezeArr 0 (out.map encN) rfl rfl (by intro r hr;obtain ⟨y,_,rfl⟩:=List.mem_map.1 hr;rfl) (by simp) (fun Cg hg hsl3=>?_)
   refine G.rf ?_
   exact ⟨rfl,by rw [<- surf_end hi1 hi2 hge,<- hout];exact hsl3⟩
theorem surfacesX_fn (C:Mem)(hT:Tabs C)(bv:Value)(B:Bk)(i:Nat)(o:Obs)(hB:BookIn C bv B)(hG:Good B.pts B.tris)(hbR:BookR B)(hbz:bookZ B=0)(ho:B.obs[i]?=some o) :
  Pur cx.P 65 [bv,.int .i64 i] C fun u D=>∃ v,u=.tuple #[v,.int .i64 0]/\Sl D 1 v ((bF B.col o).map encN):=by
 have hB0:=hB
 have hil:=(List.getElem?_eq_some_iff.1 ho).1
 have hcz:colZ B.col=0:=by
  unfold bookZ at hbz
  split at hbz
  ·rename_i h;exact absurd hbz h
  ·split at hbz
   ·rename_i h;exact absurd hbz h
   ·rename_i h;exact Classical.byContradiction h
 have hc0:B.col≠[]:=by
  intro e
  rw [e] at hcz
  exact absurd hcz (by decide)
 have hc60:B.col.length<=1000:=by
  unfold colZ at hcz
  rw [if_neg hc0] at hcz
  split at hcz
  ·exact absurd hcz (by decide)
  ·omega
 obtain ⟨v1,v2,tv,cv,ov,rfl,h1,h2,h3,h4,h5⟩:=id hB.ex
 obtain ⟨A5,c5,rfl,hq5,hq6,_⟩:=id h5
 have hmx:maxLen<=9223372036854775807:=by simp [maxLen]
 simp only [List.length_map] at h5 hq5 hB0 ⊢
 refine Fn.it kr_ Tryz.func65 20 fun w0=>?_
 refine G.rg fun R hR=>?_
 refine D.aB (fun b2=>?_)
 refine D.q2 2 1 2 hR ?_;clear hR R
 refine G.freeze 0 rfl (fun C2 hle2 hb2=>?_)
 refine G.rg fun R hR=>?_
 refine D.aa (bkT hb2 5) ?_
 refine D.ac ?_
 refine D.af (checkIndex_fn _ (hT.mono mup) _ B (hB0.mono mup) hG hbR hbz i hil) ?_
 refine D.q3 1 1 2 6 hR ?_;clear hR R
 refine G.z4 2 1 2 6 11 ?_
 refine G.cd (fun h11=>?_) fun h11=>?_
 ·exact absurd h11 (by decide)
 ·refine G.aH [0,1,2,3,4,5,6,7,8] [] rfl kr_ (fun R hB hR=>?_)
  refine D.aa (bkT hb2 5) ?_
  refine D.ac ?_
  refine D.aa (bkT hb2 1) ?_
  refine D.ac ?_
  refine D.al (h5.mono mup) rfl rfl rfl rfl rfl rfl rfl rfl rfl rfl om_ (bt ho) fl_ (fun p17 hp17=>?_)
  refine D.aa hp17 ?_
  refine D.aX (surfaces_fn _ (hT.mono mup) _ B o (hB0.mono mup) hc60 hc0) (fun v19 C19 hle19 hq19=>?_)
  refine D.ps 2 ?_
  refine D.e2 4 5 hR ?_;clear hR hB R
  refine G.az (G.dropAll (G.aK rfl rfl rfl ?_))
  exact ⟨rfl,_,rfl,hq19⟩

theorem mul_gives (x y:Nat)(hx:x<18446744073709551616)(hy:y<18446744073709551616)(C:Mem):Gives cx.P 136 [.int .u64 x,.int .u64 y] C (.tuple #[.int .u64 ((x*y / 18446744073709551616:Nat):Int),.int .u64 ((x*y % 18446744073709551616:Nat):Int)]) :=
 Gives.ofCalls kr_ (fun w=>Any.bits_Mul Tryz.mul x y hx hy w) C

theorem dC {a:Value}{n k m:Nat}{tl:List Value}(_hn:k+m<=n)(hk:m<=k)(_htl:tl.length=n-k) :
  au (List.replicate k a++tl) ((List.replicate k a++tl).take m) k=List.replicate (k+m) a++tl.drop m:=by
 have h1:(List.replicate k a++tl).take m=List.replicate m a:=by
  rw [List.take_append_of_le_length (by simpa using hk),List.take_replicate,Nat.min_eq_left hk]
 have h2:(List.replicate k a++tl).take k=List.replicate k a:=by
  rw [List.take_append_of_le_length (by simp),List.take_replicate,Nat.min_self]
 have h3:(List.replicate k a++tl).drop (k+m)=tl.drop m:=by
  rw [List.drop_append,List.length_replicate,List.drop_eq_nil_of_le (by simp),List.nil_append]
  congr 1;omega
 unfold au
 rw [h1,h2,List.length_replicate,h3,List.replicate_append_replicate]

theorem zrow_rep (a:Value)(n:Nat):zrow [a] n=List.replicate n a:=by
 rw [cY]
 induction n with
 | zero=>rfl
 | succ n ih=>rw [List.replicate_succ,List.flatten_cons,ih,List.replicate_succ];rfl
theorem mul_one_gives (n:Nat)(hn:n<18446744073709551616)(C:Mem):Gives cx.P 136 [.int .u64 (1:Int),.int .u64 n] C (.tuple #[.int .u64 0,.int .u64 n]):=by
 have h:=mul_gives 1 n om_ hn C
 have e1:1*n / 18446744073709551616=0:=by omega
 have e2:1*n % 18446744073709551616=n:=by omega
 rw [e1,e2] at h
 exact h
theorem repeatR_fn (C:Mem)(v:Value)(n:Nat)(s:Str)(hv:Sl C 1 v [[strV s]])(hn:n<=1000000):Jog.Fn cx.P 100 [v,.int .i64 n] C [] fun u _C' L'=>∃ b,u=.slice (some ⟨b,0,none⟩) n n/\L'=[.arr u 32 1 n (List.replicate n (strV s))]:=by
 have hv0:=hv
 obtain ⟨A,c,rfl,_⟩:=hv0
 refine Fn.it kr_ Tryz.func100 48 fun w0=>?_
 refine G.z2 1 0 1 ?_
 refine G.z3 2 0 1 10 ?_
 refine G.cd (fun h10=>?_) fun h10=>?_
 ·simp at h10;omega
 ·refine G.rp 2 fun R hR=>?_
  refine D.cR (c:=1) rfl rfl rfl rfl rfl rfl rfl rfl rfl fl_ ?_
  refine D.ac ?_
  refine D.cR (c:=(n:Int)) rfl rfl rfl rfl rfl rfl rfl rfl (by rw [IntKind.wrap_u64];omega) fl_ ?_
  refine D.ai (mul_one_gives n om_ _) rfl rfl rfl rfl rfl rfl rfl fl_ ?_
  refine D.q3 5 0 5 6 hR ?_
  refine G.rp 5 fun R hR=>?_
  refine D.aF rfl rfl rfl rfl rfl rfl rfl rfl ?_
  refine D.e3 0 6 26 hR ?_
  refine G.cd (fun h26=>?_) fun h26=>?_
  ·simp at h26;omega
  ·refine G.rp 1 fun R hR=>?_
   refine D.cR (c:=(n:Int)) rfl rfl rfl rfl rfl rfl rfl rfl (by rw [IntKind.wrap_i64];omega) fl_ ?_
   refine D.cP rfl rfl rfl rfl rfl rfl rfl rfl rfl (Nat.le_refl _) (by show 16*n<=281474976710656;omega) (by simp only [maxLen];omega) fl_ (fun b30=>?_)
   refine D.q2 1 0 7 hR ?_
   refine G.rp 2 fun R hR=>?_
   refine D.copyC (j:=0) (q:=min 1 n) rfl rfl rfl rfl rfl rfl rfl rfl rfl rfl rfl rfl hv rfl rfl (by rw [cE];show 0+min 1 n*1<=n*1;omega) fl_ ?_
   refine D.q2 1 7 8 hR ?_
   have hst0:au (zrow [strV []] n) (([[strV s]]:List (List Value)).take (min 1 n)).flatten 0=List.replicate (min 1 n) (strV s)++List.replicate (n-min 1 n) (strV []):=by
    rw [zrow_rep]
    cases n with
    | zero=>rfl
    | succ n=>rw [show min 1 (n+1)=1 by omega,List.replicate_succ];rfl
   refine G.aY (L':=[.arr (.slice (some ⟨b30,0,none⟩) n n) 32 1 n (List.replicate (min 1 n) (strV s)++List.replicate (n-min 1 n) (strV []))]) (by rw [<- hst0];rfl) ?_
   refine G.loop (fun fr C' L' μ=>∃ (k:Nat),(k<=n/\min 1 n<=k)/\fr=[(7,[],.slice (some ⟨b30,0,none⟩) n n),(8,[],.int .i64 k)]/\L'=[.arr (.slice (some ⟨b30,0,none⟩) n n) 32 1 n (List.replicate k (strV s)++List.replicate (n-k) (strV []))]/\μ=n-k) (h_2 7 8) ⟨min 1 n,⟨Nat.min_le_right _ _,Nat.le_refl _⟩,rfl,rfl,rfl⟩ (fun fr C0' L0' m hle0 hI=>?_)
   obtain ⟨k,⟨hk,hk1⟩,rfl,rfl,rfl⟩:=hI
   refine G.z3 4 7 8 37 ?_
   refine G.cd (fun h37=>?_) fun h37=>?_
   ·simp only [decide_eq_true_eq] at h37
    have hkn:k<n:=by omega
    have hk2:1<=k:=by omega
    refine G.aH [0,1,2,3,4,5,6,7,8,9] [] rfl kr_ (fun R hB hR=>?_)
    refine D.ps 3 ?_
    refine D.dr k n n rfl rfl rfl rfl rfl rfl rfl rfl rfl rfl rfl rfl (fun _=>⟨.inr ⟨_,rfl⟩,.inl ⟨rfl,rfl⟩,.inl ⟨rfl,rfl⟩,hk,Nat.le_refl _,Nat.le_refl _⟩) rfl rfl ?_
    refine D.ps 2 ?_
    refine D.dr 0 k n rfl rfl rfl rfl rfl rfl rfl rfl rfl rfl rfl rfl (fun _=>⟨.inl ⟨rfl,rfl⟩,.inr ⟨_,rfl⟩,.inl ⟨rfl,rfl⟩,Nat.zero_le _,hk,Nat.le_refl _⟩) rfl rfl ?_
    refine D.copyS (j:=0) (off:=k) (g0:=b30) (dl:=n-k) (dc:=n-k) (sl:=k-0) (sc:=n-0) (q:=min k (n-k)) rfl rfl rfl rfl rfl rfl rfl rfl (by show some (Value.slice (if n=k then some (⟨b30,0,none⟩:Addr) else (some (⟨b30,0,none⟩:Addr)).map (·.add (k*1))) (n-k) (n-k))=_;rw [if_neg om_];simp [Addr.add_lit]) (by show some (Value.slice (if n=0 then some (⟨b30,0,none⟩:Addr) else (some (⟨b30,0,none⟩:Addr)).map (·.add (0*1))) (k-0) (n-0))=_;split <;> simp [Addr.add_lit]) rfl rfl (by simp [oneB,strV]) (by simp;omega) fl_ ?_
    refine D.cG (((k+min k (n-k):Nat):Int)) rfl rfl rfl rfl om_ om_ om_ rfl rfl ?_
    refine D.q2 1 7 8 hR ?_
    refine G.aY (L':=[.arr (.slice (some ⟨b30,0,none⟩) n n) 32 1 n (List.replicate (k+min k (n-k)) (strV s)++List.replicate (n-(k+min k (n-k))) (strV []))]) (by rw [dC (n:=n) om_ (Nat.min_le_left _ _) (by simp),List.drop_replicate,Nat.sub_sub];rfl) ?_
    refine G.ax (m':=n-(k+min k (n-k))) om_ hle0 (h_2 7 8) ⟨k+min k (n-k),⟨by omega,by omega⟩,rfl,rfl,rfl⟩
   ·simp only [decide_eq_false_iff_not] at h37
    have hkn:k=n:=by omega
    subst hkn
    refine G.z1 2 4 ?_
    refine G.az (G.fin1 rfl rfl ?_)
    exact ⟨b30,rfl,by simp⟩
theorem repeatF_fn (C:Mem)(v:Value)(n:Nat)(s:Str)(hv:Sl C 1 v [[strV s]])(hn:n<=1000000):Jog.Fn cx.P 105 [v,.int .i64 n] C [] fun u _C' L'=>∃ b,u=.slice (some ⟨b,0,none⟩) n n/\L'=[.arr u 32 1 n (List.replicate n (strV s))]:=by
 have hv0:=hv
 obtain ⟨A,c,rfl,_⟩:=hv0
 refine Fn.it kr_ Tryz.func105 48 fun w0=>?_
 refine G.z2 1 0 1 ?_
 refine G.z3 2 0 1 10 ?_
 refine G.cd (fun h10=>?_) fun h10=>?_
 ·simp at h10;omega
 ·refine G.rp 2 fun R hR=>?_
  refine D.cR (c:=1) rfl rfl rfl rfl rfl rfl rfl rfl rfl fl_ ?_
  refine D.ac ?_
  refine D.cR (c:=(n:Int)) rfl rfl rfl rfl rfl rfl rfl rfl (by rw [IntKind.wrap_u64];omega) fl_ ?_
  refine D.ai (mul_one_gives n om_ _) rfl rfl rfl rfl rfl rfl rfl fl_ ?_
  refine D.q3 5 0 5 6 hR ?_
  refine G.rp 5 fun R hR=>?_
  refine D.aF rfl rfl rfl rfl rfl rfl rfl rfl ?_
  refine D.e3 0 6 26 hR ?_
  refine G.cd (fun h26=>?_) fun h26=>?_
  ·simp at h26;omega
  ·refine G.rp 1 fun R hR=>?_
   refine D.cR (c:=(n:Int)) rfl rfl rfl rfl rfl rfl rfl rfl (by rw [IntKind.wrap_i64];omega) fl_ ?_
   refine D.cP rfl rfl rfl rfl rfl rfl rfl rfl rfl (Nat.le_refl _) (by show 16*n<=281474976710656;omega) (by simp only [maxLen];omega) fl_ (fun b30=>?_)
   refine D.q2 1 0 7 hR ?_
   refine G.rp 2 fun R hR=>?_
   refine D.copyC (j:=0) (q:=min 1 n) rfl rfl rfl rfl rfl rfl rfl rfl rfl rfl rfl rfl hv rfl rfl (by rw [cE];show 0+min 1 n*1<=n*1;omega) fl_ ?_
   refine D.q2 1 7 8 hR ?_
   have hst0:au (zrow [strV []] n) (([[strV s]]:List (List Value)).take (min 1 n)).flatten 0=List.replicate (min 1 n) (strV s)++List.replicate (n-min 1 n) (strV []):=by
    rw [zrow_rep]
    cases n with
    | zero=>rfl
    | succ n=>rw [show min 1 (n+1)=1 by omega,List.replicate_succ];rfl
   refine G.aY (L':=[.arr (.slice (some ⟨b30,0,none⟩) n n) 32 1 n (List.replicate (min 1 n) (strV s)++List.replicate (n-min 1 n) (strV []))]) (by rw [<- hst0];rfl) ?_
   refine G.loop (fun fr C' L' μ=>∃ (k:Nat),(k<=n/\min 1 n<=k)/\fr=[(7,[],.slice (some ⟨b30,0,none⟩) n n),(8,[],.int .i64 k)]/\L'=[.arr (.slice (some ⟨b30,0,none⟩) n n) 32 1 n (List.replicate k (strV s)++List.replicate (n-k) (strV []))]/\μ=n-k) (h_2 7 8) ⟨min 1 n,⟨Nat.min_le_right _ _,Nat.le_refl _⟩,rfl,rfl,rfl⟩ (fun fr C0' L0' m hle0 hI=>?_)
   obtain ⟨k,⟨hk,hk1⟩,rfl,rfl,rfl⟩:=hI
   refine G.z3 4 7 8 37 ?_
   refine G.cd (fun h37=>?_) fun h37=>?_
   ·simp only [decide_eq_true_eq] at h37
    have hkn:k<n:=by omega
    have hk2:1<=k:=by omega
    refine G.aH [0,1,2,3,4,5,6,7,8,9] [] rfl kr_ (fun R hB hR=>?_)
    refine D.ps 3 ?_
    refine D.dr k n n rfl rfl rfl rfl rfl rfl rfl rfl rfl rfl rfl rfl (fun _=>⟨.inr ⟨_,rfl⟩,.inl ⟨rfl,rfl⟩,.inl ⟨rfl,rfl⟩,hk,Nat.le_refl _,Nat.le_refl _⟩) rfl rfl ?_
    refine D.ps 2 ?_
    refine D.dr 0 k n rfl rfl rfl rfl rfl rfl rfl rfl rfl rfl rfl rfl (fun _=>⟨.inl ⟨rfl,rfl⟩,.inr ⟨_,rfl⟩,.inl ⟨rfl,rfl⟩,Nat.zero_le _,hk,Nat.le_refl _⟩) rfl rfl ?_
    refine D.copyS (j:=0) (off:=k) (g0:=b30) (dl:=n-k) (dc:=n-k) (sl:=k-0) (sc:=n-0) (q:=min k (n-k)) rfl rfl rfl rfl rfl rfl rfl rfl (by show some (Value.slice (if n=k then some (⟨b30,0,none⟩:Addr) else (some (⟨b30,0,none⟩:Addr)).map (·.add (k*1))) (n-k) (n-k))=_;rw [if_neg om_];simp [Addr.add_lit]) (by show some (Value.slice (if n=0 then some (⟨b30,0,none⟩:Addr) else (some (⟨b30,0,none⟩:Addr)).map (·.add (0*1))) (k-0) (n-0))=_;split <;> simp [Addr.add_lit]) rfl rfl (by simp [oneB,strV]) (by simp;omega) fl_ ?_
    refine D.cG (((k+min k (n-k):Nat):Int)) rfl rfl rfl rfl om_ om_ om_ rfl rfl ?_
    refine D.q2 1 7 8 hR ?_
    refine G.aY (L':=[.arr (.slice (some ⟨b30,0,none⟩) n n) 32 1 n (List.replicate (k+min k (n-k)) (strV s)++List.replicate (n-(k+min k (n-k))) (strV []))]) (by rw [dC (n:=n) om_ (Nat.min_le_left _ _) (by simp),List.drop_replicate,Nat.sub_sub];rfl) ?_
    refine G.ax (m':=n-(k+min k (n-k))) om_ hle0 (h_2 7 8) ⟨k+min k (n-k),⟨by omega,by omega⟩,rfl,rfl,rfl⟩
   ·simp only [decide_eq_false_iff_not] at h37
    have hkn:k=n:=by omega
    subst hkn
    refine G.z1 2 4 ?_
    refine G.az (G.fin1 rfl rfl ?_)
    exact ⟨b30,rfl,by simp⟩

theorem zeros_fn (C:Mem)(s p:Nat)(h:s*p<=100000):Jog.Fn cx.P 61 [shapeV s p] C [] fun u _C' L'=>∃ b,u=.slice (some ⟨b,0,none⟩) (s*p:Nat) (s*p:Nat)/\L'=[.arr u 32 1 (s*p) (List.replicate (s*p) (strV [48]))]:=by
 refine Fn.it kr_ Tryz.func61 7 fun w0=>?_
 refine G.rg fun R hR=>?_
 refine D.aB (fun b1=>?_)
 refine D.q1 1 1 hR ?_
 refine G.aI [(3,3)] rfl (fun R hR=>?_)
 refine D.ah [[strV [48]]] (fun p3 C3 hle3 hs3=>?_)
 refine D.ae (.head _) ?_
 refine D.ai (scount_fn _ s p om_) rfl rfl rfl rfl rfl rfl rfl fl_ ?_
 refine D.call (repeatR_fn _ _ (s*p) [48] (hs3.mono mup) om_) rfl (.inr (by decide)) rfl rfl rfl rfl rfl rfl (List.Perm.refl _) fl_ (fun v6 C6 L6 hle6 hq6=>?_)
 refine D.q1 1 2 hR ?_
 obtain ⟨b,rfl,rfl⟩:=hq6
 refine G.cW 1 rfl ?_
 refine G.az (G.fin1 rfl rfl ?_)
 exact ⟨b,rfl,rfl⟩

def ofE (z:Int)(s p:Nat):Int:=if z≠0 then z else if 60<s*p then 4 else 0
def ofS (e:Int)(s p:Nat):Value:=if e=0 then shapeV s p else shapeV 0 0
structure BookZ (C:Mem)(bv:Value)(B:Bk)(z:Int):Prop where
 i:BookIn C bv B
 ch:∀ D:Mem,C.le D->Gives cx.P 6 [bv] D (.int .i64 z)
 ne:z=0->B.col≠[]
 lc:B.col.length<=1000
 lp:B.pts.length<=400
theorem BookZ.mono {C D:Mem}{bv:Value}{B:Bk}{z:Int}(h:BookZ C bv B z)(hl:C.le D):BookZ D bv B z:=⟨h.i.mono hl,fun E hE=>h.ch E (fun b o hb=>hE b o (hl b o hb)),h.ne,h.lc,h.lp⟩
def bs (B:Bk):Nat:=B.col.length-1
def bp (B:Bk):Nat:=B.pts.length
theorem sp_le {C:Mem}{bv:Value}{B:Bk}{z:Int}(h:BookZ C bv B z):bs B*bp B<=400000:=by
 have h1:=h.lc
 have h2:=h.lp
 have:bs B*bp B<=1000*400:=Nat.mul_le_mul (by unfold bs;omega) (by unfold bp;omega)
 omega
theorem of_fn (C:Mem)(bv:Value)(B:Bk)(z:Int)(hZ:BookZ C bv B z):Gives cx.P 27 [bv] C (.tuple #[ofS (ofE z (bs B) (bp B)) (bs B) (bp B),.int .i64 (ofE z (bs B) (bp B))]):=by
 obtain ⟨v1,v2,tv,cv,ov,rfl,h1,h2,h3,h4,h5⟩:=id hZ.i.ex
 obtain ⟨A1,c1,rfl,hq1,hq2,_⟩:=id h1
 obtain ⟨A4,c4,rfl,hq3,hq4,_⟩:=id h4
 have hsp:=sp_le hZ
 have hlc:=hZ.lc
 have hch:=hZ.ch
 have hmx:maxLen<=9223372036854775807:=by simp [maxLen]
 simp only [List.length_map] at hch ⊢
 refine Fn.it kr_ Tryz.func27 26 fun w0=>?_
 refine G.rg fun R hR=>?_
 refine D.aB (fun b1=>?_)
 refine D.aj (fun b2=>?_)
 refine D.q2 1 1 2 hR ?_
 refine G.freeze 1 rfl (fun C1 hle1 hb1=>?_)
 refine G.rg fun R hR=>?_
 refine D.aa (bkT hb1 5) ?_
 refine D.af (hch _ mup) ?_
 refine D.q3 1 1 2 4 hR ?_
 refine G.z4 2 1 2 4 9 ?_
 refine G.cd (fun h9=>?_) fun h9=>?_
 ·have hz:z≠0:=by
   intro e
   rw [e] at h9
   exact absurd h9 (by decide)
  have he:ofE z (bs B) (bp B)=z:=by unfold ofE;rw [if_pos hz]
  refine G.rg fun R hR=>?_
  refine D.ak [.int .i64 0,.int .i64 0] ?_
  refine D.ac ?_
  refine D.ag (j:=0) ?_
  refine D.q2 1 2 3 hR ?_
  refine G.az (G.finC2 (.head _) rfl rfl rfl rfl rfl ?_)
  exact ⟨by rw [he];unfold ofS;rw [if_neg hz];rfl,rfl⟩
 ·have hz:z=0:=by simpa using h9
  have hcp:=List.length_pos_iff.2 (hZ.ne hz)
  have hbs:bs B+1=B.col.length:=by unfold bs;omega
  refine G.rp 1 fun R hR=>?_
  refine D.aa (bkT hb1 1) ?_
  refine D.ac ?_
  refine D.cG (((bs B:Nat):Int)) rfl rfl rfl rfl om_ om_ om_ rfl rfl ?_
  refine D.ps 2 ?_
  refine D.aa (bkT hb1 1) ?_
  refine D.ac ?_
  refine D.ak [.int .i64 (bs B:Nat),.int .i64 (bp B:Nat)] ?_
  refine D.aj (fun b5=>?_)
  refine D.ag (j:=0) ?_
  refine D.e2 2 5 hR ?_
  refine G.rg fun R hR=>?_
  refine D.ae (.head _) ?_
  refine D.ai (scount_fn _ (bs B) (bp B) om_) rfl rfl rfl rfl rfl rfl rfl fl_ ?_
  refine D.q3 1 2 5 23 hR ?_
  refine G.cd (fun h23=>?_) fun h23=>?_
  ·have hgt:60<bs B*bp B:=by
    have:=of_decide_eq_true h23
    omega
   have he:ofE z (bs B) (bp B)=4:=by unfold ofE;rw [hz,if_neg (by decide),if_pos hgt]
   refine G.rg fun R hR=>?_
   refine D.ak [.int .i64 0,.int .i64 0] ?_
   refine D.ag (j:=1) ?_
   refine D.q2 1 2 3 hR ?_
   refine G.az (G.finC2 (.head _) rfl rfl rfl rfl rfl ?_)
   exact ⟨by rw [he];rfl,rfl⟩
  ·have hgt:¬ 60<bs B*bp B:=by
    have:=of_decide_eq_false h23
    omega
   have he:ofE z (bs B) (bp B)=0:=by unfold ofE;rw [hz,if_neg (by decide),if_neg hgt]
   refine G.rg fun R hR=>?_
   refine D.ae (.head _) ?_
   refine D.ag (j:=1) ?_
   refine D.q2 1 2 3 hR ?_
   refine G.az (G.finC2 (.head _) rfl rfl rfl rfl rfl ?_)
   exact ⟨by rw [he];rfl,rfl⟩
theorem count_fn (C:Mem)(bv:Value)(B:Bk)(z:Int)(hZ:BookZ C bv B z):Gives cx.P 8 [bv] C (.tuple #[.int .i64 (if ofE z (bs B) (bp B)=0 then ((bs B*bp B:Nat):Int) else 0),.int .i64 (ofE z (bs B) (bp B))]):=by
 have hsp:=sp_le hZ
 have hZ0:=hZ
 obtain ⟨v1,v2,tv,cv,ov,rfl,h1,h2,h3,h4,h5⟩:=id hZ.i.ex
 obtain ⟨e,he⟩:∃ e,ofE z (bs B) (bp B)=e:=⟨_,rfl⟩
 have hof:∀ D:Mem,C.le D->Gives cx.P 27 [.agg ⟨[v1,v2,tv,cv,ov]⟩] D (.tuple #[ofS e (bs B) (bp B),.int .i64 e]):=fun D hD=>by have h:=of_fn D _ B z (hZ0.mono hD);rwa [he] at h
 rw [he]
 have hsv:ofS e (bs B) (bp B)=.agg ⟨[.int .i64 (if e=0 then ((bs B:Nat):Int) else 0),.int .i64 (if e=0 then ((bp B:Nat):Int) else 0)]⟩:=by unfold ofS shapeV;split <;> rfl
 have hcn:∀ D:Mem,Gives cx.P 28 [.agg ⟨[.int .i64 (if e=0 then ((bs B:Nat):Int) else 0),.int .i64 (if e=0 then ((bp B:Nat):Int) else 0)]⟩] D (.int .i64 (if e=0 then ((bs B*bp B:Nat):Int) else 0)):=fun D=>by
  by_cases h:e=0
  ·rw [if_pos h,if_pos h,if_pos h];exact scount_fn D (bs B) (bp B) om_
  ·rw [if_neg h,if_neg h,if_neg h];exact scount_fn D 0 0 om_
 rw [hsv] at hof
 refine Fn.it kr_ Tryz.func8 14 fun w0=>?_
 refine G.rg fun R hR=>?_
 refine D.aB (fun b1=>?_)
 refine D.q1 2 1 hR ?_
 refine G.rg fun R hR=>?_
 refine D.ae (.head _) ?_
 refine D.af (hof _ mup) ?_
 refine D.ps 3 ?_
 refine D.aj (fun b4=>?_)
 refine D.ag (j:=0) ?_
 refine D.q2 1 4 5 hR ?_
 refine G.rg fun R hR=>?_
 refine D.ae (.head _) ?_
 refine D.af (hcn _) ?_
 refine D.q2 3 2 3 hR ?_
 refine G.az (G.dropAll (G.aK rfl rfl rfl ?_))
 exact ⟨rfl,rfl⟩
theorem of_ok (C:Mem)(bv:Value)(B:Bk)(hZ:BookZ C bv B 0)(h60:bs B*bp B<=60):Gives cx.P 27 [bv] C (.tuple #[shapeV (bs B) (bp B),.int .i64 0]):=by
 have h:=of_fn C bv B 0 hZ
 have e:ofE 0 (bs B) (bp B)=0:=by unfold ofE;rw [if_neg (by decide),if_neg om_]
 rw [e] at h
 exact h
theorem of_bad (C:Mem)(bv:Value)(B:Bk)(z e:Int)(hZ:BookZ C bv B z)(he:ofE z (bs B) (bp B)=e)(h0:e≠0):Gives cx.P 27 [bv] C (.tuple #[shapeV 0 0,.int .i64 e]):=by
 have h:=of_fn C bv B z hZ
 rw [he] at h
 unfold ofS at h
 rwa [if_neg h0] at h

def rowF (n:Nat)(done:List (Nat × Rat)):List Rat:=(List.range n).map fun j=>(mget done j).getD 0
def facV (n:Nat)(done:List (Nat × Rat)):List Value:=(rowF n done).map fun q=>strV (qtx q)
theorem facV_nil (n:Nat):List.replicate n (strV [48])=facV n []:=by
 unfold facV rowF
 rw [List.map_map]
 symm
 rw [List.eq_replicate_iff]
 refine ⟨by simp,fun v hv=>?_⟩
 obtain ⟨j,_,rfl⟩:=List.mem_map.1 hv
 show strV (qtx 0)=_
 rw [qtx_zero]
theorem facV_len (n:Nat)(done:List (Nat × Rat)):(facV n done).length=n:=by simp [facV,rowF]
theorem facV_store {n a:Nat}(done:List (Nat × Rat))(q:Rat)(h:a<n):au (facV n done) [strV (qtx q)] a=facV n ((a,q)::done):=by
 have hl:=facV_len n done
 unfold au
 refine List.ext_getElem? (fun j=>?_)
 have key:∀ (d:List (Nat × Rat)),(facV n d)[j]?=if j<n then some (strV (qtx ((mget d j).getD 0))) else none:=fun d=>by
  unfold facV rowF
  rw [List.map_map,List.getElem?_map]
  split
  ·rename_i hj;rw [List.getElem?_range hj];rfl
  ·rename_i hj;rw [List.getElem?_eq_none (by simpa using Nat.le_of_not_lt hj)];rfl
 rw [key ((a,q)::done)]
 have ht:((facV n done).take a).length=a:=by rw [List.length_take,hl];omega
 rcases Nat.lt_trichotomy j a with hj | rfl | hj
 ·rw [List.append_assoc,List.getElem?_append_left (by rw [ht];exact hj),List.getElem?_take,if_pos hj,key done,if_pos om_,if_pos om_]
  simp only [mget]
  rw [if_neg om_]
 ·rw [List.append_assoc,List.getElem?_append_right (by rw [ht];exact Nat.le_refl _),ht,Nat.sub_self,if_pos h]
  simp [mget]
 ·rw [List.getElem?_append_right (by rw [List.length_append,ht];simp;omega),List.length_append,ht,List.getElem?_drop]
  rw [show a+[strV (qtx q)].length+(j-(a+[strV (qtx q)].length))=j by simp;omega,key done]
  split
  ·simp only [mget]
   rw [if_neg om_]
  ·rfl
theorem rowF_perm {n:Nat}{d d':List (Nat × Rat)}(h:d.Perm d')(hn:(d.map (·.1)).Nodup):rowF n d=rowF n d':=by
 unfold rowF
 refine List.map_congr_left (fun j _=>?_)
 rw [mget_perm h hn]
def facM (fm:List (Nat × Rat)):List (Int × Value):=fm.map fun x=>(((x.1:Nat):Int),strV (qtx x.2))
def putF (p surface:Nat)(sign:Rat)(x:Nat × Rat):Nat × Rat:=(surface*p+x.1,sign*x.2)
theorem neg_one_qb:QB 1 (-1:Rat):=QB_neg QB_one
theorem sat_nat (C:Mem)(s p surface k:Nat)(h:surface*p+k<=1000000):Gives cx.P 29 [shapeV s p,.int .i64 (surface:Nat),.int .i64 (k:Nat)] C (.int .i64 ((surface*p+k:Nat):Int)):=by
 have e:((surface:Nat):Int)*(p:Nat)=((surface*p:Nat):Int):=(Int.natCast_mul _ _).symm
 have h2:=sat_fn C s p (surface:Nat) (k:Nat) (by rw [e];omega) om_
 rw [e,<- Int.natCast_add] at h2
 exact h2
def rowN (s p surface:Nat)(fm:List (Nat × Rat))(sign:Rat):List Rat:=rowF (s*p) (fm.map (putF p surface sign))
theorem row_fn (C:Mem)(hT:Tabs C)(s p surface b:Nat)(fm:List (Nat × Rat))(sign bound:Rat)(k:Nat)(hk0:0<k)(hk:k<=1000)(hsp:s*p<=100000)(hs:surface<s)(hm:C b=some (aD keyZ.enc (facM fm)))(hkeys:(fm.map (·.1)).Nodup)(hin:∀ x∈fm,x.1<p)(hfq:∀ x∈fm,QB k x.2)(hsg:QB k sign)(hbd:QB k bound) :
  Pur cx.P 67 [shapeV s p,.int .i64 surface,.map (some b),strV (qtx sign),strV (qtx bound)] C fun u D=>∃ v,u=.agg ⟨[v,strV (qtx (sign*bound))]⟩/\Sl D 1 v ((rowN s p surface fm sign).map encQ):=by
 have hmx:maxLen<=9223372036854775807:=by simp [maxLen]
 have hfl:(facM fm).length=fm.length:=by simp [facM]
 have hsurf:surface*p+p<=s*p:=by
  rw [<- Nat.succ_mul]
  exact Nat.mul_le_mul_right _ hs
 have hns:=(fm.map (·.1)).length
 refine Fn.it kr_ Tryz.func67 38 fun w0=>?_
 refine G.rg fun R hR=>?_
 refine D.aB (fun b5=>?_)
 refine D.aj (fun b10=>?_)
 refine D.e6 1 2 3 4 5 10 hR ?_
 refine G.freeze 1 rfl (fun C5 hle5 hb5=>?_)
 refine G.aI [(1,3)] rfl (fun R hR=>?_)
 refine D.aa (bkT hb5 2) ?_
 refine D.call (zeros_fn _ s p hsp) rfl (.inr (by decide)) rfl rfl rfl rfl rfl rfl (List.Perm.refl _) fl_ (fun v15 C15 L15 hle15 hq15=>?_)
 obtain ⟨bz,rfl,rfl⟩:=hq15
 refine D.ps 2 ?_
 refine D.ai (cS _ (hT.mono mup) sign bound k hk0 om_ hsg hbd) rfl rfl rfl rfl rfl rfl rfl fl_ ?_
 refine D.ak [.slice (some ⟨bz,0,none⟩) (s*p:Nat) (s*p:Nat),strV (qtx (sign*bound))] ?_
 refine D.aj (fun b11=>?_)
 refine D.ag (j:=0) ?_
 refine D.e6 1 2 3 5 10 11 hR ?_
 refine G.freeze 0 rfl (fun C11 hle11 hb11=>?_)
 refine G.aY (L':=[.arr (.slice (some ⟨bz,0,none⟩) (s*p) (s*p)) 32 1 (s*p) (facV (s*p) []),.obj b10 (.cells ⟨[.slice none 0 0,strV []]⟩ 81 (0,0))]) (by rw [facV_nil];rfl) ?_
 refine G.rp 1 fun R hR=>?_
 refine D.rangeMap keyZ (Mem.get hm mup) rfl rfl rfl rfl rfl rfl rfl fl_ (fun b21=>?_)
 refine D.e6 1 3 5 10 11 21 hR ?_
 refine G.loop (fun fr C' L' μ=>∃ (seen:List Nat),(seen.Nodup/\(∀ j∈seen,j<fm.length))/\fr=[(1,[],.int .i64 surface),(3,[],strV (qtx sign)),(5,[],.pointer (some ⟨b5,0,none⟩)),(10,[],.pointer (some ⟨b10,0,none⟩)),(11,[],.pointer (some ⟨b11,0,none⟩)),(21,[],.pointer (some ⟨b21,0,none⟩))]/\L'=[.obj b21 (aM b (facM fm).length seen),.arr (.slice (some ⟨bz,0,none⟩) (s*p) (s*p)) 32 1 (s*p) (facV (s*p) (seen.reverse.map fun i=>putF p surface sign (fm.getD i (0,0)))),.obj b10 (.cells ⟨[.slice none 0 0,strV []]⟩ 81 (0,0))]/\μ=fm.length-seen.length) (h_6 1 3 5 10 11 21) ⟨[],⟨List.nodup_nil,by simp⟩,rfl,rfl,rfl⟩ (fun fr C0' L0' m hle0 hI=>?_)
 obtain ⟨seen,⟨hsn,hsl⟩,rfl,rfl,rfl⟩:=hI
 refine G.rg fun R hR=>?_
 refine D.nextMap keyZ (q:=0) (Mem.get hm mup) rfl rfl rfl rfl rfl rfl fl_ (fun go22 rs22 sn22 hn22=>?_)
 refine D.q7 1 1 3 5 10 11 21 23 hR ?_
 refine G.cd (fun h23=>?_) fun h23=>?_
 ·obtain ⟨hgo1,j,hj,hjs,rfl⟩:go22=true/\∃ j,j<(facM fm).length/\j ∉ seen/\sn22=seen++[j]:=by
   rcases hn22 with ⟨h1,_⟩ | h1
   ·rw [h1] at h23;cases h23
   ·exact h1
  rw [hfl] at hj
  obtain ⟨⟨kx,q⟩,hx⟩:∃ x,fm[j]?=some x:=⟨fm[j],List.getElem?_eq_getElem hj⟩
  have hxm:=List.mem_of_getElem? hx
  have hkp:kx<p:=hin _ hxm
  have hqq:QB k q:=hfq _ hxm
  have hmx2:(facM fm)[j]?=some (((kx:Nat):Int),strV (qtx q)):=by unfold facM;rw [List.getElem?_map,hx];rfl
  have hgd:fm.getD j (0,0)=(kx,q):=by rw [List.getD_eq_getElem?_getD,hx];rfl
  have hsn2:(seen++[j]).Nodup:=by
   rw [List.nodup_append]
   exact ⟨hsn,by simp,fun a ha b hb e=>by rw [List.mem_singleton.1 hb] at e;subst e;exact hjs ha⟩
  have hsl2:∀ i∈seen++[j],i<fm.length:=fun i hi=>by
   rcases List.mem_append.1 hi with h | h
   ·exact hsl i h
   ·rw [List.mem_singleton.1 h];exact hj
  have hslen:(seen++[j]).length<=fm.length:=by
   have:=List.Nodup.length_le_of_subset hsn2 (l₂:=List.range fm.length) (fun i hi=>List.mem_range.2 (hsl2 i hi))
   simpa using this
  have hslen3:(seen++[j]).length=seen.length+1:=by simp
  have hax:surface*p+kx<s*p:=by omega
  refine G.rg fun R hR=>?_
  refine D.entryMap keyZ (Mem.get hm mup) hmx2 (.head _) rfl rfl rfl rfl rfl rfl rfl ?_
  refine D.q8 4 1 3 5 10 11 12 13 21 hR ?_
  refine G.aH [0,1,2,3,4,5,6,7,8,9,10] [(5,1),(8,1)] rfl kr_ (fun R hB hR=>?_)
  refine D.ac ?_
  refine D.aa (bkT hb11 1) ?_
  refine D.aa (bkT hb5 2) ?_
  refine D.ps 2 ?_
  refine D.aC (fun _=>(sat_nat _ s p surface kx om_)) rfl rfl rfl rfl rfl rfl rfl rfl rfl ?_
  refine D.ps 2 ?_
  refine D.aC (fun _=>(cS _ (hT.mono mup) sign q k hk0 om_ hsg hqq)) rfl rfl rfl rfl rfl rfl rfl rfl rfl ?_
  refine D.ce ((surface*p+kx)) rfl rfl rfl rfl rfl rfl rfl rfl rfl rfl (fun _=>⟨by omega,by omega,(Nat.mul_one _).symm⟩) rfl rfl ?_
  refine D.bH (j:=1) rfl rfl rfl rfl rfl rfl rfl rfl rfl rfl rfl (by rw [facV_len];simp;omega) ?_
  refine D.e6 1 3 5 10 11 21 hR ?_
  refine G.perm (L':=[.obj b21 (aM b (facM fm).length (seen++[j])),.arr (.slice (some ⟨bz,0,none⟩) (s*p) (s*p)) 32 1 (s*p) (facV (s*p) ((seen++[j]).reverse.map fun i=>putF p surface sign (fm.getD i (0,0)))),.obj b10 (.cells ⟨[.slice none 0 0,strV []]⟩ 81 (0,0))]) (by
   rw [List.reverse_append,List.reverse_singleton,List.singleton_append,List.map_cons,hgd]
   unfold putF
   rw [<- facV_store _ _ hax]
   exact List.Perm.swap _ _ _) ?_
  refine G.ax (m':=fm.length-(seen++[j]).length) om_ mup (h_6 1 3 5 10 11 21) ⟨seen++[j],⟨hsn2,hsl2⟩,rfl,rfl,rfl⟩
 ·obtain ⟨hgo0,rfl,hall⟩:go22=false/\sn22=seen/\∀ j,j<(facM fm).length->j∈seen:=by
   rcases hn22 with h1 | ⟨h1,_⟩
   ·exact h1
   ·rw [h1] at h23;cases h23
  rw [hfl] at hall
  have hp1:(sn22.reverse.map fun i=>putF p surface sign (fm.getD i (0,0))).Perm (fm.map (putF p surface sign)):=by
   have h1:=(seen_perm (d:=((0:Nat),(0:Rat))) hsn hsl hall).map (putF p surface sign)
   rw [List.map_map] at h1
   exact ((List.reverse_perm sn22).map _).trans h1
  have hnd:((fm.map (putF p surface sign)).map (·.1)).Nodup:=by
   rw [List.map_map]
   have e:((·.1) ∘ putF p surface sign:Nat × Rat->Nat)=(fun k=>surface*p+k) ∘ (·.1):=rfl
   rw [e,<- List.map_map]
   rw [List.Nodup,List.pairwise_map]
   exact hkeys.imp (fun {a b} h=>by omega)
  have hfin:facV (s*p) (sn22.reverse.map fun i=>putF p surface sign (fm.getD i (0,0)))=((rowN s p surface fm sign).map encQ).flatten:=by
   unfold rowN facV
   rw [rowF_perm hp1 ((hp1.map (·.1)).nodup_iff.2 hnd)]
   exact (dQ (fun q=>strV (qtx q)) _).symm
  refine G.cW 0 rfl ?_
  refine G.freezeArr 0 ((rowN s p surface fm sign).map encQ) rfl hfin (by intro r hr;obtain ⟨y,_,rfl⟩:=List.mem_map.1 hr;rfl) (by simp [rowN,rowF]) (fun Cg hg hsl3=>?_)
  refine G.rg fun R hR=>?_
  refine D.aa (bkT hb11 2) ?_
  refine D.ag (j:=0) ?_
  refine D.e1 10 hR ?_
  refine G.az (G.di (.head _) rfl rfl rfl rfl ?_)
  exact ⟨rfl,_,rfl,hsl3⟩

structure RowQ where
 f:List Rat
 b:Rat
def bd (vs:List Value)(rows:List RowQ):List (List Value):=List.zipWith (fun w (r:RowQ)=>[w,strV (qtx r.b)]) vs rows
def RowsOk (C:Mem)(vs:List Value)(rows:List RowQ):Prop:=vs.length=rows.length/\∀ (i:Nat)(w:Value)(r:RowQ),vs[i]?=some w->rows[i]?=some r->Sl C 1 w (r.f.map encQ)
theorem RowsOk.mono {C D:Mem}{vs:List Value}{rows:List RowQ}(h:RowsOk C vs rows)(hl:C.le D):RowsOk D vs rows:=⟨h.1,fun i w r h1 h2=>(h.2 i w r h1 h2).mono hl⟩
theorem RowsOk.nil (C:Mem):RowsOk C [] []:=⟨rfl,fun i w r h1 _=>by simp at h1⟩
theorem RowsOk.snoc {C:Mem}{vs:List Value}{rows:List RowQ}{v:Value}{r:RowQ}(h:RowsOk C vs rows)(hv:Sl C 1 v (r.f.map encQ)):RowsOk C (vs++[v]) (rows++[r]):=by
 have h0:=h.1
 refine ⟨by simp [h0],fun j w r' h1 h2=>?_⟩
 rcases Nat.lt_or_ge j vs.length with hlt | hge
 ·rw [List.getElem?_append_left hlt] at h1
  rw [List.getElem?_append_left om_] at h2
  exact h.2 j w r' h1 h2
 ·rw [List.getElem?_append_right hge] at h1
  rw [List.getElem?_append_right om_,<- h0] at h2
  cases hj:j-vs.length with
  | zero=>rw [hj] at h1 h2;simp at h1 h2;subst h1;subst h2;exact hv
  | succ q=>rw [hj] at h1;simp at h1
theorem rowCells_snoc {vs:List Value}{rows:List RowQ}(h:vs.length=rows.length)(v:Value)(r:RowQ):bd (vs++[v]) (rows++[r])=bd vs rows++[[v,strV (qtx r.b)]]:=by
 unfold bd
 rw [List.zipWith_append h]
 rfl
theorem dO {vs:List Value}{rows:List RowQ}(h:vs.length=rows.length):(bd vs rows).length=rows.length:=by simp [bd,h]
theorem rowCells_two (vs:List Value)(rows:List RowQ):∀ r∈bd vs rows,r.length=2:=by
 intro r hr
 unfold bd at hr
 obtain ⟨i,hi⟩:=List.getElem?_of_mem hr
 rw [List.getElem?_zipWith] at hi
 cases h1:vs[i]? <;> cases h2:rows[i]? <;> rw [h1,h2] at hi <;> simp at hi
 subst hi
 rfl
def RowsIn (C:Mem)(v:Value)(rows:List RowQ):Prop:=∃ vs:List Value,RowsOk C vs rows/\Sl C 2 v (bd vs rows)
theorem RowsIn.mono {C D:Mem}{v:Value}{rows:List RowQ}(h:RowsIn C v rows)(hl:C.le D):RowsIn D v rows:=by
 obtain ⟨vs,h1,h2⟩:=h
 exact ⟨vs,h1.mono hl,h2.mono hl⟩
theorem qtx_neg_one:qtx (-1)=[45,49]:=by
 rw [dV (q:=1) (by decide) (by decide),eo]
theorem facV_flat (n:Nat)(d:List (Nat × Rat)):facV n d=((rowF n d).map encQ).flatten:=(dQ (fun q=>strV (qtx q)) _).symm
theorem rowF_len (n:Nat)(d:List (Nat × Rat)):(rowF n d).length=n:=by simp [rowF]
end Go.Proofs.YtllimhhofkcgpaaGreatDoor
