/- Laws that the proofs of this seat share, part 7. -/
import Derived.Test.YtllimhhofkcgpaaGreatDoorG6
import Derived.Test.YtllimhhofkcgpaaGreatDoorShelf
set_option maxHeartbeats 4000000
namespace Go.Proofs.YtllimhhofkcgpaaGreatDoor
open Go Go.Jog
set_option maxRecDepth 100000

theorem opp_none {m:OwnM}{s:Side}:(mget m (s.2,s.1)).isSome=!bordB (m.map (·.1)) s:=by
 unfold bordB swapI
 rw [Bool.not_not]
 cases h:mget m (s.2,s.1) with
 | none=>rw [bi] at h;simp [h]
 | some v =>
  have:=List.mem_map_of_mem (f:=(·.1)) (eA h)
  simp only [Option.isSome_some]
  exact (decide_eq_true this).symm
theorem outer_fn (C:Mem)(v1 v2:Value)(b:Nat)(m:OwnM)(hb:C b=some (aD encI2 m))(hn:(m.map (·.1)).Nodup)(h0:∀ s∈m.map (·.1),0<=s.1)(hml:m.length<=1000000) :
  Pur cx.P 88 [.agg ⟨[v1,v2]⟩,.map (some b)] C fun u D=>∃ v,u=.tuple #[v,.bool (decide (outL (m.map (·.1))≠[]))]/\Sl D 1 v ((outL (m.map (·.1))).map encI):=by
 have hmx:maxLen<=9223372036854775807:=by simp [maxLen]
 have hopp:=fun s:Side=>opp_none (m:=m) (s:=s)
 obtain ⟨ks,hks⟩:∃ ks,m.map (·.1)=ks:=⟨_,rfl⟩
 rw [hks] at hn h0 ⊢
 simp only [hks] at hopp
 have hkl:ks.length=m.length:=by rw [<- hks];simp
 refine Fn.it kr_ Tryz.func88 93 fun w0=>?_
 refine G.rg fun R hR=>?_
 refine D.aB (fun b2=>?_)
 refine D.q1 2 1 hR ?_;clear hR R
 refine G.rg fun R hR=>?_
 refine D.makeMap keyZ rfl rfl rfl rfl fl_ (fun b17=>?_)
 refine D.q2 1 1 6 hR ?_;clear hR R
 refine G.z3 1 1 6 7 ?_
 refine G.rp 1 fun R hR=>?_
 refine D.rangeMapE kI2.enc (Mem.get hb mup) rfl rfl rfl rfl rfl rfl rfl fl_ (fun b19=>?_)
 refine D.e4 1 6 7 19 hR ?_;clear hR R
 refine G.cW 2 rfl ?_
 refine G.loop (fun fr C' L' μ=>∃ (seen:List Nat)(f:Int),(seen.Nodup/\(∀ j∈seen,j<ks.length)/\((dm ks seen).map (·.1)).Nodup/\leastP (dm ks seen) f)/\fr=[(1,[],.map (some b)),(6,[],.map (some b17)),(7,[],.int .i64 f),(19,[],.pointer (some ⟨b19,0,none⟩))]/\L'=[.obj b19 (aM b m.length seen),.obj b17 (aD keyZ.enc (nxtV (dm ks seen)))]/\μ=ks.length-seen.length) (h_4 1 6 7 19) ⟨[], -1,⟨List.nodup_nil,by simp,by simp [dm],.inl ⟨rfl,rfl⟩⟩,rfl,rfl,rfl⟩ (fun fr C0' L0' m hle0 hI=>?_)
 obtain ⟨seen,f,⟨hsn,hsl,hbn,hle⟩,rfl,rfl,rfl⟩:=hI
 refine G.rg fun R hR=>?_
 refine D.nextMapE kI2.enc (q:=0) (Mem.get hb mup) rfl rfl rfl rfl rfl rfl fl_ (fun go20 rs20 sn20 hn20=>?_)
 refine D.q5 1 1 6 7 19 21 hR ?_;clear hR R
 refine G.cd (fun h21=>?_) fun h21=>?_
 ·obtain ⟨hgo1,j,hj,hjs,rfl⟩:go20=true/\∃ j,j<m.length/\j ∉ seen/\sn20=seen++[j]:=by
   rcases hn20 with ⟨h1,_⟩ | h1
   ·rw [h1] at h21;cases h21
   ·exact h1
  rw [<- hkl] at hj
  obtain ⟨⟨s,bv⟩,hs⟩:∃ p,m[j]?=some p:=⟨m[j]'om_,List.getElem?_eq_getElem om_⟩
  have hsk:ks[j]?=some s:=by rw [<- hks,List.getElem?_map,hs];rfl
  have hsn2:(seen++[j]).Nodup:=by
   rw [List.nodup_append]
   exact ⟨hsn,by simp,fun a ha b hb e=>by rw [List.mem_singleton.1 hb] at e;subst e;exact hjs ha⟩
  have hsl2:∀ i∈seen++[j],i<ks.length:=fun i hi=>by
   rcases List.mem_append.1 hi with h | h
   ·exact hsl i h
   ·rw [List.mem_singleton.1 h];exact hj
  have hslen:(seen++[j]).length<=ks.length:=by
   have:=List.Nodup.length_le_of_subset hsn2 (l₂:=List.range ks.length) (fun i hi=>List.mem_range.2 (hsl2 i hi))
   simpa using this
  have hslen3:(seen++[j]).length=seen.length+1:=by simp
  have hB:=seenB_snoc hsk (seen:=seen)
  have hs0:0<=s.1:=h0 s (List.mem_of_getElem? hsk)
  refine G.rg fun R hR=>?_
  refine D.entryMapE kI2.enc (Mem.get hb mup) hs (.head _) rfl rfl rfl rfl rfl rfl rfl ?_
  refine D.ac ?_
  refine D.aj (fun b8=>?_)
  refine D.ag (j:=0) ?_
  refine D.e5 1 6 7 8 19 hR ?_;clear hR R
  refine G.rp 1 fun R hR=>?_
  refine D.ar (1) rfl rfl rfl rfl rfl rfl rfl rfl rfl (fun _=>⟨by decide,by decide,rfl⟩) rfl rfl ?_
  refine D.ae (.head _) ?_
  refine D.ar (0) rfl rfl rfl rfl rfl rfl rfl rfl rfl (fun _=>⟨by decide,by decide,rfl⟩) rfl rfl ?_
  refine D.ae (.head _) ?_
  refine D.ak [.int .i64 s.2,.int .i64 s.1] ?_
  refine D.lookupCP kI2 (fun _=>(Mem.get hb mup)) rfl rfl rfl rfl rfl rfl rfl rfl rfl (lookV_tup _ (mget m (s.2,s.1))) rfl rfl ?_
  refine D.q6 5 1 6 7 8 10 19 hR ?_;clear hR R
  refine G.z6 1 1 6 7 8 19 34 ?_
  refine G.cd (fun h34=>?_) fun h34=>?_
  ·have hbd:bordB ks s=false:=by
    have h:(mget m (s.2,s.1)).isSome=true:=h34
    rw [hopp] at h
    simpa using h
   rw [hbd] at hB
   simp only [Bool.false_eq_true,if_false,List.append_nil] at hB
   refine G.cW 0 rfl ?_
   refine G.aY (L':=[.obj b19 (aM b m.length (seen++[j])),.obj b17 (aD keyZ.enc (nxtV (dm ks (seen++[j]))))]) (by rw [hB];rfl) ?_
   refine G.ax (m':=ks.length-(seen++[j]).length) om_ mup (h_4 1 6 7 19) ⟨seen++[j],f,⟨hsn2,hsl2,by rw [hB];exact hbn,by rw [hB];exact hle⟩,rfl,rfl,rfl⟩
  ·have hbd:bordB ks s=true:=by
    have h:(mget m (s.2,s.1)).isSome=false:=h34
    rw [hopp] at h
    simpa using h
   rw [hbd] at hB
   simp only [if_true] at hB
   refine G.rp 1 fun R hR=>?_
   refine D.ar (0) rfl rfl rfl rfl rfl rfl rfl rfl rfl (fun _=>⟨by decide,by decide,rfl⟩) rfl rfl ?_
   refine D.ae (.head _) ?_
   refine D.eW keyZ (.tail _ (.tail _ (.head _))) rfl rfl rfl rfl rfl rfl rfl rfl kr_ rfl (lookV_tup _ (mget (nxtV (dm ks seen)) s.1)) rfl rfl ?_
   refine D.q6 5 1 6 7 8 12 19 hR ?_;clear hR R
   refine G.z6 1 1 6 7 8 19 42 ?_
   refine G.cd (fun h42=>?_) fun h42=>?_
   ·have h42':(mget (nxtV (dm ks seen)) s.1).isSome=true:=h42
    rw [er] at h42'
    have hno:outM ks=none:=by
     cases hq:mget (dm ks seen) s.1 with
     | none=>rw [hq] at h42';cases h42'
     | some q=>exact outM_twice (B:=dm ks seen) (s:=s) (t:=(s.1,q)) (by rw [<- hB];exact seenB_nodup hn hsn2 hsl2) (by rw [<- hB];exact seenB_sub hsl2) (eA hq) rfl
    have hnl:outL ks=[]:=by unfold outL;rw [hno];rfl
    refine G.z2 2 4 5 ?_
    refine G.az (G.dropAll (G.aK rfl rfl rfl ?_))
    exact ⟨rfl,.slice none 0 0,by rw [hnl];rfl,by rw [hnl];exact Sl.nil _ _⟩
   ·have h42':(mget (nxtV (dm ks seen)) s.1).isSome=false:=h42
    have hnone:mget (dm ks seen) s.1=none:=by
     rw [er] at h42'
     cases hq:mget (dm ks seen) s.1 with
     | none=>rfl
     | some q=>rw [hq] at h42';cases h42'
    have hbn2:((dm ks (seen++[j])).map (·.1)).Nodup:=by
     rw [hB,List.map_append,List.nodup_append]
     refine ⟨hbn,by simp,fun a ha b hb e=>?_⟩
     rw [List.map_singleton,List.mem_singleton] at hb
     subst hb
     subst e
     exact (bi.1 hnone) ha
    have hle2:=leastP_snoc hle s hs0
    refine G.rp 1 fun R hR=>?_
    refine D.ar (0) rfl rfl rfl rfl rfl rfl rfl rfl rfl (fun _=>⟨by decide,by decide,rfl⟩) rfl rfl ?_
    refine D.ae (.head _) ?_
    refine D.ar (1) rfl rfl rfl rfl rfl rfl rfl rfl rfl (fun _=>⟨by decide,by decide,rfl⟩) rfl rfl ?_
    refine D.ae (.head _) ?_
    refine D.mapUpdate keyZ (j:=2) rfl rfl rfl rfl rfl rfl rfl rfl rfl rfl kr_ ?_
    refine D.e5 1 6 7 8 19 hR ?_;clear hR R
    refine G.rp 3 fun R hR=>?_
    refine D.ar (0) rfl rfl rfl rfl rfl rfl rfl rfl rfl (fun _=>⟨by decide,by decide,rfl⟩) rfl rfl ?_
    refine D.ae (.tail _ (.head _)) ?_
    refine D.ps 2 ?_
    refine D.aF rfl rfl rfl rfl rfl rfl rfl rfl ?_
    refine D.e6 1 6 7 8 19 55 hR ?_;clear hR R
    refine G.cd (fun h55=>?_) fun h55=>?_
    ·have h55':f<0∨s.1<f:=by simpa using h55
     rw [if_pos h55'] at hle2
     refine G.rg fun R hR=>?_
     refine D.ar (0) rfl rfl rfl rfl rfl rfl rfl rfl rfl (fun _=>⟨by decide,by decide,rfl⟩) rfl rfl ?_
     refine D.ae (.tail _ (.head _)) ?_
     refine D.q4 1 1 6 7 19 hR ?_;clear hR R
     refine G.cW 1 rfl ?_
     refine G.perm (L':=[.obj b19 (aM b m.length (seen++[j])),.obj b17 (aD keyZ.enc (nxtV (dm ks (seen++[j]))))]) (by
      rw [hB,<- nxtV_new hnone]
      exact List.Perm.swap _ _ _) ?_
     refine G.ax (m':=ks.length-(seen++[j]).length) om_ mup (h_4 1 6 7 19) ⟨seen++[j],s.1,⟨hsn2,hsl2,hbn2,by rw [hB];exact hle2⟩,rfl,rfl,rfl⟩
    ·have h55':¬ (f<0∨s.1<f):=by simpa using h55
     rw [if_neg h55'] at hle2
     refine G.cW 1 rfl ?_
     refine G.perm (L':=[.obj b19 (aM b m.length (seen++[j])),.obj b17 (aD keyZ.enc (nxtV (dm ks (seen++[j]))))]) (by
      rw [hB,<- nxtV_new hnone]
      exact List.Perm.swap _ _ _) ?_
     refine G.ax (m':=ks.length-(seen++[j]).length) om_ mup (h_4 1 6 7 19) ⟨seen++[j],f,⟨hsn2,hsl2,hbn2,by rw [hB];exact hle2⟩,rfl,rfl,rfl⟩
 ·obtain ⟨hgo0,rfl,hall⟩:go20=false/\sn20=seen/\∀ j,j<m.length->j∈seen:=by
   rcases hn20 with h1 | ⟨h1,_⟩
   ·exact h1
   ·rw [h1] at h21;cases h21
  rw [<- hkl] at hall
  have hp:(dm ks sn20).Perm (ks.filter (bordB ks)):=(seen_perm hsn hsl hall).filter _
  obtain ⟨B,hB⟩:∃ B,dm ks sn20=B:=⟨_,rfl⟩
  rw [hB] at hp hbn hle
  have hO:=outM_all hp hbn h0 hle
  have hBl:B.length<=ks.length:=by rw [hp.length_eq];exact List.length_filter_le _ _
  refine G.z3 1 6 7 13 ?_
  refine G.z4 2 6 7 13 14 ?_
  refine G.cW 0 rfl ?_
  refine G.nilArr 3 1 ?_
  refine G.aY (L':=[.arr (.slice none 0 0) 3 1 0 [],.obj b17 (aD keyZ.enc (nxtV B))]) (by rw [hB];rfl) ?_
  refine G.loop (fun fr C' L' μ=>∃ (out:List Int)(w:Value)(p:Int),(out.length<=B.length/\walkM B f (B.length-out.length) p out=outM ks)/\fr=[(6,[],.map (some b17)),(7,[],.int .i64 f),(13,[],w),(14,[],.int .i64 p)]/\L'=[.arr w 3 1 out.length (out.map (Value.int .i64)),.obj b17 (aD keyZ.enc (nxtV B))]/\μ=B.length-out.length) (h_4 6 7 13 14) ⟨[],_,f,⟨Nat.zero_le _,hO.symm⟩,rfl,rfl,rfl⟩ (fun fr C1' L1' m hle1 hI=>?_)
  obtain ⟨out,w,p,⟨hol,hwk⟩,rfl,rfl,rfl⟩:=hI
  refine G.formS (.head _) (fun Aw cw hw hxl hlw hcw=>?_)
  subst hw
  refine G.aI [(3,1)] rfl (fun R hR=>?_)
  refine D.ps 3 ?_
  refine D.lenMapL keyZ.enc (.tail _ (.head _)) rfl rfl rfl rfl rfl rfl rfl rfl rfl ?_
  refine D.q5 1 6 7 13 14 63 hR ?_;clear hR R
  refine G.cd (fun h63=>?_) fun h63=>?_
  ·have hlt:out.length<B.length:=by
    simp only [decide_eq_true_eq,nxtV_len] at h63
    omega
   obtain ⟨r,hr⟩:∃ r,B.length-out.length=r+1:=⟨B.length-out.length-1,by omega⟩
   rw [hr] at hwk
   refine G.rp 2 fun R hR=>?_
   refine D.eW keyZ (.tail _ (.head _)) rfl rfl rfl rfl rfl rfl rfl rfl kr_ rfl (lookV_tup _ (mget (nxtV B) p)) rfl rfl ?_
   refine D.q5 5 6 7 13 14 16 hR ?_;clear hR R
   refine G.rp 10 fun R hR=>?_
   refine D.aq ?_
   refine D.aF rfl rfl rfl rfl rfl rfl rfl rfl ?_
   refine D.e5 6 7 13 14 84 hR ?_;clear hR R
   refine G.cd (fun h84=>?_) fun h84=>?_
   ·have hno:outM ks=none:=by
     rw [<- hwk]
     refine walkM_none ?_
     rw [er] at h84
     cases hq:mget B p with
     | none=>exact .inl rfl
     | some q =>
      rw [hq] at h84
      simp only [Option.map_some,Option.isSome_some,Bool.not_true,Bool.false_or,Bool.and_eq_true,beq_iff_eq,decide_eq_true_eq] at h84
      exact .inr ⟨h84.1,fun e=>by rw [e] at h84;simp at h84⟩
    have hnl:outL ks=[]:=by unfold outL;rw [hno];rfl
    refine G.z2 2 4 5 ?_
    refine G.az (G.dropAll (G.aK rfl rfl rfl ?_))
    exact ⟨rfl,.slice none 0 0,by rw [hnl];rfl,by rw [hnl];exact Sl.nil _ _⟩
   ·obtain ⟨q,hq⟩:∃ q,mget B p=some q:=by
     rw [er] at h84
     cases hq:mget B p with
     | some q=>exact ⟨q,rfl⟩
     | none=>rw [hq] at h84;simp at h84
    have hpf:¬ (p=f/\out≠[]):=by
     rintro ⟨e1,e2⟩
     rw [er,hq] at h84
     have:=List.length_pos_iff.2 e2
     simp [e1] at h84
     exact e2 h84
    rw [walkM_some hq hpf] at hwk
    have hol3:(out++[p]).length=out.length+1:=by simp
    refine G.rp 2 fun R hR=>?_
    refine D.ah [encI p] (fun p87 C87 hle87 hs87=>?_)
    refine D.append (j:=0) rfl rfl rfl rfl rfl rfl rfl rfl rfl rfl rfl hs87 rfl (by simp only [List.length_singleton,maxLen];omega) (by simp only [List.length_singleton];omega) fl_ (fun v88=>?_)
    refine D.q4 1 6 7 13 14 hR ?_;clear hR R
    refine G.rp 2 fun R hR=>?_
    refine D.eW keyZ (.tail _ (.head _)) rfl rfl rfl rfl rfl rfl rfl rfl kr_ rfl (by rw [er,hq];rfl:lookV _ false (mget (nxtV B) p)=.int .i64 q) rfl rfl ?_
    refine D.q4 1 6 7 13 14 hR ?_;clear hR R
    refine G.aY (L':=[.arr v88 3 1 (out++[p]).length ((out++[p]).map (Value.int .i64)),.obj b17 (aD keyZ.enc (nxtV B))]) (by simp [encI]) ?_
    refine G.ax (m':=B.length-(out++[p]).length) om_ mup (h_4 6 7 13 14) ⟨out++[p],v88,q,⟨by omega,by rw [show B.length-(out++[p]).length=r by omega];exact hwk⟩,rfl,rfl,rfl⟩
  ·have hle3:B.length<=out.length:=by
    simp only [decide_eq_false_iff_not,nxtV_len] at h63
    omega
   have hfin:outL ks=out:=by
    rw [show B.length-out.length=0 by omega] at hwk
    unfold outL
    rw [<- hwk]
    rfl
   refine G.z2 6 4 5 ?_
   refine G.aY (L':=[.arr (.slice Aw out.length cw) 3 1 out.length (out.map encI).flatten,.obj b17 (aD keyZ.enc (nxtV B))]) (by rw [show (out.map encI).flatten=out.map (Value.int .i64) from dQ _ _]) ?_
   refine G.freezeArr 0 (out.map encI) rfl rfl (by intro r hr;obtain ⟨y,_,rfl⟩:=List.mem_map.1 hr;rfl) (by simp) (fun Cg hg hsl3=>?_)
   refine G.az (G.dropAll (G.aK rfl rfl rfl ?_))
   refine ⟨rfl,_, ?_,by rw [hfin];exact hsl3⟩
   rw [hfin]
   have:decide ((out.length:Int) > 0)=decide (out≠[]):=by
    rw [decide_eq_decide,<- List.length_pos_iff]
    omega
   rw [<- this]

def cycP (pts:List Pt)(cyc:List Nat)(i:Nat):Pt:=pts.getD (cyc.getD (i % cyc.length) 0) (0,0)
def upB (p q:Pt):Bool:=decide (p.2<q.2) || (decide (p.2=q.2) && decide (p.1<q.1))
def flipB (pts:List Pt)(cyc:List Nat)(i:Nat):Bool:=!upB (cycP pts cyc i) (cycP pts cyc (i+1)) && upB (cycP pts cyc (i+1)) (cycP pts cyc (i+1+1))
def leftB (pts:List Pt)(cyc:List Nat)(i:Nat):Bool:=decide (0<=bB (cycP pts cyc i) (cycP pts cyc (i+1)) (cycP pts cyc (i+2)))
def onceB (pts:List Pt)(cyc:List Nat):Bool:=(List.range cyc.length).all (leftB pts cyc) && decide (((List.range cyc.length).filter (flipB pts cyc)).length=1)
structure OnceC (C:Mem)(b2 b3 b5:Nat)(pts:List Pt)(cyc:List Nat):Prop where
 ex:∃ v1 v2,C b2=some (.cells ⟨[v1,v2]⟩ 43 (0,0))/\Sl C 2 v1 (pts.map encP)
 ey:∃ cv,C b3=some (.cells ⟨[cv]⟩ 74 (0,0))/\Sl C 1 cv (cyc.map encN)
 ez:C b5=some (.cells ⟨[.int .i64 (cyc.length:Nat)]⟩ 3 (0,0))
 ne:0<cyc.length
 ins:∀ z∈cyc,z<pts.length
 q:∀ p∈pts,QP 1 p
theorem OnceC.mono {C D:Mem}{b2 b3 b5:Nat}{pts:List Pt}{cyc:List Nat}(h:OnceC C b2 b3 b5 pts cyc)(hl:C.le D):OnceC D b2 b3 b5 pts cyc:=by
 obtain ⟨v1,v2,h1,h2⟩:=h.ex
 obtain ⟨cv,h3,h4⟩:=h.ey
 exact ⟨⟨v1,v2,hl _ _ h1,h2.mono hl⟩,⟨cv,hl _ _ h3,h4.mono hl⟩,hl _ _ h.ez,h.ne,h.ins,h.q⟩
theorem cyc_at {pts:List Pt}{cyc:List Nat}(h:0<cyc.length)(hin:∀ z∈cyc,z<pts.length)(i:Nat):∃ z,cyc[i % cyc.length]?=some z/\pts[z]?=some (cycP pts cyc i):=by
 have hi:=Nat.mod_lt i h
 refine ⟨cyc[i % cyc.length],List.getElem?_eq_getElem hi, ?_⟩
 have hz:=hin _ (List.getElem_mem hi)
 simp [cycP,List.getD_eq_getElem?_getD,List.getElem?_eq_getElem hi,List.getElem?_eq_getElem hz]
theorem cyc_qp {pts:List Pt}{cyc:List Nat}(h:0<cyc.length)(hin:∀ z∈cyc,z<pts.length)(hq:∀ p∈pts,QP 1 p)(i:Nat):QP 1 (cycP pts cyc i):=by
 obtain ⟨z,_,h2⟩:=cyc_at h hin i
 exact hq _ (List.mem_of_getElem? h2)
theorem pt1_fn (C:Mem)(b2 b3 b5:Nat)(pts:List Pt)(cyc:List Nat)(h:OnceC C b2 b3 b5 pts cyc)(i:Nat) :
  Gives cx.P 131 [.int .i64 i,.pointer (some ⟨b2,0,none⟩),.pointer (some ⟨b3,0,none⟩),.pointer (some ⟨b5,0,none⟩)] C (ptV (cycP pts cyc i)):=by
 obtain ⟨v1,v2,hb2,h1⟩:=h.ex
 obtain ⟨cv,hb3,h3⟩:=h.ey
 have hb5:=h.ez
 have hne:=h.ne
 obtain ⟨z,hz,hp⟩:=cyc_at h.ne h.ins i
 obtain ⟨A1,c1,rfl,hq1,hq2,_⟩:=id h1
 obtain ⟨A3,c3,rfl,hq3,hq4,_⟩:=id h3
 simp only [List.length_map] at h1 h3 hb2 hb3
 refine Fn.it kr_ Tryz.func131 16 fun w0=>?_
 refine G.rg fun R hR=>?_
 refine D.aj (fun b5=>?_)
 refine D.e5 0 1 2 3 5 hR ?_
 refine G.aH [0,1,2,3,4,5,6,7,8,9,10] [] rfl kr_ (fun R hB hR=>?_)
 refine D.ac ?_
 refine D.aa (PtrTo.block (Mem.get hb2 mup) _) ?_
 refine D.aa (PtrTo.block (Mem.get hb3 mup) _) ?_
 refine D.ac ?_
 refine D.aa (PtrTo.block (Mem.get hb5 mup) _) ?_
 refine D.df (i) (cyc.length) rfl rfl rfl rfl rfl rfl om_ rfl rfl ?_
 refine D.al (h3.mono mup) rfl rfl rfl rfl rfl rfl rfl rfl rfl rfl om_ (by rw [List.getElem?_map,show ((i % cyc.length:Nat):Int).toNat=i % cyc.length from rfl,hz];rfl:(cyc.map encN)[((i % cyc.length:Nat):Int).toNat]?=some (encN z)) fl_ (fun p12 hp12=>?_)
 refine D.aa hp12 ?_
 refine D.al (h1.mono mup) rfl rfl rfl rfl rfl rfl rfl rfl rfl rfl om_ (by rw [List.getElem?_map,show ((z:Nat):Int).toNat=z from rfl,hp];rfl:(pts.map encP)[((z:Nat):Int).toNat]?=some (encP (cycP pts cyc i))) fl_ (fun p14 hp14=>?_)
 refine D.aa hp14 ?_
 refine D.ag (j:=0) ?_
 refine D.e1 5 hR ?_
 refine G.az (G.di (.head _) rfl rfl rfl rfl ?_)
 exact ⟨rfl,rfl⟩
def fn1V (b2 b3 b5:Nat):Value:=.func (.func 131) #[] #[.pointer (some ⟨b2,0,none⟩),.pointer (some ⟨b3,0,none⟩),.pointer (some ⟨b5,0,none⟩)]
theorem cmpQ_gt (a b:Rat):decide (cmpQ a b > 0)=decide (b<a):=by
 unfold cmpQ
 by_cases h1:a<b
 ·have:¬ b<a:=by grind
  simp [h1,this]
 ·by_cases h2:b<a <;> simp [h1,h2]
theorem cmpQ_eq (a b:Rat):(cmpQ a b == 0)=decide (b=a):=by
 unfold cmpQ
 by_cases h1:a<b
 ·have:¬ b=a:=by grind
  simp [h1,this]
 ·by_cases h2:b<a
  ·have:¬ b=a:=by grind
   simp [h1,h2,this]
  ·have:b=a:=by grind
   subst this
   simp [h1]
theorem up2_fn (C:Mem)(hT:Tabs C)(b2 b3 b5 b6:Nat)(pts:List Pt)(cyc:List Nat)(h:OnceC C b2 b3 b5 pts cyc)(hb6:C b6=some (.cells ⟨[fn1V b2 b3 b5]⟩ 221 (0,0)))(i:Nat)(hi:i<=1000000) :
  Gives cx.P 132 [.int .i64 i,.pointer (some ⟨b6,0,none⟩)] C (.bool (upB (cycP pts cyc i) (cycP pts cyc (i+1)))):=by
 have hP:=fun i=>cyc_qp h.ne h.ins h.q i
 unfold fn1V at hb6
 refine Fn.it kr_ Tryz.func132 34 fun w0=>?_
 refine G.z2 1 0 1 ?_
 refine G.aH [0,1,2,3,4,5,6,7,8,9,10] [(3,1),(7,1),(9,1)] rfl kr_ (fun R hB hR=>?_)
 refine D.aa (PtrTo.block (Mem.get hb6 mup) _) ?_
 refine D.ac ?_
 refine D.am _ ?_
 refine D.aW (fun _=>(pt1_fn _ b2 b3 b5 pts cyc (h.mono mup) (i+1))) ?_
 refine D.eP rfl rfl rfl rfl rfl rfl rfl rfl rfl rfl rfl rfl ?_
 refine D.aa (PtrTo.block (Mem.get hb6 mup) _) ?_
 refine D.ac ?_
 refine D.aW (fun _=>(pt1_fn _ b2 b3 b5 pts cyc (h.mono mup) i)) ?_
 refine D.eP rfl rfl rfl rfl rfl rfl rfl rfl rfl rfl rfl rfl ?_
 refine D.aC (fun _=>(rcompare_fn _ (hT.mono mup) (cycP pts cyc (i+1)).2 (cycP pts cyc i).2 1 (by decide) (by decide) (hP (i+1)).2 (hP i).2)) rfl rfl rfl rfl rfl rfl rfl rfl rfl ?_
 refine D.q3 1 0 1 4 hR ?_
 refine G.aH [0,1,2,3,4,5,6,7,8,9,10,11,12,13,14,15,16,17,18,19] [] rfl kr_ (fun R hB hR=>?_)
 refine D.ps 6 ?_
 refine D.aU rfl rfl rfl rfl rfl rfl (fun _=>PtrTo.block (Mem.get hb6 mup) _) rfl rfl rfl ?_
 refine D.ac ?_
 refine D.am _ ?_
 refine D.aW (fun _=>(pt1_fn _ b2 b3 b5 pts cyc (h.mono mup) (i+1))) ?_
 refine D.eP rfl rfl rfl rfl rfl rfl rfl rfl rfl rfl rfl rfl ?_
 refine D.aU rfl rfl rfl rfl rfl rfl (fun _=>PtrTo.block (Mem.get hb6 mup) _) rfl rfl rfl ?_
 refine D.ac ?_
 refine D.aW (fun _=>(pt1_fn _ b2 b3 b5 pts cyc (h.mono mup) i)) ?_
 refine D.eP rfl rfl rfl rfl rfl rfl rfl rfl rfl rfl rfl rfl ?_
 refine D.aC (fun _=>(rcompare_fn _ (hT.mono mup) (cycP pts cyc (i+1)).1 (cycP pts cyc i).1 1 (by decide) (by decide) (hP (i+1)).1 (hP i).1)) rfl rfl rfl rfl rfl rfl rfl rfl rfl ?_
 refine D.ac ?_
 refine D.aq ?_
 refine D.aF rfl rfl rfl rfl rfl rfl rfl rfl ?_
 refine D.q1 1 3 hR ?_
 refine G.rf ?_
 refine ⟨?_,rfl⟩
 rw [cmpQ_gt,cmpQ_eq,cmpQ_gt]
 rfl
theorem sgn_neg (q:Rat):decide (sgnZ q.num<0)=!decide (0<=q):=by
 rw [<- decide_not,decide_eq_decide,<- Rat.num_nonneg]
 rcases cH q.num with h | h | h <;> omega
theorem once_fn (C:Mem)(hT:Tabs C)(v1 v2 cv:Value)(pts:List Pt)(cyc:List Nat)(h1:Sl C 2 v1 (pts.map encP))(h3:Sl C 1 cv (cyc.map encN))(hne:0<cyc.length)(hins:∀ z∈cyc,z<pts.length)(hq:∀ p∈pts,QP 1 p)(hlen:cyc.length<=100000) :
  Gives cx.P 89 [.agg ⟨[v1,v2]⟩,cv] C (.bool (onceB pts cyc)):=by
 obtain ⟨A3,c3,rfl,hq3,hq4,_⟩:=id h3
 simp only [List.length_map] at h3 ⊢
 refine Fn.it kr_ Tryz.func89 46 fun w0=>?_
 refine G.rg fun R hR=>?_
 refine D.aB (fun b2=>?_)
 refine D.aB (fun b3=>?_)
 refine D.q2 1 2 3 hR ?_
 refine G.rg fun R hR=>?_
 refine D.ae (.head _) ?_
 refine D.ac ?_
 refine D.aj (fun b5=>?_)
 refine D.ag (j:=0) ?_
 refine D.e3 2 3 5 hR ?_
 refine G.rp 1 fun R hR=>?_
 refine D.aj (fun b6=>?_)
 refine D.ag (j:=0) ?_
 refine D.e2 5 6 hR ?_
 refine G.freeze 0 rfl (fun C6 hle6 hb6=>?_)
 refine G.freeze 0 rfl (fun C5 hle5 hb5=>?_)
 refine G.freeze 0 rfl (fun C3 hle3 hb3=>?_)
 refine G.freeze 0 rfl (fun C2 hle2 hb2=>?_)
 have hO:OnceC C2 b2 b3 b5 pts cyc:=⟨⟨v1,v2,hb2,h1.mono mup⟩,⟨_,Mem.get hb3 mup,h3.mono mup⟩,Mem.get hb5 mup,hne,hins,hq⟩
 have hP:=fun i=>cyc_qp hO.ne hO.ins hO.q i
 refine G.z3 2 5 6 7 ?_
 refine G.z4 1 5 6 7 8 ?_
 refine G.rg fun R hR=>?_
 refine D.aa (PtrTo.block (Mem.get hb5 mup) _) ?_
 refine D.q5 1 6 7 8 14 15 hR ?_
 refine G.loop (fun fr C' L' μ=>∃ (i k:Nat),(i<=cyc.length/\(List.range i).all (leftB pts cyc)=true/\((List.range i).filter (flipB pts cyc)).length=k)/\fr=[(6,[],.pointer (some ⟨b6,0,none⟩)),(7,[],.func (.func 132) #[] #[.pointer (some ⟨b6,0,none⟩)]),(8,[],.int .i64 k),(14,[],.int .i64 cyc.length),(15,[],.int .i64 i)]/\L'=[]/\μ=cyc.length-i) (h_5 6 7 8 14 15) ⟨0,0,⟨Nat.zero_le _,rfl,rfl⟩,rfl,rfl,rfl⟩ (fun fr C0' L0' m hle0 hI=>?_)
 obtain ⟨i,k,⟨hi,hall,hk⟩,rfl,rfl,rfl⟩:=hI
 refine G.z6 1 6 7 8 14 15 16 ?_
 refine G.cd (fun h16=>?_) fun h16=>?_
 ·have hil:i<cyc.length:=by simpa using h16
  have hkl:k<=i:=by
   rw [<- hk]
   exact Nat.le_trans (List.length_filter_le _ _) (by simp)
  refine G.z6 2 6 7 8 9 14 15 ?_
  refine G.aH [0,1,2,3,4,5,6,7,8,9,10,11,12] [(2,1),(6,1),(10,1),(11,1)] rfl kr_ (fun R hB hR=>?_)
  refine D.aa (PtrTo.block (Mem.get hb6 mup) _) ?_
  refine D.ac ?_
  refine D.aW (fun _=>(pt1_fn _ b2 b3 b5 pts cyc (hO.mono mup) i)) ?_
  refine D.aa (PtrTo.block (Mem.get hb6 mup) _) ?_
  refine D.ac ?_
  refine D.am _ ?_
  refine D.aW (fun _=>(pt1_fn _ b2 b3 b5 pts cyc (hO.mono mup) (i+1))) ?_
  refine D.aa (PtrTo.block (Mem.get hb6 mup) _) ?_
  refine D.ac ?_
  refine D.am _ ?_
  refine D.aW (fun _=>(pt1_fn _ b2 b3 b5 pts cyc (hO.mono mup) (i+2))) ?_
  refine D.aC (fun _=>(turn_fn _ (hT.mono mup) (cycP pts cyc i) (cycP pts cyc (i+1)) (cycP pts cyc (i+2)) 1 (by decide) (by decide) (hP i) (hP (i+1)) (hP (i+2)))) rfl rfl rfl rfl rfl rfl rfl rfl rfl ?_
  refine D.q7 1 6 7 8 9 14 15 30 hR ?_
  refine G.cd (fun h30=>?_) fun h30=>?_
  ·have hno:leftB pts cyc i=false:=by
    rw [sgn_neg] at h30
    simpa [leftB] using h30
   refine G.z1 1 4 ?_
   refine G.rf ?_
   refine ⟨?_,rfl⟩
   have:(List.range cyc.length).all (leftB pts cyc)=false:=List.all_eq_false.2 ⟨i,List.mem_range.2 hil,by rw [hno];decide⟩
   unfold onceB
   rw [this]
   rfl
  ·have hyes:leftB pts cyc i=true:=by
    rw [sgn_neg] at h30
    simpa [leftB] using h30
   have hall2:(List.range (i+1)).all (leftB pts cyc)=true:=by rw [List.range_succ,List.all_append,hall];simp [hyes]
   refine G.rp 2 fun R hR=>?_
   refine D.ai (up2_fn _ (hT.mono mup) b2 b3 b5 b6 pts cyc (hO.mono mup) (Mem.get hb6 mup) i om_) rfl rfl rfl rfl rfl rfl rfl fl_ ?_
   refine D.ps 4 ?_
   refine D.am _ ?_
   refine D.aC (fun _=>(up2_fn _ (hT.mono mup) b2 b3 b5 b6 pts cyc (hO.mono mup) (Mem.get hb6 mup) (i+1) om_)) rfl rfl rfl rfl rfl rfl rfl rfl rfl ?_
   refine D.aq ?_
   refine D.e6 6 7 8 14 15 40 hR ?_
   refine G.cd (fun h40=>?_) fun h40=>?_
   ·have hf:flipB pts cyc i=true:=h40
    refine G.rp 1 fun R hR=>?_
    refine D.am _ ?_
    refine D.q5 1 6 7 8 14 15 hR ?_
    refine G.rg fun R hR=>?_
    refine D.am _ ?_
    refine D.q5 1 6 7 8 14 15 hR ?_
    refine G.ax (m':=cyc.length-(i+1)) om_ hle0 (h_5 6 7 8 14 15) ⟨i+1,k+1,⟨by omega,hall2,by rw [List.range_succ,List.filter_append,List.length_append,hk];simp [hf]⟩,rfl,rfl,rfl⟩
   ·have hf:flipB pts cyc i=false:=h40
    refine G.rg fun R hR=>?_
    refine D.am _ ?_
    refine D.q5 1 6 7 8 14 15 hR ?_
    refine G.ax (m':=cyc.length-(i+1)) om_ hle0 (h_5 6 7 8 14 15) ⟨i+1,k,⟨by omega,hall2,by rw [List.range_succ,List.filter_append,List.length_append,hk];simp [hf]⟩,rfl,rfl,rfl⟩
 ·have hil:i=cyc.length:=by
   have:¬ i<cyc.length:=by simpa using h16
   omega
  refine G.z1 3 4 ?_
  refine G.rf ?_
  refine ⟨?_,rfl⟩
  rw [hil] at hall hk
  unfold onceB
  rw [hall,hk,Bool.true_and]
  congr 1
  rw [Bool.eq_iff_iff,decide_eq_true_eq]
  simp
  omega

/-! The sides of triangles, in order. -/
def side3 (t:Tri):List Side:=[sideK t 0,sideK t 1,sideK t 2]
def bC (tris:List Tri):List Side:=tris.flatMap side3
theorem side3_at (t:Tri){k:Nat}(hk:k<3):(side3 t)[k]?=some (sideK t k):=by
 rcases (by omega:k=0∨k=1∨k=2) with rfl | rfl | rfl <;> rfl
theorem ownT_keys (m:OwnM)(i:Nat)(t:Tri):∀ k,k<=3->(m.map (·.1)++(side3 t).take k).Nodup->(ownT m i t k).map (·.1)=m.map (·.1)++(side3 t).take k
 | 0,_,_=>by simp [ownT]
 | k+1,hk,hn=>by
  have h3:=side3_at t (show k<3 by omega)
  rw [List.take_add_one,h3,Option.toList_some,<- List.append_assoc] at hn ⊢
  have hn0:=(List.nodup_append.1 hn)
  have ih:=ownT_keys m i t k om_ hn0.1
  have hnone:mget (ownT m i t k) (sideK t k)=none:=by
   rw [bi,ih]
   intro h
   exact hn0.2.2 _ h _ (by simp) rfl
  rw [ownT,mset_new hnone,List.map_append,ih]
  rfl
theorem sidesK_take {tris:List Tri}{n:Nat}{t:Tri}(h:tris[n]?=some t):bC (tris.take (n+1))=bC (tris.take n)++side3 t:=by
 unfold bC
 rw [List.take_add_one,h,List.flatMap_append]
 simp
theorem take_nodup {tris:List Tri}(h:(bC tris).Nodup)(n:Nat):(bC (tris.take n)).Nodup:=by
 have:bC tris=bC (tris.take n)++bC (tris.drop n):=by
  unfold bC
  rw [<- List.flatMap_append,List.take_append_drop]
 rw [this] at h
 exact (List.nodup_append.1 h).1
theorem ea {tris:List Tri}(h:(bC tris).Nodup):∀ n,n<=tris.length->(ownN tris n).map (·.1)=bC (tris.take n)
 | 0,_=>by simp [ownN,bC]
 | n+1,hn=>by
  have ht:tris[n]?=some tris[n]:=List.getElem?_eq_getElem om_
  have h1:=take_nodup h (n+1)
  rw [sidesK_take ht] at h1 ⊢
  have ih:=ea h n om_
  rw [ownN,List.getD_eq_getElem?_getD,ht]
  show (ownT (ownN tris n) n tris[n] 3).map (·.1)=_
  rw [ownT_keys _ _ _ 3 (Nat.le_refl _) (by rw [ih];exact h1),ih]
  rfl
theorem own_single {tris:List Tri}(h:(bC tris).Nodup)(i:Nat)(t:Tri)(k:Nat)(ht:tris[i]?=some t)(hk:k<3):mget (ownT (ownN tris i) i t k) (sideK t k)=none:=by
 have hi:=(List.getElem?_eq_some_iff.1 ht).1
 have h1:=take_nodup h (i+1)
 rw [sidesK_take ht] at h1
 have ih:=ea h i om_
 have h3:=side3_at t hk
 have h2:(bC (tris.take i)++(side3 t).take (k+1)).Nodup:=by
  refine List.Nodup.sublist (List.Sublist.append (List.Sublist.refl _) (List.take_sublist _ _)) h1
 rw [List.take_add_one,h3,Option.toList_some,<- List.append_assoc] at h2
 have h4:=List.nodup_append.1 h2
 rw [bi,ownT_keys _ _ _ k om_ (by rw [ih];exact h4.1),ih]
 intro h5
 exact h4.2.2 _ h5 _ (by simp) rfl
theorem walkM_mem {B:List Side}{first:Int}:∀ (k:Nat)(p:Int)(out r:List Int),walkM B first k p out=some r->(∀ z∈out,z∈B.map (·.1))->∀ z∈r,z∈B.map (·.1)
 | 0,p,out,r,h,ho=>by simp only [walkM,Option.some.injEq] at h;subst h;exact ho
 | k+1,p,out,r,h,ho=>by
  simp only [walkM] at h
  cases hq:mget B p with
  | none=>rw [hq] at h;cases h
  | some q =>
   rw [hq] at h
   simp only at h
   split at h
   ·cases h
   ·refine walkM_mem k q _ r h (fun z hz=>?_)
    rcases List.mem_append.1 hz with hz | hz
    ·exact ho z hz
    ·rw [List.mem_singleton.1 hz]
     exact List.mem_map_of_mem (f:=(·.1)) (eA hq)
theorem walkM_len {B:List Side}{first:Int}:∀ (k:Nat)(p:Int)(out r:List Int),walkM B first k p out=some r->r.length=out.length+k
 | 0,p,out,r,h=>by simp only [walkM,Option.some.injEq] at h;subst h;rfl
 | k+1,p,out,r,h=>by
  simp only [walkM] at h
  cases hq:mget B p with
  | none=>rw [hq] at h;cases h
  | some q =>
   rw [hq] at h
   simp only at h
   split at h
   ·cases h
   ·have:=walkM_len k q _ r h
    simp at this
    omega
theorem outL_mem {ks:List Side}:∀ z∈outL ks,z∈ks.map (·.1):=by
 intro z hz
 unfold outL at hz
 cases ho:outM ks with
 | none=>rw [ho] at hz;simp at hz
 | some r =>
  rw [ho] at hz
  simp only [Option.getD_some] at hz
  unfold outM at ho
  split at ho
  ·have:=walkM_mem _ _ _ _ ho (by simp) z hz
   obtain ⟨s,hs,rfl⟩:=List.mem_map.1 this
   exact List.mem_map_of_mem (f:=(·.1)) (List.mem_filter.1 hs).1
  ·cases ho
theorem outL_len (ks:List Side):(outL ks).length<=ks.length:=by
 unfold outL
 cases ho:outM ks with
 | none=>simp
 | some r =>
  unfold outM at ho
  split at ho
  ·have:=walkM_len _ _ _ _ ho
   have h2:=List.length_filter_le (bordB ks) ks
   simp at this ⊢
   omega
  ·cases ho
def TriIn (n:Nat)(t:Tri):Prop:=t.1<n/\t.2.1<n/\t.2.2<n
theorem sideK_in {n:Nat}{t:Tri}(h:TriIn n t):∀ s∈side3 t,0<=s.1/\s.1.toNat<n:=by
 obtain ⟨h1,h2,h3⟩:=h
 intro s hs
 simp only [side3,List.mem_cons,List.not_mem_nil,or_false] at hs
 rcases hs with rfl | rfl | rfl <;> simp [sideK,triZ] <;> omega
theorem sidesK_in {n:Nat}{tris:List Tri}(h:∀ t∈tris,TriIn n t):∀ s∈bC tris,0<=s.1/\s.1.toNat<n:=by
 intro s hs
 obtain ⟨t,ht,hs⟩:=List.mem_flatMap.1 hs
 exact sideK_in (h t ht) s hs
theorem sidesK_len (tris:List Tri):(bC tris).length=3*tris.length:=by
 induction tris with
 | nil=>rfl
 | cons t l ih =>
  have:bC (t::l)=side3 t++bC l:=rfl
  rw [this,List.length_append,ih]
  simp [side3]
  omega
def dJ (tris:List Tri):List Nat:=(outL (bC tris)).map Int.toNat
theorem borderN_in {n:Nat}{tris:List Tri}(h:∀ t∈tris,TriIn n t):∀ z∈dJ tris,z<n:=by
 intro z hz
 obtain ⟨y,hy,rfl⟩:=List.mem_map.1 hz
 obtain ⟨s,hs,rfl⟩:=List.mem_map.1 (outL_mem y hy)
 exact (sidesK_in h s hs).2
theorem borderN_enc {n:Nat}{tris:List Tri}(h:∀ t∈tris,TriIn n t):(outL (bC tris)).map encI=(dJ tris).map encN:=by
 unfold dJ
 rw [List.map_map]
 refine List.map_congr_left (fun y hy=>?_)
 obtain ⟨s,hs,rfl⟩:=List.mem_map.1 (outL_mem y hy)
 have:=(sidesK_in h s hs).1
 show encI s.1=encN s.1.toNat
 unfold encI encN
 rw [Int.toNat_of_nonneg this]
/-! Sets of ints as maps. -/
def setZ (ks:List Int):List (Int × Value):=ks.map fun z=>(z,.bool true)
def addZ (ks:List Int)(z:Int):List Int:=if z∈ks then ks else ks++[z]
theorem setZ_len (ks:List Int):(setZ ks).length=ks.length:=by simp [setZ]
theorem mset_setZ:∀ {ks:List Int}{z:Int},mset (setZ ks) z (.bool true)=setZ (addZ ks z)
 | [],z=>by simp [setZ,mset,addZ]
 | k::ks,z=>by
  have ih:=mset_setZ (ks:=ks) (z:=z)
  unfold setZ at ih ⊢
  simp only [List.map_cons,mset]
  by_cases e:k=z
  ·subst e;simp [addZ]
  ·have e2:¬ z=k:=fun h=>e h.symm
   rw [if_neg e,ih]
   unfold addZ
   by_cases h:z∈ks
   ·simp [h]
   ·simp [h,e2]
def usedT (ks:List Int)(t:Tri):Nat->List Int
 | 0=>ks
 | k+1=>addZ (usedT ks t k) (triZ t k)
def usedN (tris:List Tri):Nat->List Int
 | 0=>[]
 | n+1=>usedT (usedN tris n) (tris.getD n (0,0,0)) 3
theorem encT_at (t:Tri){k:Nat}(hk:k<3):(encT t)[k]?=some (.int .i64 (triZ t k)):=by
 rcases (by omega:k=0∨k=1∨k=2) with rfl | rfl | rfl <;> rfl
theorem border_pos {tris:List Tri}(h:decide (outL (bC tris)≠[])=true):0<(dJ tris).length:=by
 unfold dJ
 rw [List.length_map]
 exact List.length_pos_iff.2 (of_decide_eq_true h)
theorem border_ne (tris:List Tri):decide (outL (bC tris)≠[])=decide (dJ tris≠[]):=by
 rw [decide_eq_decide]
 unfold dJ
 simp
def wholeB (pts:List Pt)(tris:List Tri):Bool:=decide (dJ tris≠[]) && (decide ((usedN tris tris.length).length=pts.length) && onceB pts (dJ tris))
theorem whole_mesh_fn (C:Mem)(hT:Tabs C)(v1 v2:Value)(pts:List Pt)(tris:List Tri)(h0:tris≠[])(h1:Sl C 2 v1 (pts.map encP))(h2:Sl C 3 v2 (tris.map encT))(hs:(bC tris).Nodup)(hin:∀ t∈tris,TriIn pts.length t)(hq:∀ p∈pts,QP 1 p)(hl:tris.length<=10000) :
  Gives cx.P 51 [.agg ⟨[v1,v2]⟩] C (.bool (wholeB pts tris)):=by
 obtain ⟨A1,c1,rfl,hq1,hq2,_⟩:=id h1
 obtain ⟨A2,c2,rfl,hq3,hq4,_⟩:=id h2
 have hmx:maxLen<=9223372036854775807:=by simp [maxLen]
 simp only [List.length_map] at h1 h2 hq1 hq3 ⊢
 refine Fn.it kr_ Tryz.func51 55 fun w0=>?_
 refine G.rg fun R hR=>?_
 refine D.aB (fun b1=>?_)
 refine D.q1 1 1 hR ?_
 refine G.freeze 0 rfl (fun C1 hle1 hb1=>?_)
 refine G.rg fun R hR=>?_
 refine D.aa (PtrTo.block (Mem.get hb1 mup) _) ?_
 refine D.aX (owners_fn _ _ _ tris h0 (h2.mono mup) (own_single hs)) (fun v14 C14 hle14 hq14=>?_)
 obtain ⟨bo,rfl,hbo⟩:=hq14
 refine D.q3 5 1 3 4 hR ?_
 refine G.z3 2 1 3 18 ?_
 refine G.cd (fun h18=>?_) fun h18=>?_
 ·exact absurd h18 (by decide)
 ·refine G.rg fun R hR=>?_
  refine D.makeMap keyZ rfl rfl rfl rfl fl_ (fun b19=>?_)
  refine D.q3 1 1 3 5 hR ?_
  refine G.rp 1 fun R hR=>?_
  refine D.aa (PtrTo.block (Mem.get hb1 mup) _) ?_
  refine D.q6 2 1 3 5 21 22 23 hR ?_
  refine G.loop (fun fr C' L' μ=>∃ (i:Nat),(i<=tris.length)/\fr=[(1,[],.pointer (some ⟨b1,0,none⟩)),(3,[],.map (some bo)),(5,[],.map (some b19)),(21,[],.slice A2 tris.length c2),(22,[],.int .i64 tris.length),(23,[],.int .i64 i)]/\L'=[.obj b19 (aD keyZ.enc (setZ (usedN tris i)))]/\μ=tris.length-i) (h_6 1 3 5 21 22 23) ⟨0,Nat.zero_le _,rfl,rfl,rfl⟩ (fun fr C0' L0' m hle0 hI=>?_)
  obtain ⟨i,hi,rfl,rfl,rfl⟩:=hI
  refine G.z7 1 1 3 5 21 22 23 24 ?_
  refine G.cd (fun h24=>?_) fun h24=>?_
  ·have hil:i<tris.length:=by simpa using h24
   obtain ⟨t,ht⟩:∃ t,tris[i]?=some t:=⟨tris[i],List.getElem?_eq_getElem hil⟩
   refine G.rg fun R hR=>?_
   refine D.al (h2.mono mup) rfl rfl rfl rfl rfl rfl rfl rfl rfl rfl om_ (by rw [List.getElem?_map,ht];rfl:(tris.map encT)[i]?=some (encT t)) fl_ (fun p25 hp25=>?_)
   refine D.aa hp25 ?_
   refine D.aj (fun b7=>?_)
   refine D.ag (j:=0) ?_
   refine D.e7 1 3 5 7 21 22 23 hR ?_
   refine G.rg fun R hR=>?_
   refine D.ae (.head _) ?_
   refine D.q8 1 1 3 5 21 22 23 27 28 hR ?_
   refine G.cW 0 rfl ?_
   refine G.loop (fun fr C' L' μ=>∃ (j:Nat),(j<=3)/\fr=[(1,[],.pointer (some ⟨b1,0,none⟩)),(3,[],.map (some bo)),(5,[],.map (some b19)),(21,[],.slice A2 tris.length c2),(22,[],.int .i64 tris.length),(23,[],.int .i64 i),(27,[],.agg ⟨encT t⟩),(28,[],.int .i64 j)]/\L'=[.obj b19 (aD keyZ.enc (setZ (usedT (usedN tris i) t j)))]/\μ=3-j) (h_8 1 3 5 21 22 23 27 28) ⟨0,Nat.zero_le _,rfl,rfl,rfl⟩ (fun fr C1' L1' m hle1 hI=>?_)
   obtain ⟨j,hj,rfl,rfl,rfl⟩:=hI
   refine G.z9 1 1 3 5 21 22 23 27 28 29 ?_
   refine G.cd (fun h29=>?_) fun h29=>?_
   ·have hjl:j<3:=by
     simp only [decide_eq_true_eq] at h29
     omega
    refine G.rg fun R hR=>?_
    refine D.bI rfl rfl rfl rfl rfl rfl rfl rfl rfl rfl rfl (fun _=>⟨by omega,by omega,encT_at t hjl⟩) rfl rfl ?_
    refine D.q9 1 1 3 5 9 21 22 23 27 28 hR ?_
    refine G.rp 2 fun R hR=>?_
    refine D.mapUpdate keyZ (j:=0) rfl rfl rfl rfl rfl rfl rfl rfl rfl rfl kr_ ?_
    refine D.e8 1 3 5 21 22 23 27 28 hR ?_
    refine G.rg fun R hR=>?_
    refine D.am _ ?_
    refine D.q8 1 1 3 5 21 22 23 27 28 hR ?_
    rw [mset_setZ]
    refine G.ax (m':=3-(j+1)) om_ hle1 (h_8 1 3 5 21 22 23 27 28) ⟨j+1,om_,rfl,rfl,rfl⟩
   ·have hjl:j=3:=by
     simp only [decide_eq_false_iff_not] at h29
     omega
    subst hjl
    refine G.rg fun R hR=>?_
    refine D.am _ ?_
    refine D.q6 1 1 3 5 21 22 23 hR ?_
    refine G.aY (L':=[.obj b19 (aD keyZ.enc (setZ (usedN tris (i+1))))]) (by rw [usedN,List.getD_eq_getElem?_getD,ht];rfl) ?_
    refine G.ax (m':=tris.length-(i+1)) om_ mup (h_6 1 3 5 21 22 23) ⟨i+1,om_,rfl,rfl,rfl⟩
  ·have hil:i=tris.length:=by
    have:¬ i<tris.length:=by simpa using h24
    omega
   subst hil
   refine G.rg fun R hR=>?_
   refine D.aa (PtrTo.block (Mem.get hb1 mup) _) ?_
   refine D.ac ?_
   refine D.aP (outer_fn _ _ _ bo (ownN tris tris.length) (Mem.get hbo mup) (by rw [ea hs _ (Nat.le_refl _),List.take_length];exact hs) (by rw [ea hs _ (Nat.le_refl _),List.take_length];exact fun s hh=>(sidesK_in hin s hh).1) (by have:=congrArg List.length (ea hs _ (Nat.le_refl _));rw [List.take_length,sidesK_len,List.length_map] at this;omega)) rfl rfl rfl rfl rfl rfl rfl fl_ (fun v38 C38 hle38 hq38=>?_)
   rw [ea hs _ (Nat.le_refl _),List.take_length] at hq38
   obtain ⟨bv,rfl,hbv⟩:=hq38
   rw [borderN_enc hin] at hbv
   refine D.q4 5 1 5 10 11 hR ?_
   refine G.aI [(3,1)] rfl (fun R hR=>?_)
   refine D.ps 3 ?_
   refine D.lenMapL keyZ.enc (.head _) rfl rfl rfl rfl rfl rfl rfl rfl rfl ?_
   refine D.ac ?_
   refine D.aU rfl rfl rfl rfl rfl rfl (fun _=>PtrTo.block (Mem.get hb1 mup) _) rfl rfl rfl ?_
   refine D.ps 2 ?_
   refine D.aq ?_
   refine D.ac ?_
   refine D.aU rfl rfl rfl rfl rfl rfl (fun _=>PtrTo.block (Mem.get hb1 mup) _) rfl rfl rfl ?_
   refine D.ac ?_
   refine D.aC (fun hg=>(once_fn _ (hT.mono mup) _ _ bv pts (dJ tris) (h1.mono mup) (hbv.mono mup) (by exact border_pos (Bool.and_eq_true_iff.1 (show (decide (outL (bC tris)≠[]) && _)=true/\True from hg).1).1) (borderN_in hin) hq (by have:=outL_len (bC tris);rw [sidesK_len] at this;unfold dJ;rw [List.length_map];omega))) rfl rfl rfl rfl rfl rfl rfl rfl rfl ?_
   refine D.aq ?_
   refine D.q1 1 2 hR ?_
   refine G.rf ?_
   refine ⟨?_,rfl⟩
   have hl:(((setZ (usedN tris tris.length)).length:Int) == (pts.length:Int))=decide ((usedN tris tris.length).length=pts.length):=by
    rw [setZ_len,Bool.eq_iff_iff,beq_iff_eq,decide_eq_true_eq]
    omega
   unfold wholeB
   rw [<- border_ne,<- hl,<- Bool.and_assoc]

noncomputable def kP2:KeyP cx.P 34 (Str × Str):=keyS2 rfl rfl rfl (by decide) (by decide) rfl rfl kr_
def ptK (p:Pt):Str × Str:=(qtx p.1,qtx p.2)
theorem ptK_inj {p q:Pt}(h:ptK p=ptK q):p=q:=by
 have h1:=qtx_eq (congrArg (·.1) h)
 have h2:=qtx_eq (congrArg (·.2) h)
 exact Prod.ext h1 h2
def metV (l:List Pt):List ((Str × Str) × Value):=l.map fun p=>(ptK p,.bool true)
theorem met_none {l:List Pt}{p:Pt}(h:p ∉ l):mget (metV l) (ptK p)=none:=by
 rw [bi]
 unfold metV
 rw [List.map_map]
 intro hm
 obtain ⟨q,hq,he⟩:=List.mem_map.1 hm
 exact h (ptK_inj he ▸ hq)
theorem met_new {l:List Pt}{p:Pt}(h:p ∉ l):mset (metV l) (ptK p) (.bool true)=metV (l++[p]):=by
 rw [mset_new (met_none h)]
 simp [metV]
def crossAny (n:Nat)(X:Nat->Nat->Bool):Bool:=(List.range n).any fun i=>(List.range i).any fun k=>X i k
def meshZ (pts:List Pt)(tris:List Tri)(X:Nat->Nat->Bool):Int:=if tris=[] then 13 else if wholeB pts tris then 0 else if crossAny tris.length X then 26 else 25
structure MeshOk (pts:List Pt)(tris:List Tri):Prop where
 q:∀ p∈pts,QP 1 p
 nd:pts.Nodup
 ins:∀ t∈tris,TriIn pts.length t
 pos:∀ t∈tris,0<bB (pts.getD t.1 (0,0)) (pts.getD t.2.1 (0,0)) (pts.getD t.2.2 (0,0))
 sides:(bC tris).Nodup
 lt:tris.length<=800
 lp:pts.length<=400
theorem pt_at {pts:List Pt}{i:Nat}(h:i<pts.length):pts[i]?=some (pts.getD i (0,0)):=by
 rw [List.getD_eq_getElem?_getD,List.getElem?_eq_getElem h];rfl
theorem pt_mem {pts:List Pt}{i:Nat}(h:i<pts.length):pts.getD i (0,0)∈pts:=List.mem_of_getElem? (pt_at h)
def triN (t:Tri)(j:Nat):Nat:=if j=0 then t.1 else if j=1 then t.2.1 else t.2.2
theorem triZ_N (t:Tri)(j:Nat):triZ t j=(triN t j:Nat):=by
 unfold triZ triN
 split
 ·rfl
 ·split <;> rfl
theorem dg {n:Nat}{t:Tri}(h:TriIn n t)(j:Nat):triN t j<n:=by
 obtain ⟨h1,h2,h3⟩:=h
 unfold triN
 split
 ·exact h1
 ·split <;> assumption
theorem sgn_le (q:Rat):decide (sgnZ q.num<=0)=!decide (0<q):=by
 have h1:=qnum_neg q
 have h2:q.num=0 ↔ q=0:=Rat.num_eq_zero
 rw [<- decide_not,decide_eq_decide]
 have h3:¬ 0<q ↔ (q<0∨q=0):=by grind
 rw [h3,<- h1,<- h2]
 rcases cH q.num with h | h | h <;> omega
theorem mcheck_fn (C:Mem)(hT:Tabs C)(v1 v2:Value)(pts:List Pt)(tris:List Tri)(X:Nat->Nat->Bool)(h1:Sl C 2 v1 (pts.map encP))(h2:Sl C 3 v2 (tris.map encT))(hM:MeshOk pts tris)
  (hX:tris≠[]->wholeB pts tris=false->∀ D:Mem,C.le D->∀ i k:Nat,i<tris.length->k<i->Gives cx.P 52 [.agg ⟨[v1,v2]⟩,.int .i64 i,.int .i64 k] D (.bool (X i k))) :
  Gives cx.P 23 [.agg ⟨[v1,v2]⟩] C (.int .i64 (meshZ pts tris X)):=by
 obtain ⟨A1,c1,rfl,hq1,hq2,_⟩:=id h1
 obtain ⟨A2,c2,rfl,hq3,hq4,_⟩:=id h2
 have hmx:maxLen<=9223372036854775807:=by simp [maxLen]
 have hlt:=hM.lt
 have hlp:=hM.lp
 simp only [List.length_map] at h1 h2 hq1 hq3 hX ⊢
 refine Fn.it kr_ Tryz.func23 105 fun w0=>?_
 refine G.rg fun R hR=>?_
 refine D.aB (fun b1=>?_)
 refine D.q1 1 1 hR ?_
 refine G.freeze 0 rfl (fun C1 hle1 hb1=>?_)
 refine G.rp 1 fun R hR=>?_
 refine D.aa (PtrTo.block (Mem.get hb1 mup) _) ?_
 refine D.q2 3 1 12 hR ?_
 refine G.cd (fun h12=>?_) fun h12=>?_
 ·have h0:tris=[]:=by
   have h:((tris.length:Nat):Int)=0:=by simpa using h12
   exact List.eq_nil_of_length_eq_zero om_
  refine G.z1 1 2 ?_
  refine G.rf ?_
  exact ⟨by unfold meshZ;rw [if_pos h0],rfl⟩
 ·have h0:tris≠[]:=by
   intro e
   rw [e] at h12
   exact absurd h12 (by decide)
  refine G.rp 1 fun R hR=>?_
  refine D.aa (PtrTo.block (Mem.get hb1 mup) _) ?_
  refine D.ps 4 ?_
  refine D.aU rfl rfl rfl rfl rfl rfl (fun _=>PtrTo.block (Mem.get hb1 mup) _) rfl rfl rfl ?_
  refine D.ps 2 ?_
  refine D.aF rfl rfl rfl rfl rfl rfl rfl rfl ?_
  refine D.q2 1 1 17 hR ?_
  refine G.cd (fun h17=>?_) fun h17=>?_
  ·exfalso
   simp only [Bool.or_eq_true,decide_eq_true_eq] at h17
   omega
  ·refine G.rg fun R hR=>?_
   refine D.makeMapP kP2 rfl rfl rfl rfl fl_ (fun b28=>?_)
   refine D.q2 1 1 3 hR ?_
   refine G.rp 1 fun R hR=>?_
   refine D.aa (PtrTo.block (Mem.get hb1 mup) _) ?_
   refine D.q5 2 1 3 30 31 32 hR ?_
   refine G.loop (fun fr C' L' μ=>∃ (i:Nat),(i<=pts.length)/\fr=[(1,[],.pointer (some ⟨b1,0,none⟩)),(3,[],.map (some b28)),(30,[],.slice A1 pts.length c1),(31,[],.int .i64 pts.length),(32,[],.int .i64 i)]/\L'=[.obj b28 (aD encS2 (metV (pts.take i)))]/\μ=pts.length-i) (h_5 1 3 30 31 32) ⟨0,Nat.zero_le _,rfl,rfl,rfl⟩ (fun fr C0' L0' m hle0 hI=>?_)
   obtain ⟨i,hi,rfl,rfl,rfl⟩:=hI
   refine G.z6 1 1 3 30 31 32 33 ?_
   refine G.cd (fun h33=>?_) fun h33=>?_
   ·have hil:i<pts.length:=by simpa using h33
    obtain ⟨p,hp⟩:∃ p,pts[i]?=some p:=⟨pts[i],List.getElem?_eq_getElem hil⟩
    have hpq:=hM.q p (List.mem_of_getElem? hp)
    have hnew:p ∉ pts.take i:=by
     intro hm
     obtain ⟨j,hj⟩:=List.getElem?_of_mem hm
     rw [List.getElem?_take] at hj
     split at hj
     ·rename_i hji
      have h3:=(List.getElem?_eq_some_iff.1 hj)
      have h4:=(List.getElem?_eq_some_iff.1 hp)
      have:=(List.getElem_inj hM.nd).1 (h3.2.trans h4.2.symm)
      omega
     ·cases hj
    have hone:metV (pts.take (i+1))=metV (pts.take i++[p]):=by rw [List.take_add_one,hp];rfl
    refine G.rg fun R hR=>?_
    refine D.al (h1.mono mup) rfl rfl rfl rfl rfl rfl rfl rfl rfl rfl om_ (by rw [List.getElem?_map,hp];rfl:(pts.map encP)[i]?=some (encP p)) fl_ (fun p34 hp34=>?_)
    refine D.aa hp34 ?_
    refine D.aj (fun b5=>?_)
    refine D.ag (j:=0) ?_
    refine D.e6 1 3 5 30 31 32 hR ?_
    refine G.rg fun R hR=>?_
    refine D.ae (.head _) ?_
    refine D.ai (eJ _ (hT.mono mup) (qtx p.1) (qtx p.2) (by have:=bk hpq.1 (by decide);omega) (by have:=bk hpq.2 (by decide);omega)) rfl rfl rfl rfl rfl rfl rfl fl_ ?_
    refine D.q7 1 1 3 5 30 31 32 38 hR ?_
    refine G.cd (fun h38=>?_) fun h38=>?_
    ·exfalso
     rw [ba (hpq.1.le (by decide)),ba (hpq.2.le (by decide))] at h38
     exact absurd h38 (by decide)
    ·refine G.rp 1 fun R hR=>?_
     refine D.ae (.head _) ?_
     refine D.lookupLP kP2 (.tail _ (.head _)) rfl rfl rfl rfl rfl rfl rfl rfl rfl (congrArg (lookV (.bool false) false) (met_none hnew)) rfl rfl ?_
     refine D.e7 1 3 5 30 31 32 41 hR ?_
     refine G.cd (fun h41=>?_) fun h41=>?_
     ·exact absurd h41 (by decide)
     ·refine G.rp 1 fun R hR=>?_
      refine D.ae (.head _) ?_
      refine D.eZ kP2 (j:=1) (key:=ptK p) rfl rfl rfl rfl rfl rfl rfl rfl rfl rfl ?_
      refine D.e5 1 3 30 31 32 hR ?_
      refine G.rg fun R hR=>?_
      refine D.am _ ?_
      refine D.q5 1 1 3 30 31 32 hR ?_
      refine G.cW 1 rfl ?_
      refine G.aY (L':=[.obj b28 (aD encS2 (metV (pts.take (i+1))))]) (by rw [hone,<- met_new hnew];rfl) ?_
      refine G.ax (m':=pts.length-(i+1)) om_ mup (h_5 1 3 30 31 32) ⟨i+1,om_,rfl,rfl,rfl⟩
   ·refine G.rp 1 fun R hR=>?_
    refine D.aa (PtrTo.block (Mem.get hb1 mup) _) ?_
    refine D.q4 2 1 46 47 48 hR ?_
    refine G.dropAll ?_
    refine G.loop (fun fr C' L' μ=>∃ (i:Nat),(i<=tris.length)/\fr=[(1,[],.pointer (some ⟨b1,0,none⟩)),(46,[],.slice A2 tris.length c2),(47,[],.int .i64 tris.length),(48,[],.int .i64 i)]/\L'=[]/\μ=tris.length-i) (h_4 1 46 47 48) ⟨0,Nat.zero_le _,rfl,rfl,rfl⟩ (fun fr C1' L1' m hle1 hI=>?_)
    obtain ⟨i,hi,rfl,rfl,rfl⟩:=hI
    refine G.z5 1 1 46 47 48 49 ?_
    refine G.cd (fun h49=>?_) fun h49=>?_
    ·have hil:i<tris.length:=by simpa using h49
     obtain ⟨t,ht⟩:∃ t,tris[i]?=some t:=⟨tris[i],List.getElem?_eq_getElem hil⟩
     have htm:=List.mem_of_getElem? ht
     have hti:=hM.ins t htm
     have hpos:=hM.pos t htm
     refine G.rg fun R hR=>?_
     refine D.al (h2.mono mup) rfl rfl rfl rfl rfl rfl rfl rfl rfl rfl om_ (by rw [List.getElem?_map,ht];rfl:(tris.map encT)[i]?=some (encT t)) fl_ (fun p50 hp50=>?_)
     refine D.aa hp50 ?_
     refine D.aj (fun b7=>?_)
     refine D.ag (j:=0) ?_
     refine D.e5 1 7 46 47 48 hR ?_
     refine G.rg fun R hR=>?_
     refine D.ae (.head _) ?_
     refine D.q7 1 1 7 46 47 48 52 53 hR ?_
     refine G.loop (fun fr C' L' μ=>∃ (j:Nat),(j<=3)/\fr=[(1,[],.pointer (some ⟨b1,0,none⟩)),(7,[],.pointer (some ⟨b7,0,none⟩)),(46,[],.slice A2 tris.length c2),(47,[],.int .i64 tris.length),(48,[],.int .i64 i),(52,[],.agg ⟨encT t⟩),(53,[],.int .i64 j)]/\L'=[.obj b7 (.cells ⟨encT t⟩ 109 (0,0))]/\μ=3-j) (h_7 1 7 46 47 48 52 53) ⟨0,Nat.zero_le _,rfl,rfl,rfl⟩ (fun fr C2' L2' m hle2 hI=>?_)
     obtain ⟨j,hj,rfl,rfl,rfl⟩:=hI
     refine G.z8 1 1 7 46 47 48 52 53 54 ?_
     refine G.cd (fun h54=>?_) fun h54=>?_
     ·have hjl:j<3:=by
       simp only [decide_eq_true_eq] at h54
       omega
      have hin:=dg hti j
      refine G.rg fun R hR=>?_
      refine D.bI rfl rfl rfl rfl rfl rfl rfl rfl rfl rfl rfl (fun _=>⟨by omega,by omega,(show (encT t)[((j:Nat):Int).toNat]?=some (.int .i64 ((triN t j:Nat):Int)) from by rw [<- triZ_N];exact encT_at t hjl)⟩) rfl rfl ?_
      refine D.q8 1 1 7 9 46 47 48 52 53 hR ?_
      refine G.rp 5 fun R hR=>?_
      refine D.aU rfl rfl rfl rfl rfl rfl (fun _=>PtrTo.block (Mem.get hb1 mup) _) rfl rfl rfl ?_
      refine D.ps 2 ?_
      refine D.aF rfl rfl rfl rfl rfl rfl rfl rfl ?_
      refine D.e8 1 7 46 47 48 52 53 64 hR ?_
      refine G.cd (fun h64=>?_) fun h64=>?_
      ·exfalso
       simp only [Bool.or_eq_true,decide_eq_true_eq] at h64
       omega
      ·refine G.rg fun R hR=>?_
       refine D.am _ ?_
       refine D.q7 1 1 7 46 47 48 52 53 hR ?_
       refine G.ax (m':=3-(j+1)) om_ hle2 (h_7 1 7 46 47 48 52 53) ⟨j+1,om_,rfl,rfl,rfl⟩
     ·clear h54
      refine G.aH [0,1,2,3,4,5,6,7,8,9,10,11,12,13,14,15,16,17,18,19] [(18,1)] rfl kr_ (fun R hB hR=>?_)
      refine D.ac ?_
      refine D.aa (PtrTo.block (Mem.get hb1 mup) _) ?_
      refine D.ar (0) rfl rfl rfl rfl rfl rfl rfl rfl rfl (fun _=>⟨by decide,by decide,rfl⟩) rfl rfl ?_
      refine D.ae (.head _) ?_
      refine D.al (h1.mono mup) rfl rfl rfl rfl rfl rfl rfl rfl rfl rfl om_ (by rw [List.getElem?_map,show (((t.1:Nat):Int)).toNat=t.1 from rfl,pt_at hti.1];rfl:(pts.map encP)[(((t.1:Nat):Int)).toNat]?=some (encP (pts.getD t.1 (0,0)))) fl_ (fun p70 hp70=>?_)
      refine D.aa hp70 ?_
      refine D.ac ?_
      refine D.aa (PtrTo.block (Mem.get hb1 mup) _) ?_
      refine D.ar (1) rfl rfl rfl rfl rfl rfl rfl rfl rfl (fun _=>⟨by decide,by decide,rfl⟩) rfl rfl ?_
      refine D.ae (.head _) ?_
      refine D.al (h1.mono mup) rfl rfl rfl rfl rfl rfl rfl rfl rfl rfl om_ (by rw [List.getElem?_map,show (((t.2.1:Nat):Int)).toNat=t.2.1 from rfl,pt_at hti.2.1];rfl:(pts.map encP)[(((t.2.1:Nat):Int)).toNat]?=some (encP (pts.getD t.2.1 (0,0)))) fl_ (fun p76 hp76=>?_)
      refine D.aa hp76 ?_
      refine D.ac ?_
      refine D.aa (PtrTo.block (Mem.get hb1 mup) _) ?_
      refine D.ar (2) rfl rfl rfl rfl rfl rfl rfl rfl rfl (fun _=>⟨by decide,by decide,rfl⟩) rfl rfl ?_
      refine D.ae (.head _) ?_
      refine D.al (h1.mono mup) rfl rfl rfl rfl rfl rfl rfl rfl rfl rfl om_ (by rw [List.getElem?_map,show (((t.2.2:Nat):Int)).toNat=t.2.2 from rfl,pt_at hti.2.2];rfl:(pts.map encP)[(((t.2.2:Nat):Int)).toNat]?=some (encP (pts.getD t.2.2 (0,0)))) fl_ (fun p82 hp82=>?_)
      refine D.aa hp82 ?_
      refine D.aC (fun _=>(turn_fn _ (hT.mono mup) (pts.getD t.1 (0,0)) (pts.getD t.2.1 (0,0)) (pts.getD t.2.2 (0,0)) 1 (by decide) (by decide) (hM.q _ (pt_mem hti.1)) (hM.q _ (pt_mem hti.2.1)) (hM.q _ (pt_mem hti.2.2)))) rfl rfl rfl rfl rfl rfl rfl rfl rfl ?_
      refine D.q5 1 1 46 47 48 85 hR ?_
      refine G.cd (fun h85=>?_) fun h85=>?_
      ·exfalso
       rw [sgn_le,decide_eq_true hpos] at h85
       exact absurd h85 (by decide)
      ·refine G.rg fun R hR=>?_
       refine D.am _ ?_
       refine D.q4 1 1 46 47 48 hR ?_
       refine G.dropAll ?_
       refine G.ax (m':=tris.length-(i+1)) om_ mup (h_4 1 46 47 48) ⟨i+1,om_,rfl,rfl,rfl⟩
    ·clear h49
     refine G.rg fun R hR=>?_
     refine D.aa (PtrTo.block (Mem.get hb1 mup) _) ?_
     refine D.ai (whole_mesh_fn _ (hT.mono mup) _ _ pts tris h0 (h1.mono mup) (h2.mono mup) hM.sides hM.ins hM.q om_) rfl rfl rfl rfl rfl rfl rfl fl_ ?_
     refine D.e2 1 88 hR ?_
     refine G.cd (fun h88=>?_) fun h88=>?_
     ·have hw:wholeB pts tris=true:=h88
      refine G.z1 1 2 ?_
      refine G.rf ?_
      exact ⟨by unfold meshZ;rw [if_neg h0,if_pos hw],rfl⟩
     ·have hw:wholeB pts tris=false:=h88
      refine G.rp 1 fun R hR=>?_
      refine D.aa (PtrTo.block (Mem.get hb1 mup) _) ?_
      refine D.q3 2 1 91 92 hR ?_
      refine G.loop (fun fr C' L' μ=>∃ (i:Nat),(i<=tris.length/\crossAny i X=false)/\fr=[(1,[],.pointer (some ⟨b1,0,none⟩)),(91,[],.int .i64 tris.length),(92,[],.int .i64 i)]/\L'=[]/\μ=tris.length-i) (h_3 1 91 92) ⟨0,⟨Nat.zero_le _,rfl⟩,rfl,rfl,rfl⟩ (fun fr C3' L3' m hle3 hI=>?_)
      obtain ⟨i,⟨hi3,hno⟩,rfl,rfl,rfl⟩:=hI
      refine G.z4 1 1 91 92 93 ?_
      refine G.cd (fun h93=>?_) fun h93=>?_
      ·have hil:i<tris.length:=by simpa using h93
       refine G.z4 2 1 10 91 92 ?_
       refine G.z6 2 1 10 91 92 95 96 ?_
       refine G.loop (fun fr C' L' μ=>∃ (k:Nat),(k<=i/\(List.range k).any (fun k=>X i k)=false)/\fr=[(1,[],.pointer (some ⟨b1,0,none⟩)),(10,[],.int .i64 i),(91,[],.int .i64 tris.length),(92,[],.int .i64 i),(95,[],.int .i64 i),(96,[],.int .i64 k)]/\L'=[]/\μ=i-k) (h_6 1 10 91 92 95 96) ⟨0,⟨Nat.zero_le _,rfl⟩,rfl,rfl,rfl⟩ (fun fr C4' L4' m hle4 hI=>?_)
       obtain ⟨k,⟨hk4,hno4⟩,rfl,rfl,rfl⟩:=hI
       refine G.z7 1 1 10 91 92 95 96 97 ?_
       refine G.cd (fun h97=>?_) fun h97=>?_
       ·have hki:k<i:=by simpa using h97
        refine G.z7 2 1 10 11 91 92 95 96 ?_
        refine G.rg fun R hR=>?_
        refine D.aa (PtrTo.block (Mem.get hb1 mup) _) ?_
        refine D.ps 2 ?_
        refine D.af (hX h0 hw _ mup i k hil hki) ?_
        refine D.e7 1 10 91 92 95 96 102 hR ?_
        refine G.cd (fun h102=>?_) fun h102=>?_
        ·have hyes:X i k=true:=h102
         have hc:crossAny tris.length X=true:=List.any_eq_true.2 ⟨i,List.mem_range.2 hil,List.any_eq_true.2 ⟨k,List.mem_range.2 hki,hyes⟩⟩
         refine G.z1 1 2 ?_
         refine G.rf ?_
         exact ⟨by unfold meshZ;rw [if_neg h0,hw,if_neg (by decide),if_pos hc],rfl⟩
        ·have hno5:X i k=false:=h102
         refine G.rg fun R hR=>?_
         refine D.am _ ?_
         refine D.q6 1 1 10 91 92 95 96 hR ?_
         refine G.ax (m':=i-(k+1)) om_ hle4 (h_6 1 10 91 92 95 96) ⟨k+1,⟨by omega,by rw [List.range_succ,List.any_append,hno4];simp [hno5]⟩,rfl,rfl,rfl⟩
       ·have hki:k=i:=by
         have:¬ k<i:=by simpa using h97
         omega
        subst hki
        refine G.rg fun R hR=>?_
        refine D.am _ ?_
        refine D.q3 1 1 91 92 hR ?_
        refine G.ax (m':=tris.length-(k+1)) om_ mup (h_3 1 91 92) ⟨k+1,⟨by omega,by unfold crossAny at hno ⊢;rw [List.range_succ,List.any_append,hno];simp [hno4]⟩,rfl,rfl,rfl⟩
      ·have hil:i=tris.length:=by
        have:¬ i<tris.length:=by simpa using h93
        omega
       refine G.z1 1 2 ?_
       refine G.rf ?_
       refine ⟨?_,rfl⟩
       rw [hil] at hno
       unfold meshZ
       rw [if_neg h0,hw,if_neg (by decide),hno]
       rfl

structure Good (pts:List Pt)(tris:List Tri):Prop where
 ok:MeshOk pts tris
 ne:tris≠[]
 whole:wholeB pts tris=true
structure MeshIn (C:Mem)(mv:Value)(pts:List Pt)(tris:List Tri):Prop where
 ex:∃ v1 v2,mv=.agg ⟨[v1,v2]⟩/\Sl C 2 v1 (pts.map encP)/\Sl C 3 v2 (tris.map encT)
theorem MeshIn.mono {C D:Mem}{mv:Value}{pts:List Pt}{tris:List Tri}(h:MeshIn C mv pts tris)(hl:C.le D):MeshIn D mv pts tris:=by
 obtain ⟨v1,v2,h1,h2,h3⟩:=h.ex
 exact ⟨v1,v2,h1,h2.mono hl,h3.mono hl⟩
def nox:Nat->Nat->Bool:=fun _ _=>false
theorem good_check (C:Mem)(hT:Tabs C)(mv:Value)(pts:List Pt)(tris:List Tri)(hm:MeshIn C mv pts tris)(hG:Good pts tris):Gives cx.P 23 [mv] C (.int .i64 0):=by
 obtain ⟨v1,v2,rfl,h1,h2⟩:=hm.ex
 have h:=mcheck_fn C hT v1 v2 pts tris nox h1 h2 hG.ok (fun _ h3=>by rw [hG.whole] at h3;cases h3)
 have e:meshZ pts tris nox=0:=by unfold meshZ;rw [if_neg hG.ne,if_pos hG.whole]
 rwa [e] at h
def cor (pts:List Pt)(t:Tri)(j:Nat):Pt:=pts.getD (triN t j) (0,0)
def inTri (pts:List Pt)(p:Pt)(t:Tri):Bool:=decide (0<=bB (cor pts t 0) (cor pts t 1) p) && decide (0<=bB (cor pts t 1) (cor pts t 2) p) && decide (0<=bB (cor pts t 2) (cor pts t 0) p)
def locL (pts:List Pt)(tris:List Tri)(p:Pt):List Nat:=(List.range tris.length).filter fun i=>inTri pts p (tris.getD i (0,0,0))
theorem cor_qp {pts:List Pt}{tris:List Tri}(h:MeshOk pts tris){t:Tri}(ht:t∈tris)(j:Nat):QP 1 (cor pts t j):=h.q _ (pt_mem (dg (h.ins t ht) j))
theorem QP.le {k m:Nat}{p:Pt}(h:QP k p)(hk:k<=m):QP m p:=⟨h.1.le hk,h.2.le hk⟩
theorem corners_ok (C:Mem)(mv:Value)(pts:List Pt)(tris:List Tri)(hm:MeshIn C mv pts tris)(hM:MeshOk pts tris)(i:Nat)(t:Tri)(ht:tris[i]?=some t) :
  Gives cx.P 90 [mv,.int .i64 i] C (cornV (cor pts t 0) (cor pts t 1) (cor pts t 2)):=by
 obtain ⟨v1,v2,rfl,h1,h2⟩:=hm.ex
 have hti:=hM.ins t (List.mem_of_getElem? ht)
 exact corners_fn C v1 v2 pts tris i t _ _ _ h1 h2 ht (pt_at hti.1) (pt_at hti.2.1) (pt_at hti.2.2)
theorem ratP_ok {p:Pt}{k:Nat}(h:QP k p)(hk:k<=1000):(qtx p.1).length<=9223372036854775807/\(qtx p.2).length<=9223372036854775807:=by
 have h1:=bk (h.1.le (Nat.le_succ k)) om_
 have h2:=bk (h.2.le (Nat.le_succ k)) om_
 exact ⟨by omega,by omega⟩
def PtR (p:Pt):Prop:=aV (qtx p.1)=true/\aV (qtx p.2)=true
theorem eI (C:Mem)(hT:Tabs C)(p:Pt)(hq:QP 23 p)(hr:PtR p):Gives cx.P 49 [ptV p] C (.int .i64 0):=by
 have h:=eJ C hT (qtx p.1) (qtx p.2) (ratP_ok hq (by decide)).1 (ratP_ok hq (by decide)).2
 rw [hr.1,hr.2] at h
 exact h
theorem locate_fn (C:Mem)(hT:Tabs C)(mv:Value)(pts:List Pt)(tris:List Tri)(p:Pt)(hm:MeshIn C mv pts tris)(hG:Good pts tris)(hq:QP 23 p)(hr:PtR p) :
  Pur cx.P 82 [mv,ptV p] C fun u D=>∃ v,u=.tuple #[v,.int .i64 0]/\Sl D 1 v ((locL pts tris p).map encN):=by
 have hM:=hG.ok
 have hlt:=hM.lt
 have hmx:maxLen<=9223372036854775807:=by simp [maxLen]
 have hm0:=hm
 obtain ⟨v1,v2,rfl,h1,h2⟩:=id hm.ex
 obtain ⟨A1,c1,rfl,hq1,hq2,_⟩:=id h1
 obtain ⟨A2,c2,rfl,hq3,hq4,_⟩:=id h2
 simp only [List.length_map] at h1 h2 hm0 ⊢
 refine Fn.it kr_ Tryz.func82 34 fun w0=>?_
 refine G.rg fun R hR=>?_
 refine D.aB (fun b2=>?_)
 refine D.aB (fun b3=>?_)
 refine D.q2 2 2 3 hR ?_
 refine G.freeze 1 rfl (fun C2 hle2 hb2=>?_)
 refine G.freeze 0 rfl (fun C3 hle3 hb3=>?_)
 refine G.rg fun R hR=>?_
 refine D.aa (PtrTo.block (Mem.get hb2 mup) _) ?_
 refine D.af (good_check _ (hT.mono mup) _ pts tris (hm0.mono mup) hG) ?_
 refine D.q3 1 2 3 6 hR ?_
 refine G.z4 2 2 3 6 12 ?_
 refine G.cd (fun h12=>?_) fun h12=>?_
 ·exact absurd h12 (by decide)
 ·refine G.rg fun R hR=>?_
  refine D.aa (PtrTo.block (Mem.get hb3 mup) _) ?_
  refine D.af (eI _ (hT.mono mup) p hq hr) ?_
  refine D.q3 1 2 3 16 hR ?_
  refine G.cd (fun h16=>?_) fun h16=>?_
  ·exact absurd h16 (by decide)
  ·refine G.z3 1 2 3 7 ?_
   refine G.rp 1 fun R hR=>?_
   refine D.aa (PtrTo.block (Mem.get hb2 mup) _) ?_
   refine D.q5 2 2 3 7 19 20 hR ?_
   refine G.nilArr 3 1 ?_
   refine G.loop (fun fr C' L' μ=>∃ (i:Nat)(out:List Nat)(w:Value),(i<=tris.length/\out=(List.range i).filter (fun i=>inTri pts p (tris.getD i (0,0,0))))/\fr=[(2,[],.pointer (some ⟨b2,0,none⟩)),(3,[],.pointer (some ⟨b3,0,none⟩)),(7,[],w),(19,[],.int .i64 tris.length),(20,[],.int .i64 i)]/\L'=[.arr w 3 1 out.length (out.map encN).flatten]/\μ=tris.length-i) (h_5 2 3 7 19 20) ⟨0,[],_,⟨Nat.zero_le _,rfl⟩,rfl,rfl,rfl⟩ (fun fr C0' L0' m hle0 hI=>?_)
   obtain ⟨i,out,w,⟨hi,hout⟩,rfl,rfl,rfl⟩:=hI
   refine G.z6 1 2 3 7 19 20 21 ?_
   refine G.cd (fun h21=>?_) fun h21=>?_
   ·have hil:i<tris.length:=by simpa using h21
    obtain ⟨t,ht⟩:∃ t,tris[i]?=some t:=⟨tris[i],List.getElem?_eq_getElem hil⟩
    have htm:=List.mem_of_getElem? ht
    have htd:tris.getD i (0,0,0)=t:=by rw [List.getD_eq_getElem?_getD,ht];rfl
    have hol:out.length<=i:=by
     rw [hout]
     exact Nat.le_trans (List.length_filter_le _ _) (by simp)
    refine G.z6 2 2 3 7 8 19 20 ?_
    refine G.aH [0,1,2,3,4] [(2,1),(4,1)] rfl kr_ (fun R hB hR=>?_)
    refine D.aa (PtrTo.block (Mem.get hb2 mup) _) ?_
    refine D.ac ?_
    refine D.aW (fun _=>(corners_ok _ _ pts tris (hm0.mono mup) hM i t ht)) ?_
    refine D.aa (PtrTo.block (Mem.get hb3 mup) _) ?_
    refine D.aC (fun _=>(inside_fn _ (hT.mono mup) (cor pts t 0) (cor pts t 1) (cor pts t 2) p 23 (by decide) (by decide) ((cor_qp hM htm 0).le (by decide)) ((cor_qp hM htm 1).le (by decide)) ((cor_qp hM htm 2).le (by decide)) hq)) rfl rfl rfl rfl rfl rfl rfl rfl rfl ?_
    refine D.e7 2 3 7 8 19 20 27 hR ?_
    refine G.cd (fun h27=>?_) fun h27=>?_
    ·have hin:inTri pts p t=true:=h27
     have hnew:(List.range (i+1)).filter (fun i=>inTri pts p (tris.getD i (0,0,0)))=out++[i]:=by rw [List.range_succ,List.filter_append,<- hout,List.filter_cons,htd,hin];rfl
     refine G.rp 2 fun R hR=>?_
     refine D.ah [encN i] (fun p30 C30 hle30 hs30=>?_)
     refine D.append (j:=0) rfl rfl rfl rfl rfl rfl rfl rfl rfl rfl rfl hs30 rfl (by simp only [List.length_singleton,maxLen];omega) (by simp only [List.length_singleton];omega) fl_ (fun v31=>?_)
     refine D.q5 1 2 3 7 19 20 hR ?_
     refine G.rg fun R hR=>?_
     refine D.am _ ?_
     refine D.q5 1 2 3 7 19 20 hR ?_
     refine G.aY (L':=[.arr v31 3 1 (out++[i]).length ((out++[i]).map encN).flatten]) (by simp [encN]) ?_
     refine G.ax (m':=tris.length-(i+1)) om_ mup (h_5 2 3 7 19 20) ⟨i+1,out++[i],v31,⟨by omega,hnew.symm⟩,rfl,rfl,rfl⟩
    ·have hin:inTri pts p t=false:=h27
     have hnew:(List.range (i+1)).filter (fun i=>inTri pts p (tris.getD i (0,0,0)))=out:=by rw [List.range_succ,List.filter_append,<- hout,List.filter_cons,htd,hin];simp
     refine G.rg fun R hR=>?_
     refine D.am _ ?_
     refine D.q5 1 2 3 7 19 20 hR ?_
     refine G.ax (m':=tris.length-(i+1)) om_ mup (h_5 2 3 7 19 20) ⟨i+1,out,w,⟨by omega,hnew.symm⟩,rfl,rfl,rfl⟩
   ·have hil:i=tris.length:=by
     have:¬ i<tris.length:=by simpa using h21
     omega
    refine G.z2 3 4 5 ?_
    refine G.freezeArr 0 (out.map encN) rfl rfl (by intro r hr;obtain ⟨y,_,rfl⟩:=List.mem_map.1 hr;rfl) (by simp) (fun Cg hg hsl3=>?_)
    refine G.az (G.dropAll (G.aK rfl rfl rfl ?_))
    refine ⟨rfl,_,rfl, ?_⟩
    rw [hil] at hout
    unfold locL
    rw [<- hout]
    exact hsl3
theorem contains_fn (C:Mem)(hT:Tabs C)(mv:Value)(pts:List Pt)(tris:List Tri)(p:Pt)(hm:MeshIn C mv pts tris)(hG:Good pts tris)(hq:QP 23 p)(hr:PtR p) :
  Gives cx.P 46 [mv,ptV p] C (.tuple #[.bool (decide (locL pts tris p≠[])),.int .i64 0]):=by
 have hm0:=hm
 obtain ⟨v1,v2,rfl,h1,h2⟩:=id hm.ex
 refine Fn.it kr_ Tryz.func46 18 fun w0=>?_
 refine G.rg fun R hR=>?_
 refine D.aB (fun b2=>?_)
 refine D.aB (fun b3=>?_)
 refine D.q2 2 2 3 hR ?_
 refine G.rg fun R hR=>?_
 refine D.ae (.tail _ (.head _)) ?_
 refine D.ae (.head _) ?_
 refine D.aX (locate_fn _ (hT.mono mup) _ pts tris p (hm0.mono mup) hG hq hr) (fun v11 C11 hle11 hq11=>?_)
 obtain ⟨wv,rfl,hwv⟩:=hq11
 obtain ⟨Aw,cw,hwe,_⟩:=id hwv
 rw [List.length_map] at hwe
 subst hwe
 refine D.q2 5 6 7 hR ?_
 refine G.z2 6 4 5 ?_
 refine G.az (G.dropAll (G.aK rfl rfl rfl ?_))
 refine ⟨?_,rfl⟩
 have:decide (((locL pts tris p).length:Int) > 0)=decide (locL pts tris p≠[]):=by
  rw [decide_eq_decide,<- List.length_pos_iff]
  omega
 rw [<- this]
theorem checkTri_fn (C:Mem)(hT:Tabs C)(mv:Value)(pts:List Pt)(tris:List Tri)(i:Nat)(hm:MeshIn C mv pts tris)(hG:Good pts tris)(hi:i<tris.length) :
  Gives cx.P 137 [mv,.int .i64 i] C (.int .i64 0):=by
 have hm0:=hm
 obtain ⟨v1,v2,rfl,h1,h2⟩:=id hm.ex
 obtain ⟨A2,c2,rfl,hq3,hq4,_⟩:=id h2
 simp only [List.length_map] at h1 h2 hm0 ⊢
 refine Fn.it kr_ Tryz.func137 20 fun w0=>?_
 refine G.rg fun R hR=>?_
 refine D.aB (fun b2=>?_)
 refine D.q2 1 1 2 hR ?_
 refine G.rg fun R hR=>?_
 refine D.ae (.head _) ?_
 refine D.af (good_check _ (hT.mono mup) _ pts tris (hm0.mono mup) hG) ?_
 refine D.q3 1 1 2 5 hR ?_
 refine G.z4 2 1 2 5 9 ?_
 refine G.cd (fun h9=>?_) fun h9=>?_
 ·exact absurd h9 (by decide)
 ·refine G.rp 5 fun R hR=>?_
  refine D.ae (.head _) ?_
  refine D.ps 2 ?_
  refine D.aF rfl rfl rfl rfl rfl rfl rfl rfl ?_
  refine D.e1 19 hR ?_
  refine G.cd (fun h19=>?_) fun h19=>?_
  ·exfalso
   simp only [Bool.or_eq_true,decide_eq_true_eq] at h19
   omega
  ·refine G.z1 1 4 ?_
   refine G.rf ?_
   exact ⟨rfl,rfl⟩
def wgt (pts:List Pt)(t:Tri)(p:Pt)(j:Nat):Rat:=bB p (cor pts t ((j+1) % 3)) (cor pts t ((j+2) % 3)) / bB (cor pts t 0) (cor pts t 1) (cor pts t 2)
theorem good_pos {pts:List Pt}{tris:List Tri}(hM:MeshOk pts tris){t:Tri}(ht:t∈tris):bB (cor pts t 0) (cor pts t 1) (cor pts t 2)≠0:=by
 have h:=hM.pos t ht
 intro e
 have e2:bB (pts.getD t.1 (0,0)) (pts.getD t.2.1 (0,0)) (pts.getD t.2.2 (0,0))=0:=e
 rw [e2] at h
 exact absurd h (by decide)
theorem shares_fn (C:Mem)(hT:Tabs C)(mv:Value)(pts:List Pt)(tris:List Tri)(p:Pt)(i:Nat)(t:Tri)(hm:MeshIn C mv pts tris)(hG:Good pts tris)(hq:QP 23 p)(hr:PtR p)(ht:tris[i]?=some t)(hw:∀ j,QB 22 (wgt pts t p j)) :
  Gives cx.P 101 [mv,.int .i64 i,ptV p] C (.tuple #[.agg ⟨[strV (qtx (wgt pts t p 0)),strV (qtx (wgt pts t p 1)),strV (qtx (wgt pts t p 2))]⟩,.int .i64 0]):=by
 have hM:=hG.ok
 have htm:=List.mem_of_getElem? ht
 have hil:=(List.getElem?_eq_some_iff.1 ht).1
 have hm0:=hm
 obtain ⟨v1,v2,rfl,h1,h2⟩:=id hm.ex
 have hc:=fun j=>(cor_qp hM htm j).le (show 1<=23 by decide)
 have hne:=good_pos hM htm
 have hqa:∀ a b,QP 23 a->QP 23 b->QB 189 (bB p a b):=fun a b ha hb=>(QB_area hq ha hb).le (by decide)
 have hqw:QB 189 (bB (cor pts t 0) (cor pts t 1) (cor pts t 2)):=(QB_area (hc 0) (hc 1) (hc 2)).le (by decide)
 refine Fn.it kr_ Tryz.func101 69 fun w0=>?_
 refine G.rg fun R hR=>?_
 refine D.aB (fun b3=>?_)
 refine D.aB (fun b5=>?_)
 refine D.aj (fun b6=>?_)
 refine D.q4 1 1 3 5 6 hR ?_
 refine G.freeze 2 rfl (fun C3 hle3 hb3=>?_)
 refine G.freeze 1 rfl (fun C5 hle5 hb5=>?_)
 refine G.rg fun R hR=>?_
 refine D.aa (PtrTo.block (Mem.get hb3 mup) _) ?_
 refine D.ac ?_
 refine D.af (checkTri_fn _ (hT.mono mup) _ pts tris i (hm0.mono mup) hG hil) ?_
 refine D.q5 1 1 3 5 6 8 hR ?_
 refine G.z6 2 1 3 5 6 8 18 ?_
 refine G.cd (fun h18=>?_) fun h18=>?_
 ·exact absurd h18 (by decide)
 ·refine G.rg fun R hR=>?_
  refine D.aa (PtrTo.block (Mem.get hb5 mup) _) ?_
  refine D.af (eI _ (hT.mono mup) p hq hr) ?_
  refine D.q5 1 1 3 5 6 23 hR ?_
  refine G.cd (fun h23=>?_) fun h23=>?_
  ·exact absurd h23 (by decide)
  ·refine G.rg fun R hR=>?_
   refine D.aa (PtrTo.block (Mem.get hb3 mup) _) ?_
   refine D.ac ?_
   refine D.af (corners_ok _ _ pts tris (hm0.mono mup) hM i t ht) ?_
   refine D.aj (fun b9=>?_)
   refine D.ag (j:=0) ?_
   refine D.e3 5 6 9 hR ?_
   refine G.freeze 0 rfl (fun C9 hle9 hb9=>?_)
   refine G.rg fun R hR=>?_
   refine D.aj (fun b10=>?_)
   refine D.e4 5 6 9 10 hR ?_
   refine G.z5 1 5 6 9 10 28 ?_
   refine G.loop (fun fr C' L' μ=>∃ (j:Nat),(j<=3)/\fr=[(5,[],.pointer (some ⟨b5,0,none⟩)),(6,[],.pointer (some ⟨b6,0,none⟩)),(9,[],.pointer (some ⟨b9,0,none⟩)),(10,[],.pointer (some ⟨b10,0,none⟩)),(28,[],.int .i64 j)]/\L'=[.obj b10 (.cells ⟨(List.range 3).map fun k=>if k<j then strV (qtx (wgt pts t p k)) else strV []⟩ 189 (0,0)),.obj b6 (.cells ⟨[strV [],strV [],strV []]⟩ 189 (0,0))]/\μ=3-j) (h_5 5 6 9 10 28) ⟨0,Nat.zero_le _,rfl,rfl,rfl⟩ (fun fr C0' L0' m hle0 hI=>?_)
   obtain ⟨j,hj,rfl,rfl,rfl⟩:=hI
   refine G.z6 1 5 6 9 10 28 29 ?_
   refine G.cd (fun h29=>?_) fun h29=>?_
   ·have hjl:j<3:=by
     simp only [decide_eq_true_eq] at h29
     omega
    rcases (by omega:j=0∨j=1∨j=2) with rfl | rfl | rfl
    ·refine G.z6 2 5 6 9 10 11 28 ?_
     refine G.aH [0,1,2,3,4,5,6,7,8,9,10,11,12,13,14,15,16,17,18,19,20,21,22,23,24,25] [(12,1),(19,1),(20,1)] rfl kr_ (fun R hB hR=>?_)
     refine D.ac ?_
     refine D.aa (PtrTo.block (Mem.get hb5 mup) _) ?_
     refine D.ac ?_
     refine D.am _ ?_
     refine D.rem rfl rfl rfl rfl rfl rfl om_ om_ rfl rfl ?_
     refine D.ar (_) rfl rfl rfl rfl rfl rfl rfl rfl rfl (fun _=>⟨by decide,by decide,rfl⟩) rfl rfl ?_
     refine D.aa (bkT hb9 2) ?_
     refine D.ac ?_
     refine D.am _ ?_
     refine D.rem rfl rfl rfl rfl rfl rfl om_ om_ rfl rfl ?_
     refine D.ar (_) rfl rfl rfl rfl rfl rfl rfl rfl rfl (fun _=>⟨by decide,by decide,rfl⟩) rfl rfl ?_
     refine D.aa (bkT hb9 2) ?_
     refine D.aC (fun _=>(eK _ (hT.mono mup) p (cor pts t ((0+1) % 3)) (cor pts t ((0+2) % 3)) 23 (by decide) (by decide) hq (hc _) (hc _))) rfl rfl rfl rfl rfl rfl rfl rfl rfl ?_
     refine D.ar (0) rfl rfl rfl rfl rfl rfl rfl rfl rfl (fun _=>⟨by decide,by decide,rfl⟩) rfl rfl ?_
     refine D.aa (bkT hb9 2) ?_
     refine D.ar (2) rfl rfl rfl rfl rfl rfl rfl rfl rfl (fun _=>⟨by decide,by decide,rfl⟩) rfl rfl ?_
     refine D.aa (bkT hb9 2) ?_
     refine D.ar (4) rfl rfl rfl rfl rfl rfl rfl rfl rfl (fun _=>⟨by decide,by decide,rfl⟩) rfl rfl ?_
     refine D.aa (bkT hb9 2) ?_
     refine D.aC (fun _=>(eK _ (hT.mono mup) (cor pts t 0) (cor pts t 1) (cor pts t 2) 23 (by decide) (by decide) (hc 0) (hc 1) (hc 2))) rfl rfl rfl rfl rfl rfl rfl rfl rfl ?_
     refine D.aC (fun _=>(rdiv_fn _ (hT.mono mup) _ _ 189 (by decide) (by decide) (hqa _ _ (hc _) (hc _)) hqw hne)) rfl rfl rfl rfl rfl rfl rfl rfl rfl ?_
     refine D.ps 3 ?_
     refine D.ar (_) rfl rfl rfl rfl rfl rfl rfl rfl rfl (fun _=>⟨by decide,by decide,rfl⟩) rfl rfl ?_
     refine D.ag (j:=0) ?_
     refine D.e6 5 6 9 10 11 28 hR ?_
     refine G.rp 1 fun R hR=>?_
     refine D.ar (_) rfl rfl rfl rfl rfl rfl rfl rfl rfl (fun _=>⟨by decide,by decide,rfl⟩) rfl rfl ?_
     refine D.ae (.head _) ?_
     refine D.af (right_fn _ (hT.mono mup) (wgt pts t p 0) (hw 0)) ?_
     refine D.q6 5 5 6 9 10 13 28 hR ?_
     refine G.z7 2 5 6 9 10 13 28 64 ?_
     refine G.cd (fun h64=>?_) fun h64=>?_
     ·exact absurd h64 (by decide)
     ·refine G.rg fun R hR=>?_
      refine D.am _ ?_
      refine D.q5 1 5 6 9 10 28 hR ?_
      refine G.ax (m':=2) om_ mup (h_5 5 6 9 10 28) ⟨1,by decide,rfl,rfl,rfl⟩
    ·refine G.z6 2 5 6 9 10 11 28 ?_
     refine G.aH [0,1,2,3,4,5,6,7,8,9,10,11,12,13,14,15,16,17,18,19,20,21,22,23,24,25] [(12,1),(19,1),(20,1)] rfl kr_ (fun R hB hR=>?_)
     refine D.ac ?_
     refine D.aa (PtrTo.block (Mem.get hb5 mup) _) ?_
     refine D.ac ?_
     refine D.am _ ?_
     refine D.rem rfl rfl rfl rfl rfl rfl om_ om_ rfl rfl ?_
     refine D.ar (_) rfl rfl rfl rfl rfl rfl rfl rfl rfl (fun _=>⟨by decide,by decide,rfl⟩) rfl rfl ?_
     refine D.aa (bkT hb9 2) ?_
     refine D.ac ?_
     refine D.am _ ?_
     refine D.rem rfl rfl rfl rfl rfl rfl om_ om_ rfl rfl ?_
     refine D.ar (_) rfl rfl rfl rfl rfl rfl rfl rfl rfl (fun _=>⟨by decide,by decide,rfl⟩) rfl rfl ?_
     refine D.aa (bkT hb9 2) ?_
     refine D.aC (fun _=>(eK _ (hT.mono mup) p (cor pts t ((1+1) % 3)) (cor pts t ((1+2) % 3)) 23 (by decide) (by decide) hq (hc _) (hc _))) rfl rfl rfl rfl rfl rfl rfl rfl rfl ?_
     refine D.ar (0) rfl rfl rfl rfl rfl rfl rfl rfl rfl (fun _=>⟨by decide,by decide,rfl⟩) rfl rfl ?_
     refine D.aa (bkT hb9 2) ?_
     refine D.ar (2) rfl rfl rfl rfl rfl rfl rfl rfl rfl (fun _=>⟨by decide,by decide,rfl⟩) rfl rfl ?_
     refine D.aa (bkT hb9 2) ?_
     refine D.ar (4) rfl rfl rfl rfl rfl rfl rfl rfl rfl (fun _=>⟨by decide,by decide,rfl⟩) rfl rfl ?_
     refine D.aa (bkT hb9 2) ?_
     refine D.aC (fun _=>(eK _ (hT.mono mup) (cor pts t 0) (cor pts t 1) (cor pts t 2) 23 (by decide) (by decide) (hc 0) (hc 1) (hc 2))) rfl rfl rfl rfl rfl rfl rfl rfl rfl ?_
     refine D.aC (fun _=>(rdiv_fn _ (hT.mono mup) _ _ 189 (by decide) (by decide) (hqa _ _ (hc _) (hc _)) hqw hne)) rfl rfl rfl rfl rfl rfl rfl rfl rfl ?_
     refine D.ps 3 ?_
     refine D.ar (_) rfl rfl rfl rfl rfl rfl rfl rfl rfl (fun _=>⟨by decide,by decide,rfl⟩) rfl rfl ?_
     refine D.ag (j:=0) ?_
     refine D.e6 5 6 9 10 11 28 hR ?_
     refine G.rp 1 fun R hR=>?_
     refine D.ar (_) rfl rfl rfl rfl rfl rfl rfl rfl rfl (fun _=>⟨by decide,by decide,rfl⟩) rfl rfl ?_
     refine D.ae (.head _) ?_
     refine D.af (right_fn _ (hT.mono mup) (wgt pts t p 1) (hw 1)) ?_
     refine D.q6 5 5 6 9 10 13 28 hR ?_
     refine G.z7 2 5 6 9 10 13 28 64 ?_
     refine G.cd (fun h64b=>?_) fun h64b=>?_
     ·exact absurd h64b (by decide)
     ·refine G.rg fun R hR=>?_
      refine D.am _ ?_
      refine D.q5 1 5 6 9 10 28 hR ?_
      refine G.ax (m':=1) om_ mup (h_5 5 6 9 10 28) ⟨2,by decide,rfl,rfl,rfl⟩
    ·refine G.z6 2 5 6 9 10 11 28 ?_
     refine G.aH [0,1,2,3,4,5,6,7,8,9,10,11,12,13,14,15,16,17,18,19,20,21,22,23,24,25] [(12,1),(19,1),(20,1)] rfl kr_ (fun R hB hR=>?_)
     refine D.ac ?_
     refine D.aa (PtrTo.block (Mem.get hb5 mup) _) ?_
     refine D.ac ?_
     refine D.am _ ?_
     refine D.rem rfl rfl rfl rfl rfl rfl om_ om_ rfl rfl ?_
     refine D.ar (_) rfl rfl rfl rfl rfl rfl rfl rfl rfl (fun _=>⟨by decide,by decide,rfl⟩) rfl rfl ?_
     refine D.aa (bkT hb9 2) ?_
     refine D.ac ?_
     refine D.am _ ?_
     refine D.rem rfl rfl rfl rfl rfl rfl om_ om_ rfl rfl ?_
     refine D.ar (_) rfl rfl rfl rfl rfl rfl rfl rfl rfl (fun _=>⟨by decide,by decide,rfl⟩) rfl rfl ?_
     refine D.aa (bkT hb9 2) ?_
     refine D.aC (fun _=>(eK _ (hT.mono mup) p (cor pts t ((2+1) % 3)) (cor pts t ((2+2) % 3)) 23 (by decide) (by decide) hq (hc _) (hc _))) rfl rfl rfl rfl rfl rfl rfl rfl rfl ?_
     refine D.ar (0) rfl rfl rfl rfl rfl rfl rfl rfl rfl (fun _=>⟨by decide,by decide,rfl⟩) rfl rfl ?_
     refine D.aa (bkT hb9 2) ?_
     refine D.ar (2) rfl rfl rfl rfl rfl rfl rfl rfl rfl (fun _=>⟨by decide,by decide,rfl⟩) rfl rfl ?_
     refine D.aa (bkT hb9 2) ?_
     refine D.ar (4) rfl rfl rfl rfl rfl rfl rfl rfl rfl (fun _=>⟨by decide,by decide,rfl⟩) rfl rfl ?_
     refine D.aa (bkT hb9 2) ?_
     refine D.aC (fun _=>(eK _ (hT.mono mup) (cor pts t 0) (cor pts t 1) (cor pts t 2) 23 (by decide) (by decide) (hc 0) (hc 1) (hc 2))) rfl rfl rfl rfl rfl rfl rfl rfl rfl ?_
     refine D.aC (fun _=>(rdiv_fn _ (hT.mono mup) _ _ 189 (by decide) (by decide) (hqa _ _ (hc _) (hc _)) hqw hne)) rfl rfl rfl rfl rfl rfl rfl rfl rfl ?_
     refine D.ps 3 ?_
     refine D.ar (_) rfl rfl rfl rfl rfl rfl rfl rfl rfl (fun _=>⟨by decide,by decide,rfl⟩) rfl rfl ?_
     refine D.ag (j:=0) ?_
     refine D.e6 5 6 9 10 11 28 hR ?_
     refine G.rp 1 fun R hR=>?_
     refine D.ar (_) rfl rfl rfl rfl rfl rfl rfl rfl rfl (fun _=>⟨by decide,by decide,rfl⟩) rfl rfl ?_
     refine D.ae (.head _) ?_
     refine D.af (right_fn _ (hT.mono mup) (wgt pts t p 2) (hw 2)) ?_
     refine D.q6 5 5 6 9 10 13 28 hR ?_
     refine G.z7 2 5 6 9 10 13 28 64 ?_
     refine G.cd (fun h64c=>?_) fun h64c=>?_
     ·exact absurd h64c (by decide)
     ·refine G.rg fun R hR=>?_
      refine D.am _ ?_
      refine D.q5 1 5 6 9 10 28 hR ?_
      refine G.ax (m':=0) om_ mup (h_5 5 6 9 10 28) ⟨3,by decide,rfl,rfl,rfl⟩
   ·have hjl:j=3:=by
     simp only [decide_eq_false_iff_not] at h29
     omega
    subst hjl
    refine G.rg fun R hR=>?_
    refine D.ae (.head _) ?_
    refine D.ag (j:=1) ?_
    refine D.q2 1 6 7 hR ?_
    refine G.az (G.finC2 (.head _) rfl rfl rfl rfl rfl ?_)
    exact ⟨rfl,rfl⟩

theorem bt {α:Type}{f:α->List Value}{l:List α}{i:Nat}{x:α}(h:l[i]?=some x):(l.map f)[i]?=some (f x):=by rw [List.getElem?_map,h];rfl
def fldZ (n:Nat)(l:List Str):Int:=if l.length=n then chkZ (l.all aV) else 5
theorem checks_fn (C:Mem)(hT:Tabs C)(mv v fv:Value)(pts:List Pt)(tris:List Tri)(l:List Str)(hm:MeshIn C mv pts tris)(hG:Good pts tris)(hv:Sl C 1 v [[fv]])(hf:Sl C 1 fv (l.map encS1))(hl:∀ s∈l,s.length<=9223372036854775807) :
  Gives cx.P 53 [mv,v] C (.int .i64 (fldZ pts.length l)):=by
 have hm0:=hm
 have hlp:=hG.ok.lp
 obtain ⟨v1,v2,rfl,h1,h2⟩:=id hm.ex
 obtain ⟨A1,c1,rfl,hq1,hq2,_⟩:=id h1
 obtain ⟨A3,c3,rfl,hq3,hq4,_⟩:=id hv
 obtain ⟨A4,c4,rfl,hq5,hq6,_⟩:=id hf
 have hmx:maxLen<=9223372036854775807:=by simp [maxLen]
 simp only [List.length_map,List.length_singleton] at h1 hv hf hm0 hq5 ⊢
 refine Fn.it kr_ Tryz.func53 41 fun w0=>?_
 refine G.rg fun R hR=>?_
 refine D.aB (fun b2=>?_)
 refine D.q2 1 1 2 hR ?_
 refine G.freeze 0 rfl (fun C2 hle2 hb2=>?_)
 refine G.rg fun R hR=>?_
 refine D.aa (PtrTo.block (Mem.get hb2 mup) _) ?_
 refine D.af (good_check _ (hT.mono mup) _ pts tris (hm0.mono mup) hG) ?_
 refine D.q3 1 1 2 5 hR ?_
 refine G.z4 2 1 2 5 14 ?_
 refine G.cd (fun h14=>?_) fun h14=>?_
 ·exact absurd h14 (by decide)
 ·refine G.z4 3 2 16 17 18 ?_
  refine G.loop (fun fr C' L' μ=>∃ (i:Nat),(i<=1/\(i=1->l.length=pts.length/\l.all aV=true))/\fr=[(2,[],.pointer (some ⟨b2,0,none⟩)),(16,[],.slice A3 1 c3),(17,[],.int .i64 1),(18,[],.int .i64 i)]/\L'=[]/\μ=1-i) (h_4 2 16 17 18) ⟨0,⟨Nat.zero_le _,fun h=>absurd h (by decide)⟩,rfl,rfl,rfl⟩ (fun fr C0' L0' m hle0 hI=>?_)
  obtain ⟨i,⟨hi,hall⟩,rfl,rfl,rfl⟩:=hI
  refine G.z5 1 2 16 17 18 19 ?_
  refine G.cd (fun h19=>?_) fun h19=>?_
  ·obtain rfl:i=0:=by
    simp only [decide_eq_true_eq] at h19
    omega
   refine G.rg fun R hR=>?_
   refine D.al (hv.mono mup) rfl rfl rfl rfl rfl rfl rfl rfl rfl rfl om_ (rfl:([[.slice A4 l.length c4]]:List (List Value))[0]?=some [.slice A4 l.length c4]) fl_ (fun p20 hp20=>?_)
   refine D.aa hp20 ?_
   refine D.q5 1 2 7 16 17 18 hR ?_
   refine G.rp 3 fun R hR=>?_
   refine D.aa (PtrTo.block (Mem.get hb2 mup) _) ?_
   refine D.q6 2 2 7 16 17 18 27 hR ?_
   refine G.cd (fun h27=>?_) fun h27=>?_
   ·have hne:l.length≠pts.length:=by
     intro e
     rw [e] at h27
     simp at h27
    refine G.z1 1 4 ?_
    refine G.rf ?_
    exact ⟨by unfold fldZ;rw [if_neg hne],rfl⟩
   ·have hlen:l.length=pts.length:=by
     have h:((l.length:Nat):Int)=(pts.length:Nat):=by simpa using h27
     omega
    refine G.z7 3 2 16 17 18 28 29 30 ?_
    refine G.loop (fun fr C' L' μ=>∃ (j:Nat),(j<=l.length/\(l.take j).all aV=true)/\fr=[(2,[],.pointer (some ⟨b2,0,none⟩)),(16,[],.slice A3 1 c3),(17,[],.int .i64 1),(18,[],.int .i64 0),(28,[],.slice A4 l.length c4),(29,[],.int .i64 l.length),(30,[],.int .i64 j)]/\L'=[]/\μ=l.length-j) (h_7 2 16 17 18 28 29 30) ⟨0,⟨Nat.zero_le _,by simp⟩,rfl,rfl,rfl⟩ (fun fr C1' L1' m hle1 hI=>?_)
    obtain ⟨j,⟨hj,hj2⟩,rfl,rfl,rfl⟩:=hI
    refine G.z8 1 2 16 17 18 28 29 30 31 ?_
    refine G.cd (fun h31=>?_) fun h31=>?_
    ·have hjl:j<l.length:=by simpa using h31
     obtain ⟨s,hs⟩:∃ s,l[j]?=some s:=⟨l[j],List.getElem?_eq_getElem hjl⟩
     refine G.rg fun R hR=>?_
     refine D.al (hf.mono mup) rfl rfl rfl rfl rfl rfl rfl rfl rfl rfl om_ (bt hs) fl_ (fun p32 hp32=>?_)
     refine D.aa hp32 ?_
     refine D.q8 1 2 9 16 17 18 28 29 30 hR ?_
     refine G.rp 1 fun R hR=>?_
     refine D.af (cL _ (hT.mono mup) s (hl s (List.mem_of_getElem? hs))) ?_
     refine D.q8 1 2 10 16 17 18 28 29 30 hR ?_
     refine G.z9 2 2 10 16 17 18 28 29 30 37 ?_
     refine G.cd (fun h37=>?_) fun h37=>?_
     ·have hno:aV s=false:=by
       rcases ee (aV s) with ⟨h1,h2⟩ | ⟨h1,h2⟩
       ·rw [h1] at h37;exact absurd h37 (by decide)
       ·exact h2
      refine G.z1 2 4 ?_
      refine G.rf ?_
      refine ⟨?_,rfl⟩
      unfold fldZ
      rw [if_pos hlen,hno,show l.all aV=false from List.all_eq_false.2 ⟨s,List.mem_of_getElem? hs,by rw [hno];decide⟩]
     ·have hyes:aV s=true:=by
       rcases ee (aV s) with ⟨h1,h2⟩ | ⟨h1,h2⟩
       ·exact h2
       ·rw [h1] at h37;exact absurd h37 (by decide)
      refine G.rg fun R hR=>?_
      refine D.am _ ?_
      refine D.q7 1 2 16 17 18 28 29 30 hR ?_
      refine G.ax (m':=l.length-(j+1)) om_ hle1 (h_7 2 16 17 18 28 29 30) ⟨j+1,⟨by omega,by rw [List.take_add_one,hs,List.all_append,hj2];simp [hyes]⟩,rfl,rfl,rfl⟩
    ·have hjl:j=l.length:=by
      have:¬ j<l.length:=by simpa using h31
      omega
     refine G.rg fun R hR=>?_
     refine D.am _ ?_
     refine D.q4 1 2 16 17 18 hR ?_
     refine G.ax (m':=0) om_ mup (h_4 2 16 17 18) ⟨1,⟨Nat.le_refl _,fun _=>⟨hlen,by rw [hjl,List.take_length] at hj2;exact hj2⟩⟩,rfl,rfl,rfl⟩
  ·have hi1:i=1:=by
    simp only [decide_eq_false_iff_not] at h19
    omega
   refine G.z1 1 4 ?_
   refine G.rf ?_
   refine ⟨?_,rfl⟩
   obtain ⟨h3,h4⟩:=hall hi1
   unfold fldZ
   rw [if_pos h3,h4]
   rfl
theorem fieldCheck_fn (C:Mem)(hT:Tabs C)(mv fv:Value)(pts:List Pt)(tris:List Tri)(l:List Str)(hm:MeshIn C mv pts tris)(hG:Good pts tris)(hf:Sl C 1 fv (l.map encS1))(hl:∀ s∈l,s.length<=9223372036854775807) :
  Gives cx.P 24 [mv,fv] C (.int .i64 (fldZ pts.length l)):=by
 have hm0:=hm
 obtain ⟨v1,v2,rfl,h1,h2⟩:=id hm.ex
 obtain ⟨A4,c4,rfl,hq5,hq6,_⟩:=id hf
 simp only [List.length_map] at hf ⊢
 refine Fn.it kr_ Tryz.func24 9 fun w0=>?_
 refine G.rg fun R hR=>?_
 refine D.aB (fun b2=>?_)
 refine D.q2 1 1 2 hR ?_
 refine G.rg fun R hR=>?_
 refine D.ae (.head _) ?_
 refine D.ac ?_
 refine D.ah [[.slice A4 l.length c4]] (fun p7 C7 hle7 hs7=>?_)
 refine D.af (checks_fn _ (hT.mono mup) _ _ _ pts tris l (hm0.mono mup) hG (hs7.mono mup) (hf.mono mup) hl) ?_
 refine D.q1 1 4 hR ?_
 refine G.rf ?_
 exact ⟨rfl,rfl⟩
def encQ (q:Rat):List Value:=[strV (qtx q)]
def fz (fs:List Rat)(t:Tri)(j:Nat):Rat:=fs.getD (triN t j) 0
def cornC (pts:List Pt)(fs:List Rat)(t:Tri)(j:Nat):List Value:=encP (cor pts t j)++encQ (fz fs t j)
theorem fs_at {fs:List Rat}{i:Nat}(h:i<fs.length):fs[i]?=some (fs.getD i 0):=by
 rw [List.getD_eq_getElem?_getD,List.getElem?_eq_getElem h];rfl
theorem fcorners_fn (C:Mem)(mv fv:Value)(pts:List Pt)(tris:List Tri)(fs:List Rat)(hm:MeshIn C mv pts tris)(hM:MeshOk pts tris)(hf:Sl C 1 fv (fs.map encQ))(hfl:fs.length=pts.length)(i:Nat)(t:Tri)(ht:tris[i]?=some t) :
  Gives cx.P 172 [mv,fv,.int .i64 i] C (.agg ⟨cornC pts fs t 0++cornC pts fs t 1++cornC pts fs t 2⟩):=by
 have hti:=hM.ins t (List.mem_of_getElem? ht)
 obtain ⟨v1,v2,rfl,h1,h2⟩:=id hm.ex
 obtain ⟨A1,c1,rfl,hq1,hq2,_⟩:=id h1
 obtain ⟨A2,c2,rfl,hq3,hq4,_⟩:=id h2
 obtain ⟨A4,c4,rfl,hq5,hq6,_⟩:=id hf
 have hmx:maxLen<=9223372036854775807:=by simp [maxLen]
 simp only [List.length_map] at h1 h2 hf hq1 hq3 ⊢
 have hil:=(List.getElem?_eq_some_iff.1 ht).1
 refine Fn.it kr_ Tryz.func172 32 fun w0=>?_
 refine G.rg fun R hR=>?_
 refine D.aB (fun b3=>?_)
 refine D.aj (fun b6=>?_)
 refine D.e4 1 2 3 6 hR ?_
 refine G.freeze 1 rfl (fun C3 hle3 hb3=>?_)
 refine G.rp 1 fun R hR=>?_
 refine D.aa (PtrTo.block (Mem.get hb3 mup) _) ?_
 refine D.ac ?_
 refine D.al (h2.mono mup) rfl rfl rfl rfl rfl rfl rfl rfl rfl rfl om_ (bt ht) fl_ (fun p12 hp12=>?_)
 refine D.aa hp12 ?_
 refine D.q5 1 1 3 6 13 14 hR ?_
 refine G.loop (fun fr C' L' μ=>∃ (j:Nat),(j<=3)/\fr=[(1,[],.slice A4 fs.length c4),(3,[],.pointer (some ⟨b3,0,none⟩)),(6,[],.pointer (some ⟨b6,0,none⟩)),(13,[],.agg ⟨encT t⟩),(14,[],.int .i64 j)]/\L'=[.obj b6 (.cells ⟨(List.range 3).flatMap fun k=>if k<j then cornC pts fs t k else [strV [],strV [],strV []]⟩ 272 (0,0))]/\μ=3-j) (h_5 1 3 6 13 14) ⟨0,Nat.zero_le _,rfl,rfl,rfl⟩ (fun fr C0' L0' m hle0 hI=>?_)
 obtain ⟨j,hj,rfl,rfl,rfl⟩:=hI
 refine G.z6 1 1 3 6 13 14 15 ?_
 refine G.cd (fun h15=>?_) fun h15=>?_
 ·have hjl:j<3:=by
   simp only [decide_eq_true_eq] at h15
   omega
  rcases (by omega:j=0∨j=1∨j=2) with rfl | rfl | rfl
  ·refine G.rp 1 fun R hR=>?_
   refine D.bI rfl rfl rfl rfl rfl rfl rfl rfl rfl rfl rfl (fun _=>⟨by decide,by decide,rfl⟩) rfl rfl ?_
   refine D.q7 2 1 3 6 7 8 13 14 hR ?_
   refine G.aH [0,1,2,3,4,5,6,7,8,9,10,11,12] [] rfl kr_ (fun R hB hR=>?_)
   refine D.ps 2 ?_
   refine D.aa (PtrTo.block (Mem.get hb3 mup) _) ?_
   refine D.ac ?_
   refine D.al (h1.mono mup) rfl rfl rfl rfl rfl rfl rfl rfl rfl rfl om_ (bt (pt_at (dg hti 0))) fl_ (fun p22 hp22=>?_)
   refine D.aa hp22 ?_
   refine D.ps 2 ?_
   refine D.al (hf.mono mup) rfl rfl rfl rfl rfl rfl rfl rfl rfl rfl om_ (bt (fs_at (hfl ▸ dg hti 0))) fl_ (fun p26 hp26=>?_)
   refine D.aa hp26 ?_
   refine D.ak (cornC pts fs t 0) ?_
   refine D.ar (_) rfl rfl rfl rfl rfl rfl rfl rfl rfl (fun _=>⟨by decide,by decide,rfl⟩) rfl rfl ?_
   refine D.ag (j:=0) ?_
   refine D.e5 1 3 6 13 14 hR ?_
   refine G.rg fun R hR=>?_
   refine D.am _ ?_
   refine D.q5 1 1 3 6 13 14 hR ?_
   refine G.ax (m':=2) om_ hle0 (h_5 1 3 6 13 14) ⟨1,by decide,rfl,rfl,rfl⟩
  ·refine G.rp 1 fun R hR=>?_
   refine D.bI rfl rfl rfl rfl rfl rfl rfl rfl rfl rfl rfl (fun _=>⟨by decide,by decide,rfl⟩) rfl rfl ?_
   refine D.q7 2 1 3 6 7 8 13 14 hR ?_
   refine G.aH [0,1,2,3,4,5,6,7,8,9,10,11,12] [] rfl kr_ (fun R hB hR=>?_)
   refine D.ps 2 ?_
   refine D.aa (PtrTo.block (Mem.get hb3 mup) _) ?_
   refine D.ac ?_
   refine D.al (h1.mono mup) rfl rfl rfl rfl rfl rfl rfl rfl rfl rfl om_ (bt (pt_at (dg hti 1))) fl_ (fun p22 hp22=>?_)
   refine D.aa hp22 ?_
   refine D.ps 2 ?_
   refine D.al (hf.mono mup) rfl rfl rfl rfl rfl rfl rfl rfl rfl rfl om_ (bt (fs_at (hfl ▸ dg hti 1))) fl_ (fun p26 hp26=>?_)
   refine D.aa hp26 ?_
   refine D.ak (cornC pts fs t 1) ?_
   refine D.ar (_) rfl rfl rfl rfl rfl rfl rfl rfl rfl (fun _=>⟨by decide,by decide,rfl⟩) rfl rfl ?_
   refine D.ag (j:=0) ?_
   refine D.e5 1 3 6 13 14 hR ?_
   refine G.rg fun R hR=>?_
   refine D.am _ ?_
   refine D.q5 1 1 3 6 13 14 hR ?_
   refine G.ax (m':=1) om_ hle0 (h_5 1 3 6 13 14) ⟨2,by decide,rfl,rfl,rfl⟩
  ·refine G.rp 1 fun R hR=>?_
   refine D.bI rfl rfl rfl rfl rfl rfl rfl rfl rfl rfl rfl (fun _=>⟨by decide,by decide,rfl⟩) rfl rfl ?_
   refine D.q7 2 1 3 6 7 8 13 14 hR ?_
   refine G.aH [0,1,2,3,4,5,6,7,8,9,10,11,12] [] rfl kr_ (fun R hB hR=>?_)
   refine D.ps 2 ?_
   refine D.aa (PtrTo.block (Mem.get hb3 mup) _) ?_
   refine D.ac ?_
   refine D.al (h1.mono mup) rfl rfl rfl rfl rfl rfl rfl rfl rfl rfl om_ (bt (pt_at (dg hti 2))) fl_ (fun p22 hp22=>?_)
   refine D.aa hp22 ?_
   refine D.ps 2 ?_
   refine D.al (hf.mono mup) rfl rfl rfl rfl rfl rfl rfl rfl rfl rfl om_ (bt (fs_at (hfl ▸ dg hti 2))) fl_ (fun p26 hp26=>?_)
   refine D.aa hp26 ?_
   refine D.ak (cornC pts fs t 2) ?_
   refine D.ar (_) rfl rfl rfl rfl rfl rfl rfl rfl rfl (fun _=>⟨by decide,by decide,rfl⟩) rfl rfl ?_
   refine D.ag (j:=0) ?_
   refine D.e5 1 3 6 13 14 hR ?_
   refine G.rg fun R hR=>?_
   refine D.am _ ?_
   refine D.q5 1 1 3 6 13 14 hR ?_
   refine G.ax (m':=0) om_ hle0 (h_5 1 3 6 13 14) ⟨3,by decide,rfl,rfl,rfl⟩
 ·have hjl:j=3:=by
   simp only [decide_eq_false_iff_not] at h15
   omega
  subst hjl
  refine G.rg fun R hR=>?_
  refine D.ae (.head _) ?_
  refine D.ag (j:=0) ?_
  refine D.e1 6 hR ?_
  refine G.az (G.di (.head _) rfl rfl rfl rfl ?_)
  exact ⟨rfl,rfl⟩

/-! Finer bounds. -/
theorem cV {a b:Rat}{k m:Nat}(ha:QB k a)(hb:QB m b):QB (k+m) (a*b):=by
 rw [rat_mul_mk]
 refine mk_bound (Nat.mul_ne_zero a.den_nz b.den_nz) ?_ ?_
 ·rw [Int.natAbs_mul,Nat.pow_add];exact Nat.mul_lt_mul'' ha.1 hb.1
 ·rw [Nat.pow_add];exact Nat.mul_lt_mul'' ha.2 hb.2
theorem QB_addx {a b:Rat}{k m:Nat}(ha:QB k a)(hb:QB m b):QB (k+m+1) (a+b):=by
 rw [rat_add_mk]
 have e:B9 ^ (k+m+1)=B9 ^ k*B9 ^ m*B9:=by rw [Nat.pow_succ,Nat.pow_add]
 have p1:(a.num*b.den).natAbs<B9 ^ k*B9 ^ m:=by rw [Int.natAbs_mul,Int.natAbs_natCast];exact Nat.mul_lt_mul'' ha.1 hb.2
 have p2:(b.num*a.den).natAbs<B9 ^ k*B9 ^ m:=by rw [Int.natAbs_mul,Int.natAbs_natCast,Nat.mul_comm];exact Nat.mul_lt_mul'' ha.2 hb.1
 have p3:a.den*b.den<B9 ^ k*B9 ^ m:=Nat.mul_lt_mul'' ha.2 hb.2
 have hB:2*(B9 ^ k*B9 ^ m)<=B9 ^ k*B9 ^ m*B9:=by
  rw [Nat.mul_comm]
  exact Nat.mul_le_mul_left _ (by decide)
 refine mk_bound (Nat.mul_ne_zero a.den_nz b.den_nz) ?_ ?_
 ·rw [e];have:=Int.natAbs_add_le (a.num*b.den) (b.num*a.den);omega
 ·rw [e];omega
theorem bO {a b:Rat}{k m:Nat}(ha:QB k a)(hb:QB m b):QB (k+m+1) (a-b):=by
 rw [Rat.sub_eq_add_neg]
 exact QB_addx ha (QB_neg hb)
theorem QB_one:QB 1 1:=⟨by decide,by decide⟩
theorem QB_zero:QB 1 0:=⟨by decide,by decide⟩
def dE (a b c d:Rat):Rat:=a*d-b*c
theorem fminor_fn (C:Mem)(hT:Tabs C)(a b c d:Rat)(k:Nat)(hk0:0<k)(hk:k<=2000)(ha:QB k a)(hb:QB k b)(hc:QB k c)(hd:QB k d):Gives cx.P 173 [strV (qtx a),strV (qtx b),strV (qtx c),strV (qtx d)] C (strV (qtx (dE a b c d))):=by
 refine Fn.it kr_ Tryz.func173 16 fun w0=>?_
 refine G.z4 1 0 1 2 3 ?_
 refine G.rp 2 fun R hR=>?_
 refine D.ai (cS _ (hT.mono mup) a d k hk0 om_ ha hd) rfl rfl rfl rfl rfl rfl rfl fl_ ?_
 refine D.ps 2 ?_
 refine D.ai (cS _ (hT.mono mup) b c k hk0 om_ hb hc) rfl rfl rfl rfl rfl rfl rfl fl_ ?_
 refine D.ai (bR _ (hT.mono mup) (a*d) (b*c) (k+k) om_ om_ (QB_mul ha hd) (QB_mul hb hc)) rfl rfl rfl rfl rfl rfl rfl fl_ ?_
 refine D.q1 1 8 hR ?_
 refine G.rf ?_
 exact ⟨rfl,rfl⟩
theorem QB_minor {a b c d:Rat}{k:Nat}(ha:QB k a)(hb:QB k b)(hc:QB k c)(hd:QB k d):QB (4*k+1) (dE a b c d):=(bO (cV ha hd) (cV hb hc)).le om_
def slopeQ (c0 c1 c2:Pt)(z0 z1 z2:Rat):Pt :=
 ((1 / dE (c1.1-c0.1) (c1.2-c0.2) (c2.1-c0.1) (c2.2-c0.2))*dE (z1-z0) (c1.2-c0.2) (z2-z0) (c2.2-c0.2),
 (1 / dE (c1.1-c0.1) (c1.2-c0.2) (c2.1-c0.1) (c2.2-c0.2))*dE (c1.1-c0.1) (z1-z0) (c2.1-c0.1) (z2-z0))
def cJ (pts:List Pt)(fs:List Rat)(t:Tri):Pt:=slopeQ (cor pts t 0) (cor pts t 1) (cor pts t 2) (fz fs t 0) (fz fs t 1) (fz fs t 2)
theorem fz_qb {pts:List Pt}{tris:List Tri}{fs:List Rat}{k:Nat}(hM:MeshOk pts tris)(hfl:fs.length=pts.length)(hfq:∀ q∈fs,QB k q){t:Tri}(ht:t∈tris)(j:Nat):QB k (fz fs t j) :=
 hfq _ (List.mem_of_getElem? (fs_at (hfl ▸ dg (hM.ins t ht) j)))
theorem slopeT_qp {pts:List Pt}{tris:List Tri}{fs:List Rat}{k:Nat}(hM:MeshOk pts tris)(hfl:fs.length=pts.length)(hfq:∀ q∈fs,QB k q){t:Tri}(ht:t∈tris):QP (8*k+39) (cJ pts fs t):=by
 have hc:=fun j=>cor_qp hM ht j
 have hz:=fun j=>fz_qb hM hfl hfq ht j
 have hx:∀ i j,QB 3 ((cor pts t i).1-(cor pts t j).1):=fun i j=>(bO (hc i).1 (hc j).1).le (by decide)
 have hy:∀ i j,QB 3 ((cor pts t i).2-(cor pts t j).2):=fun i j=>(bO (hc i).2 (hc j).2).le (by decide)
 have ha:∀ i j,QB (2*k+1) (fz fs t i-fz fs t j):=fun i j=>(bO (hz i) (hz j)).le om_
 have hm:QB 13 (dE ((cor pts t 1).1-(cor pts t 0).1) ((cor pts t 1).2-(cor pts t 0).2) ((cor pts t 2).1-(cor pts t 0).1) ((cor pts t 2).2-(cor pts t 0).2)):=(QB_minor (k:=3) (hx 1 0) (hy 1 0) (hx 2 0) (hy 2 0)).le (by decide)
 have hne:dE ((cor pts t 1).1-(cor pts t 0).1) ((cor pts t 1).2-(cor pts t 0).2) ((cor pts t 2).1-(cor pts t 0).1) ((cor pts t 2).2-(cor pts t 0).2)≠0:=good_pos hM ht
 have h1:QB 26 _:=(QB_div (k:=13) (QB_one.le (by decide)) hm hne).le (by decide)
 have hn1:QB (4*(2*k+3)+1) (dE (fz fs t 1-fz fs t 0) ((cor pts t 1).2-(cor pts t 0).2) (fz fs t 2-fz fs t 0) ((cor pts t 2).2-(cor pts t 0).2)):=QB_minor (k:=2*k+3) ((ha 1 0).le om_) ((hy 1 0).le om_) ((ha 2 0).le om_) ((hy 2 0).le om_)
 have hn2:QB (4*(2*k+3)+1) (dE ((cor pts t 1).1-(cor pts t 0).1) (fz fs t 1-fz fs t 0) ((cor pts t 2).1-(cor pts t 0).1) (fz fs t 2-fz fs t 0)):=QB_minor (k:=2*k+3) ((hx 1 0).le om_) ((ha 1 0).le om_) ((hx 2 0).le om_) ((ha 2 0).le om_)
 exact ⟨(cV h1 hn1).le om_,(cV h1 hn2).le om_⟩
theorem fslope_fn (C:Mem)(hT:Tabs C)(mv fv:Value)(pts:List Pt)(tris:List Tri)(fs:List Rat)(k:Nat)(hk0:0<k)(hk:k<=100)(hm:MeshIn C mv pts tris)(hM:MeshOk pts tris)(hf:Sl C 1 fv (fs.map encQ))(hfl:fs.length=pts.length)(hfq:∀ q∈fs,QB k q)(i:Nat)(t:Tri)(ht:tris[i]?=some t) :
  Gives cx.P 140 [mv,fv,.int .i64 i] C (ptV (cJ pts fs t)):=by
 have htm:=List.mem_of_getElem? ht
 have hm0:=hm
 obtain ⟨v1,v2,rfl,h1,h2⟩:=id hm.ex
 have hc:=fun j=>cor_qp hM htm j
 have hz:=fun j=>fz_qb hM hfl hfq htm j
 have hx:∀ i j,QB 3 ((cor pts t i).1-(cor pts t j).1):=fun i j=>(bO (hc i).1 (hc j).1).le (by decide)
 have hy:∀ i j,QB 3 ((cor pts t i).2-(cor pts t j).2):=fun i j=>(bO (hc i).2 (hc j).2).le (by decide)
 have ha:∀ i j,QB (2*k+1) (fz fs t i-fz fs t j):=fun i j=>(bO (hz i) (hz j)).le om_
 have hm13:QB 13 (dE ((cor pts t 1).1-(cor pts t 0).1) ((cor pts t 1).2-(cor pts t 0).2) ((cor pts t 2).1-(cor pts t 0).1) ((cor pts t 2).2-(cor pts t 0).2)):=(QB_minor (k:=3) (hx 1 0) (hy 1 0) (hx 2 0) (hy 2 0)).le (by decide)
 have hne:dE ((cor pts t 1).1-(cor pts t 0).1) ((cor pts t 1).2-(cor pts t 0).2) ((cor pts t 2).1-(cor pts t 0).1) ((cor pts t 2).2-(cor pts t 0).2)≠0:=good_pos hM htm
 have hd1:QB 26 (1 / dE ((cor pts t 1).1-(cor pts t 0).1) ((cor pts t 1).2-(cor pts t 0).2) ((cor pts t 2).1-(cor pts t 0).1) ((cor pts t 2).2-(cor pts t 0).2)):=(QB_div (k:=13) (QB_one.le (by decide)) hm13 hne).le (by decide)
 have hn1:QB (8*k+26) (dE (fz fs t 1-fz fs t 0) ((cor pts t 1).2-(cor pts t 0).2) (fz fs t 2-fz fs t 0) ((cor pts t 2).2-(cor pts t 0).2)):=(QB_minor (k:=2*k+3) ((ha 1 0).le om_) ((hy 1 0).le om_) ((ha 2 0).le om_) ((hy 2 0).le om_)).le om_
 have hn2:QB (8*k+26) (dE ((cor pts t 1).1-(cor pts t 0).1) (fz fs t 1-fz fs t 0) ((cor pts t 2).1-(cor pts t 0).1) (fz fs t 2-fz fs t 0)):=(QB_minor (k:=2*k+3) ((hx 1 0).le om_) ((ha 1 0).le om_) ((hx 2 0).le om_) ((ha 2 0).le om_)).le om_
 refine Fn.it kr_ Tryz.func140 98 fun w0=>?_
 refine G.rg fun R hR=>?_
 refine D.aB (fun b3=>?_)
 refine D.aj (fun b6=>?_)
 refine D.e4 1 2 3 6 hR ?_
 refine G.rg fun R hR=>?_
 refine D.ae (.tail _ (.head _)) ?_
 refine D.ps 2 ?_
 refine D.af (fcorners_fn _ _ _ pts tris fs (hm0.mono mup) hM (hf.mono mup) hfl i t ht) ?_
 refine D.aj (fun b7=>?_)
 refine D.ag (j:=0) ?_
 refine D.e2 6 7 hR ?_
 refine G.freeze 0 rfl (fun C7 hle7 hb7=>?_)
 refine G.aH [0,1,2,3,4,5,6,7,8,9,10,11,12,13,14,15,16,17,18,19] [(8,1),(17,1)] rfl kr_ (fun R hB hR=>?_)
 refine D.ar (3) rfl rfl rfl rfl rfl rfl rfl rfl rfl (fun _=>⟨by decide,by decide,rfl⟩) rfl rfl ?_
 refine D.ps 2 ?_
 refine D.aa (bkT hb7 1) ?_
 refine D.ar (0) rfl rfl rfl rfl rfl rfl rfl rfl rfl (fun _=>⟨by decide,by decide,rfl⟩) rfl rfl ?_
 refine D.ps 2 ?_
 refine D.aa (bkT hb7 1) ?_
 refine D.aC (fun _=>(bR _ (hT.mono mup) (cor pts t 1).1 (cor pts t 0).1 1 (by decide) (by decide) (hc 1).1 (hc 0).1)) rfl rfl rfl rfl rfl rfl rfl rfl rfl ?_
 refine D.ar (3) rfl rfl rfl rfl rfl rfl rfl rfl rfl (fun _=>⟨by decide,by decide,rfl⟩) rfl rfl ?_
 refine D.ps 2 ?_
 refine D.aa (bkT hb7 1) ?_
 refine D.ar (0) rfl rfl rfl rfl rfl rfl rfl rfl rfl (fun _=>⟨by decide,by decide,rfl⟩) rfl rfl ?_
 refine D.ps 2 ?_
 refine D.aa (bkT hb7 1) ?_
 refine D.aC (fun _=>(bR _ (hT.mono mup) (cor pts t 1).2 (cor pts t 0).2 1 (by decide) (by decide) (hc 1).2 (hc 0).2)) rfl rfl rfl rfl rfl rfl rfl rfl rfl ?_
 refine D.q4 2 6 7 8 9 hR ?_
 refine G.aH [0,1,2,3,4,5,6,7,8,9,10,11,12,13,14,15,16,17,18,19] [(8,1),(17,1)] rfl kr_ (fun R hB hR=>?_)
 refine D.ar (6) rfl rfl rfl rfl rfl rfl rfl rfl rfl (fun _=>⟨by decide,by decide,rfl⟩) rfl rfl ?_
 refine D.ps 2 ?_
 refine D.aa (bkT hb7 1) ?_
 refine D.ar (0) rfl rfl rfl rfl rfl rfl rfl rfl rfl (fun _=>⟨by decide,by decide,rfl⟩) rfl rfl ?_
 refine D.ps 2 ?_
 refine D.aa (bkT hb7 1) ?_
 refine D.aC (fun _=>(bR _ (hT.mono mup) (cor pts t 2).1 (cor pts t 0).1 1 (by decide) (by decide) (hc 2).1 (hc 0).1)) rfl rfl rfl rfl rfl rfl rfl rfl rfl ?_
 refine D.ar (6) rfl rfl rfl rfl rfl rfl rfl rfl rfl (fun _=>⟨by decide,by decide,rfl⟩) rfl rfl ?_
 refine D.ps 2 ?_
 refine D.aa (bkT hb7 1) ?_
 refine D.ar (0) rfl rfl rfl rfl rfl rfl rfl rfl rfl (fun _=>⟨by decide,by decide,rfl⟩) rfl rfl ?_
 refine D.ps 2 ?_
 refine D.aa (bkT hb7 1) ?_
 refine D.aC (fun _=>(bR _ (hT.mono mup) (cor pts t 2).2 (cor pts t 0).2 1 (by decide) (by decide) (hc 2).2 (hc 0).2)) rfl rfl rfl rfl rfl rfl rfl rfl rfl ?_
 refine D.q6 2 6 7 8 9 10 11 hR ?_
 refine G.aH [0,1,2,3,4,5,6,7,8,9,10,11,12,13,14,15] [(6,1),(13,1)] rfl kr_ (fun R hB hR=>?_)
 refine D.ar (3) rfl rfl rfl rfl rfl rfl rfl rfl rfl (fun _=>⟨by decide,by decide,rfl⟩) rfl rfl ?_
 refine D.ac ?_
 refine D.aa (bkT hb7 1) ?_
 refine D.ar (0) rfl rfl rfl rfl rfl rfl rfl rfl rfl (fun _=>⟨by decide,by decide,rfl⟩) rfl rfl ?_
 refine D.ac ?_
 refine D.aa (bkT hb7 1) ?_
 refine D.aC (fun _=>(bR _ (hT.mono mup) (fz fs t 1) (fz fs t 0) k hk0 om_ (hz 1) (hz 0))) rfl rfl rfl rfl rfl rfl rfl rfl rfl ?_
 refine D.ar (6) rfl rfl rfl rfl rfl rfl rfl rfl rfl (fun _=>⟨by decide,by decide,rfl⟩) rfl rfl ?_
 refine D.ac ?_
 refine D.aa (bkT hb7 1) ?_
 refine D.ar (0) rfl rfl rfl rfl rfl rfl rfl rfl rfl (fun _=>⟨by decide,by decide,rfl⟩) rfl rfl ?_
 refine D.ac ?_
 refine D.aa (bkT hb7 1) ?_
 refine D.aC (fun _=>(bR _ (hT.mono mup) (fz fs t 2) (fz fs t 0) k hk0 om_ (hz 2) (hz 0))) rfl rfl rfl rfl rfl rfl rfl rfl rfl ?_
 refine D.q7 2 6 8 9 10 11 12 13 hR ?_
 refine G.z8 1 6 8 9 10 11 12 13 14 ?_
 refine G.rp 5 fun R hR=>?_
 refine D.ai (fminor_fn _ (hT.mono mup) _ _ _ _ 3 (by decide) (by decide) (hx 1 0) (hy 1 0) (hx 2 0) (hy 2 0)) rfl rfl rfl rfl rfl rfl rfl fl_ ?_
 refine D.ai (by have h:=rdiv_fn C7 (hT.mono mup) 1 _ 13 (by decide) (by decide) (QB_one.le (by decide)) hm13 hne;rw [eo] at h;exact h) rfl rfl rfl rfl rfl rfl rfl fl_ ?_
 refine D.q9 5 6 8 9 10 11 12 13 14 15 hR ?_
 refine G.rp 6 fun R hR=>?_
 refine D.ai (fminor_fn _ (hT.mono mup) (fz fs t 1-fz fs t 0) ((cor pts t 1).2-(cor pts t 0).2) (fz fs t 2-fz fs t 0) ((cor pts t 2).2-(cor pts t 0).2) (2*k+3) om_ om_ ((ha 1 0).le om_) ((hy 1 0).le om_) ((ha 2 0).le om_) ((hy 2 0).le om_)) rfl rfl rfl rfl rfl rfl rfl fl_ ?_
 refine D.ai (cS _ (hT.mono mup) _ _ (8*k+26) om_ om_ (hd1.le om_) hn1) rfl rfl rfl rfl rfl rfl rfl fl_ ?_
 refine D.ps 6 ?_
 refine D.ai (fminor_fn _ (hT.mono mup) ((cor pts t 1).1-(cor pts t 0).1) (fz fs t 1-fz fs t 0) ((cor pts t 2).1-(cor pts t 0).1) (fz fs t 2-fz fs t 0) (2*k+3) om_ om_ ((hx 1 0).le om_) ((ha 1 0).le om_) ((hx 2 0).le om_) ((ha 2 0).le om_)) rfl rfl rfl rfl rfl rfl rfl fl_ ?_
 refine D.ai (cS _ (hT.mono mup) _ _ (8*k+26) om_ om_ (hd1.le om_) hn2) rfl rfl rfl rfl rfl rfl rfl fl_ ?_
 refine D.ak (encP (cJ pts fs t)) ?_
 refine D.ag (j:=0) ?_
 refine D.e1 6 hR ?_
 refine G.az (G.di (.head _) rfl rfl rfl rfl ?_)
 exact ⟨rfl,rfl⟩

def sumQ (l:List Rat):Rat:=l.foldl (·+·) 0
theorem sumQ_snoc (l:List Rat)(q:Rat):sumQ (l++[q])=sumQ l+q:=by unfold sumQ;rw [List.foldl_append];rfl
theorem rsum_fn (C:Mem)(hT:Tabs C)(v:Value)(l:List Rat)(k:Nat)(hk0:0<k)(hk:k<=10000)(hv:Sl C 1 v (l.map encQ))(hl:∀ q∈l,QB k q)(hs:∀ i,QB k (sumQ (l.take i))) :
  Gives cx.P 192 [v] C (strV (qtx (sumQ l))):=by
 obtain ⟨A0,c0,rfl,hc1,hc2,_⟩:=id hv
 have hmx:maxLen<=9223372036854775807:=by simp [maxLen]
 simp only [List.length_map] at hv hc1 ⊢
 refine Fn.it kr_ Tryz.func192 17 fun w0=>?_
 refine G.z1 1 0 ?_
 refine G.z2 1 0 3 ?_
 refine G.z4 3 3 6 7 8 ?_
 refine G.loop (fun fr C' L' μ=>∃ (i:Nat)(s:Str),(i<=l.length/\s=qtx (sumQ (l.take i)))/\fr=[(3,[],strV s),(6,[],.slice A0 l.length c0),(7,[],.int .i64 l.length),(8,[],.int .i64 i)]/\L'=[]/\μ=l.length-i) (h_4 3 6 7 8) ⟨0,[48],⟨Nat.zero_le _,qtx_zero.symm⟩,rfl,rfl,rfl⟩ (fun fr C0' L0' m hle0 hI=>?_)
 obtain ⟨i,s,⟨hi,hse⟩,rfl,rfl,rfl⟩:=hI
 refine G.z5 1 3 6 7 8 9 ?_
 refine G.cd (fun h9=>?_) fun h9=>?_
 ·have hil:i<l.length:=by simpa using h9
  obtain ⟨q,hq⟩:∃ q,l[i]?=some q:=⟨l[i],List.getElem?_eq_getElem hil⟩
  subst hse
  refine G.rg fun R hR=>?_
  refine D.al (hv.mono mup) rfl rfl rfl rfl rfl rfl rfl rfl rfl rfl om_ (bt hq) fl_ (fun p10 hp10=>?_)
  refine D.aa hp10 ?_
  refine D.q5 1 3 5 6 7 8 hR ?_
  refine G.rp 2 fun R hR=>?_
  refine D.af (radd_fn _ (hT.mono mup) (sumQ (l.take i)) q k hk0 hk (hs i) (hl q (List.mem_of_getElem? hq))) ?_
  refine D.q4 1 3 6 7 8 hR ?_
  refine G.rg fun R hR=>?_
  refine D.am _ ?_
  refine D.q4 1 3 6 7 8 hR ?_
  refine G.ax (m':=l.length-(i+1)) om_ hle0 (h_4 3 6 7 8) ⟨i+1,_,⟨by omega,by rw [List.take_add_one,hq,Option.toList_some,sumQ_snoc]⟩,rfl,rfl,rfl⟩
 ·have hil:i=l.length:=by
   have:¬ i<l.length:=by simpa using h9
   omega
  refine G.z1 2 2 ?_
  refine G.rf ?_
  exact ⟨by rw [hse,hil,List.take_length],rfl⟩
def numV (q:Rat):Value:=if aV (qtx q) then .tuple #[strV (qtx q),.int .i64 0] else .tuple #[strV [],.int .i64 4]
theorem fnumber_q (C:Mem)(hT:Tabs C)(q:Rat)(hl:(qtx q).length<=9223372036854775807):Gives cx.P 170 [strV (qtx q)] C (numV q):=by
 refine Fn.it kr_ Tryz.func170 8 fun w0=>?_
 refine G.z1 2 0 ?_
 refine G.rp 1 fun R hR=>?_
 refine D.af (cL _ (hT.mono mup) _ hl) ?_
 refine D.q2 1 0 6 hR ?_
 refine G.cd (fun h6=>?_) fun h6=>?_
 ·have hno:aV (qtx q)=false:=by
   rcases ee (aV (qtx q)) with ⟨h1,h2⟩ | ⟨h1,h2⟩
   ·rw [h1] at h6;exact absurd h6 (by decide)
   ·exact h2
  refine G.z2 2 2 3 ?_
  refine G.az (G.dropAll (G.aK rfl rfl rfl ?_))
  exact ⟨by unfold numV;rw [hno];rfl,rfl⟩
 ·have hyes:aV (qtx q)=true:=by
   rcases ee (aV (qtx q)) with ⟨h1,h2⟩ | ⟨h1,h2⟩
   ·exact h2
   ·rw [h1] at h6;exact absurd h6 (by decide)
  refine G.z2 3 2 3 ?_
  refine G.az (G.dropAll (G.aK rfl rfl rfl ?_))
  exact ⟨by unfold numV;rw [hyes];rfl,rfl⟩
def onQ (pts:List Pt)(fs:List Rat)(t:Tri)(p:Pt):Rat:=sumQ [fz fs t 0,(cJ pts fs t).1*(p.1-(cor pts t 0).1),(cJ pts fs t).2*(p.2-(cor pts t 0).2)]
theorem onQ_qb {pts:List Pt}{tris:List Tri}{fs:List Rat}{k:Nat}(hk:k<=23)(hM:MeshOk pts tris)(hfl:fs.length=pts.length)(hfq:∀ q∈fs,QB k q){t:Tri}(ht:t∈tris){p:Pt}(hp:QP 23 p):QB 600 (onQ pts fs t p)/\(∀ i,QB 600 (sumQ ([fz fs t 0,(cJ pts fs t).1*(p.1-(cor pts t 0).1),(cJ pts fs t).2*(p.2-(cor pts t 0).2)].take i)))/\QB 600 (fz fs t 0)/\QB 600 ((cJ pts fs t).1*(p.1-(cor pts t 0).1))/\QB 600 ((cJ pts fs t).2*(p.2-(cor pts t 0).2)):=by
 have hs:=slopeT_qp hM hfl hfq ht
 have hc:=cor_qp hM ht 0
 have hz:=fz_qb hM hfl hfq ht 0
 have h1:QB 248 ((cJ pts fs t).1*(p.1-(cor pts t 0).1)):=(cV hs.1 (bO hp.1 hc.1)).le om_
 have h2:QB 248 ((cJ pts fs t).2*(p.2-(cor pts t 0).2)):=(cV hs.2 (bO hp.2 hc.2)).le om_
 have s1:QB 25 (0+fz fs t 0):=(QB_addx QB_zero hz).le om_
 have s2:QB 274 (0+fz fs t 0+(cJ pts fs t).1*(p.1-(cor pts t 0).1)):=(QB_addx s1 h1).le om_
 have s3:QB 523 (0+fz fs t 0+(cJ pts fs t).1*(p.1-(cor pts t 0).1)+(cJ pts fs t).2*(p.2-(cor pts t 0).2)):=(QB_addx s2 h2).le om_
 refine ⟨s3.le (by decide),fun i=>?_,hz.le om_,h1.le (by decide),h2.le (by decide)⟩
 rcases (by omega:i=0∨i=1∨i=2∨3<=i) with rfl | rfl | rfl | hi
 ·exact QB_zero.le (by decide)
 ·exact s1.le (by decide)
 ·exact s2.le (by decide)
 ·rw [List.take_of_length_le (by simpa using hi)]
  exact s3.le (by decide)
theorem three_q {a b c:Rat}{k:Nat}(ha:QB k a)(hb:QB k b)(hc:QB k c):∀ q∈[a,b,c],QB k q:=by
 intro q hq
 simp only [List.mem_cons,List.not_mem_nil,or_false] at hq
 rcases hq with rfl | rfl | rfl <;> assumption
theorem on_fn (C:Mem)(hT:Tabs C)(mv fv:Value)(pts:List Pt)(tris:List Tri)(fs:List Rat)(k:Nat)(hk0:0<k)(hk:k<=23)(hm:MeshIn C mv pts tris)(hM:MeshOk pts tris)(hf:Sl C 1 fv (fs.map encQ))(hfl:fs.length=pts.length)(hfq:∀ q∈fs,QB k q)(i:Nat)(t:Tri)(ht:tris[i]?=some t)(p:Pt)(hp:QP 23 p) :
  Gives cx.P 171 [mv,fv,.int .i64 i,ptV p] C (strV (qtx (onQ pts fs t p))):=by
 have htm:=List.mem_of_getElem? ht
 have hti:=hM.ins t htm
 have hm0:=hm
 have hf0:=hf
 obtain ⟨v1,v2,rfl,h1,h2⟩:=id hm.ex
 obtain ⟨A1,c1,rfl,hq1,hq2,_⟩:=id h1
 obtain ⟨A2,c2,rfl,hq3,hq4,_⟩:=id h2
 obtain ⟨A4,c4,rfl,hq5,hq6,_⟩:=id hf
 have hmx:maxLen<=9223372036854775807:=by simp [maxLen]
 simp only [List.length_map] at h1 h2 hf hf0 hm0 hq1 hq3 ⊢
 have hil:=(List.getElem?_eq_some_iff.1 ht).1
 have hc:=cor_qp hM htm 0
 obtain ⟨hb0,hb1,hb2,hb3',hb4⟩:=onQ_qb hk hM hfl hfq htm hp
 have hs:=slopeT_qp hM hfl hfq htm
 have hx1:QB 25 (p.1-(cor pts t 0).1):=(bO hp.1 hc.1).le (by decide)
 have hx2:QB 25 (p.2-(cor pts t 0).2):=(bO hp.2 hc.2).le (by decide)
 refine Fn.it kr_ Tryz.func171 49 fun w0=>?_
 refine G.rg fun R hR=>?_
 refine D.aB (fun b4=>?_)
 refine D.aB (fun b7=>?_)
 refine D.q4 1 1 2 4 7 hR ?_
 refine G.freeze 1 rfl (fun C3 hle3 hm4=>?_)
 refine G.rg fun R hR=>?_
 refine D.aa (PtrTo.block (Mem.get hm4 mup) _) ?_
 refine D.ps 2 ?_
 refine D.ai (fslope_fn _ (hT.mono mup) _ _ pts tris fs k hk0 om_ (hm0.mono mup) hM (hf0.mono mup) hfl hfq i t ht) rfl rfl rfl rfl rfl rfl rfl fl_ ?_
 refine D.aj (fun b9=>?_)
 refine D.ag (j:=0) ?_
 refine D.e5 1 2 4 7 9 hR ?_
 refine G.rp 1 fun R hR=>?_
 refine D.aa (PtrTo.block (Mem.get hm4 mup) _) ?_
 refine D.ac ?_
 refine D.al (h2.mono mup) rfl rfl rfl rfl rfl rfl rfl rfl rfl rfl om_ (bt ht) fl_ (fun p19 hp19=>?_)
 refine D.indexA rfl rfl rfl rfl rfl rfl rfl rfl rfl (fun _=>hp19) (fun _=>⟨by omega,om_⟩) fl_ rfl (fun p20 hp200=>?_)
 have hp20:=hp200 trivial
 refine D.aa hp20 ?_
 refine D.q5 1 1 4 7 9 10 hR ?_
 refine G.rp 1 fun R hR=>?_
 refine D.aa (PtrTo.block (Mem.get hm4 mup) _) ?_
 refine D.ac ?_
 refine D.al (h1.mono mup) rfl rfl rfl rfl rfl rfl rfl rfl rfl rfl om_ (bt (pt_at hti.1)) fl_ (fun p25 hp25=>?_)
 refine D.aa hp25 ?_
 refine D.aj (fun b11=>?_)
 refine D.ag (j:=0) ?_
 refine D.e5 1 7 9 10 11 hR ?_
 refine G.freeze 0 rfl (fun C11 hle11 hm11=>?_)
 refine G.freeze 0 rfl (fun C9 hle9 hm9=>?_)
 refine G.freeze 0 rfl (fun C7 hle7 hm7=>?_)
 refine G.aH [0,1,2,3,4,5,6,7,8,9,10,11,12,13,14,15,16,17,18,19,20,21,22] [(10,1),(11,1),(18,1),(19,1),(21,1)] rfl kr_ (fun R hB hR=>?_)
 refine D.ps 2 ?_
 refine D.al (hf.mono mup) rfl rfl rfl rfl rfl rfl rfl rfl rfl rfl om_ (bt (fs_at (hfl ▸ hti.1))) fl_ (fun p29 hp29=>?_)
 refine D.aa hp29 ?_
 refine D.ac ?_
 refine D.aa (bkT hm9 1) ?_
 refine D.ac ?_
 refine D.aa (bkT hm7 1) ?_
 refine D.ac ?_
 refine D.aa (bkT hm11 1) ?_
 refine D.aC (fun _=>(bR _ (hT.mono mup) p.1 (cor pts t 0).1 23 (by decide) (by decide) hp.1 (hc.1.le (by decide)))) rfl rfl rfl rfl rfl rfl rfl rfl rfl ?_
 refine D.aC (fun _=>(cS _ (hT.mono mup) _ _ 300 (by decide) (by decide) (hs.1.le om_) (hx1.le (by decide)))) rfl rfl rfl rfl rfl rfl rfl rfl rfl ?_
 refine D.ac ?_
 refine D.aa (bkT hm9 1) ?_
 refine D.ac ?_
 refine D.aa (bkT hm7 1) ?_
 refine D.ac ?_
 refine D.aa (bkT hm11 1) ?_
 refine D.aC (fun _=>(bR _ (hT.mono mup) p.2 (cor pts t 0).2 23 (by decide) (by decide) hp.2 (hc.2.le (by decide)))) rfl rfl rfl rfl rfl rfl rfl rfl rfl ?_
 refine D.aC (fun _=>(cS _ (hT.mono mup) _ _ 300 (by decide) (by decide) (hs.2.le om_) (hx2.le (by decide)))) rfl rfl rfl rfl rfl rfl rfl rfl rfl ?_
 refine D.ah ([fz fs t 0,(cJ pts fs t).1*(p.1-(cor pts t 0).1),(cJ pts fs t).2*(p.2-(cor pts t 0).2)].map encQ) (fun p47 C47 hle47 hs47=>?_)
 refine D.aC (fun _=>(rsum_fn _ (hT.mono mup) _ _ 600 (by decide) (by decide) (hs47.mono mup) (three_q hb2 hb3' hb4) hb1)) rfl rfl rfl rfl rfl rfl rfl rfl rfl ?_
 refine D.q1 1 8 hR ?_
 refine G.rf ?_
 exact ⟨rfl,rfl⟩
def valV (pts:List Pt)(tris:List Tri)(fs:List Rat)(p:Pt):Value:=match locL pts tris p with
 | []=>.tuple #[strV [],.int .i64 28]
 | i::_=>numV (onQ pts fs (tris.getD i (0,0,0)) p)
theorem all_right {fs:List Rat}(h:∀ q∈fs,aV (qtx q)=true):(fs.map qtx).all aV=true:=by
 rw [List.all_eq_true]
 intro s hs
 obtain ⟨q,hq,rfl⟩:=List.mem_map.1 hs
 exact h q hq
theorem encQ_S1 (fs:List Rat):fs.map encQ=(fs.map qtx).map encS1:=by rw [List.map_map];rfl
theorem qtx_short {fs:List Rat}{k:Nat}(hk:k<=100)(h:∀ q∈fs,QB k q):∀ s∈fs.map qtx,s.length<=9223372036854775807:=by
 intro s hs
 obtain ⟨q,hq,rfl⟩:=List.mem_map.1 hs
 have:=bk ((h q hq).le (Nat.le_succ k)) om_
 omega
theorem checks_ok (C:Mem)(hT:Tabs C)(mv v fv:Value)(pts:List Pt)(tris:List Tri)(fs:List Rat)(hm:MeshIn C mv pts tris)(hG:Good pts tris)(hv:Sl C 1 v [[fv]])(hf:Sl C 1 fv (fs.map encQ))(hfl:fs.length=pts.length){k:Nat}(hk:k<=23)(hfq:∀ q∈fs,QB k q)(hfr:∀ q∈fs,aV (qtx q)=true) :
  Gives cx.P 53 [mv,v] C (.int .i64 0):=by
 rw [encQ_S1] at hf
 have h:=checks_fn C hT mv v fv pts tris (fs.map qtx) hm hG hv hf (qtx_short om_ hfq)
 have e:fldZ pts.length (fs.map qtx)=0:=by unfold fldZ;rw [if_pos (by simpa using hfl),all_right hfr];rfl
 rwa [e] at h
theorem loc_at {pts:List Pt}{tris:List Tri}{p:Pt}{i:Nat}(h:i∈locL pts tris p):∃ t,tris[i]?=some t/\tris.getD i (0,0,0)=t/\inTri pts p t=true:=by
 unfold locL at h
 rw [List.mem_filter,List.mem_range] at h
 obtain ⟨h1,h2⟩:=h
 obtain ⟨t,ht⟩:∃ t,tris[i]?=some t:=⟨tris[i],List.getElem?_eq_getElem h1⟩
 have hd:tris.getD i (0,0,0)=t:=by rw [List.getD_eq_getElem?_getD,ht,Option.getD_some]
 rw [hd] at h2
 exact ⟨t,ht,hd,h2⟩
theorem on_len {q:Rat}(h:QB 600 q):(qtx q).length<=9223372036854775807:=Nat.le_trans (bk h (by decide)) (by decide)
theorem value_fn (C:Mem)(hT:Tabs C)(mv fv:Value)(pts:List Pt)(tris:List Tri)(fs:List Rat)(k:Nat)(hk0:0<k)(hk:k<=23)(hm:MeshIn C mv pts tris)(hG:Good pts tris)(hf:Sl C 1 fv (fs.map encQ))(hfl:fs.length=pts.length)(hfq:∀ q∈fs,QB k q)(hfr:∀ q∈fs,aV (qtx q)=true)(p:Pt)(hp:QP 23 p)(hr:PtR p) :
  Gives cx.P 139 [mv,fv,ptV p] C (valV pts tris fs p):=by
 have hM:=hG.ok
 have hm0:=hm
 obtain ⟨v1,v2,rfl,h1,h2⟩:=id hm.ex
 obtain ⟨A4,c4,rfl,hq5,hq6,_⟩:=id hf
 simp only [List.length_map] at hf ⊢
 have hmx:maxLen<=9223372036854775807:=by simp [maxLen]
 refine Fn.it kr_ Tryz.func139 40 fun w0=>?_
 refine G.rg fun R hR=>?_
 refine D.aB (fun b3=>?_)
 refine D.aB (fun b5=>?_)
 refine D.q3 2 1 3 5 hR ?_
 refine G.freeze 1 rfl (fun C3 hle3 hb3=>?_)
 refine G.freeze 0 rfl (fun C5 hle5 hb5=>?_)
 refine G.rg fun R hR=>?_
 refine D.aa (PtrTo.block (Mem.get hb3 mup) _) ?_
 refine D.ac ?_
 refine D.ah [[.slice A4 fs.length c4]] (fun p13 C13 hle13 hs13=>?_)
 refine D.af (checks_ok _ (hT.mono mup) _ _ _ pts tris fs (hm0.mono mup) hG (hs13.mono mup) (hf.mono mup) hfl hk hfq hfr) ?_
 refine D.q4 1 1 3 5 8 hR ?_
 refine G.z5 2 1 3 5 8 16 ?_
 refine G.cd (fun h16=>?_) fun h16=>?_
 ·exact absurd h16 (by decide)
 ·refine G.rg fun R hR=>?_
  refine D.aa (PtrTo.block (Mem.get hb3 mup) _) ?_
  refine D.aa (PtrTo.block (Mem.get hb5 mup) _) ?_
  refine D.aX (locate_fn _ (hT.mono mup) _ pts tris p (hm0.mono mup) hG hp hr) (fun v21 C21 hle21 hq21=>?_)
  obtain ⟨wv,rfl,hwv⟩:=hq21
  obtain ⟨Aw,cw,hwe,_⟩:=id hwv
  rw [List.length_map] at hwe
  subst hwe
  refine D.q5 5 1 3 5 9 10 hR ?_
  refine G.z6 2 1 3 5 9 10 25 ?_
  refine G.cd (fun h25=>?_) fun h25=>?_
  ·exact absurd h25 (by decide)
  ·refine G.z5 3 1 3 5 9 29 ?_
   refine G.cd (fun h29=>?_) fun h29=>?_
   ·have hnil:locL pts tris p=[]:=by
     have h:(((locL pts tris p).length:Nat):Int)=0:=by simpa using h29
     exact List.eq_nil_of_length_eq_zero om_
    refine G.z2 2 6 7 ?_
    refine G.az (G.dropAll (G.aK rfl rfl rfl ?_))
    exact ⟨by unfold valV;rw [hnil];rfl,rfl⟩
   ·obtain ⟨i,r,hir⟩:∃ i r,locL pts tris p=i::r:=by
     cases hl:locL pts tris p with
     | nil=>rw [hl] at h29;exact absurd h29 (by decide)
     | cons i r=>exact ⟨i,r,rfl⟩
    obtain ⟨t,ht,htd,_⟩:=loc_at (pts:=pts) (tris:=tris) (p:=p) (i:=i) (by rw [hir];simp)
    have hqb:=onQ_qb hk hM hfl hfq (List.mem_of_getElem? ht) hp
    have hV:valV pts tris fs p=numV (onQ pts fs t p):=by unfold valV;rw [hir];show numV (onQ pts fs (tris.getD i (0,0,0)) p)=_;rw [htd]
    rw [hir] at hwv ⊢
    refine G.aH [0,1,2,3,4,5,6,7,8,9,10,11] [(6,1),(7,1)] rfl kr_ (fun R hB hR=>?_)
    refine D.aa (PtrTo.block (Mem.get hb3 mup) _) ?_
    refine D.ps 2 ?_
    refine D.al (hwv.mono mup) rfl rfl rfl rfl rfl rfl rfl rfl rfl rfl om_ (rfl:(List.map encN (i::r))[0]?=some (encN i)) fl_ (fun p33 hp33=>?_)
    refine D.aa hp33 ?_
    refine D.aa (PtrTo.block (Mem.get hb5 mup) _) ?_
    refine D.aW (fun _=>(on_fn _ (hT.mono mup) _ _ pts tris fs k hk0 hk (hm0.mono mup) hM (hf.mono mup) hfl hfq i t ht p hp)) ?_
    refine D.aW (fun _=>(fnumber_q _ (hT.mono mup) _ (on_len hqb.1))) ?_
    rw [show numV (onQ pts fs t p)=.tuple #[if aV (qtx (onQ pts fs t p)) then strV (qtx (onQ pts fs t p)) else strV [],.int .i64 (if aV (qtx (onQ pts fs t p)) then 0 else 4)] by unfold numV;split <;> rfl]
    refine D.q2 4 6 7 hR ?_
    refine G.az (G.dropAll (G.aK rfl rfl rfl ?_))
    refine ⟨?_,rfl⟩
    rw [hV]
    unfold numV
    split <;> rfl

theorem ptR_of {p:Pt}(h:QP 22 p):PtR p:=⟨ba h.1,ba h.2⟩
theorem slope_fn (C:Mem)(hT:Tabs C)(mv fv:Value)(pts:List Pt)(tris:List Tri)(fs:List Rat)(k:Nat)(hk0:0<k)(hk:k<=23)(hm:MeshIn C mv pts tris)(hG:Good pts tris)(hf:Sl C 1 fv (fs.map encQ))(hfl:fs.length=pts.length)(hfq:∀ q∈fs,QB k q)(hfr:∀ q∈fs,aV (qtx q)=true)(i:Nat)(t:Tri)(ht:tris[i]?=some t)(hw:QP 22 (cJ pts fs t)) :
  Gives cx.P 106 [mv,fv,.int .i64 i] C (.tuple #[ptV (cJ pts fs t),.int .i64 0]):=by
 have hM:=hG.ok
 have hm0:=hm
 have hil:=(List.getElem?_eq_some_iff.1 ht).1
 obtain ⟨v1,v2,rfl,h1,h2⟩:=id hm.ex
 obtain ⟨A2,c2,rfl,hq3,hq4,_⟩:=id h2
 obtain ⟨A4,c4,rfl,hq5,hq6,_⟩:=id hf
 simp only [List.length_map] at hf h2 hm0 ⊢
 have hmx:maxLen<=9223372036854775807:=by simp [maxLen]
 refine Fn.it kr_ Tryz.func106 37 fun w0=>?_
 refine G.rg fun R hR=>?_
 refine D.aB (fun b3=>?_)
 refine D.aj (fun b6=>?_)
 refine D.q4 1 1 2 3 6 hR ?_
 refine G.freeze 1 rfl (fun C3 hle3 hb3=>?_)
 refine G.rg fun R hR=>?_
 refine D.aa (PtrTo.block (Mem.get hb3 mup) _) ?_
 refine D.ac ?_
 refine D.ah [[.slice A4 fs.length c4]] (fun p12 C12 hle12 hs12=>?_)
 refine D.af (checks_ok _ (hT.mono mup) _ _ _ pts tris fs (hm0.mono mup) hG (hs12.mono mup) (hf.mono mup) hfl hk hfq hfr) ?_
 refine D.q5 1 1 2 3 6 8 hR ?_
 refine G.z6 2 1 2 3 6 8 15 ?_
 refine G.cd (fun h15=>?_) fun h15=>?_
 ·exact absurd h15 (by decide)
 ·refine G.rp 5 fun R hR=>?_
  refine D.aU rfl rfl rfl rfl rfl rfl (fun _=>PtrTo.block (Mem.get hb3 mup) _) rfl rfl rfl ?_
  refine D.ps 2 ?_
  refine D.aF rfl rfl rfl rfl rfl rfl rfl rfl ?_
  refine D.e5 1 2 3 6 26 hR ?_
  refine G.cd (fun h26=>?_) fun h26=>?_
  ·exfalso
   simp only [Bool.or_eq_true,decide_eq_true_eq] at h26
   omega
  ·refine G.rg fun R hR=>?_
   refine D.aa (PtrTo.block (Mem.get hb3 mup) _) ?_
   refine D.ps 2 ?_
   refine D.ai (fslope_fn _ (hT.mono mup) _ _ pts tris fs k hk0 om_ (hm0.mono mup) hM (hf.mono mup) hfl hfq i t ht) rfl rfl rfl rfl rfl rfl rfl fl_ ?_
   refine D.aj (fun b9=>?_)
   refine D.ag (j:=0) ?_
   refine D.e2 6 9 hR ?_
   refine G.freeze 0 rfl (fun C9 hle9 hb9=>?_)
   refine G.rg fun R hR=>?_
   refine D.aa (PtrTo.block (Mem.get hb9 mup) _) ?_
   refine D.ai (eI _ (hT.mono mup) _ (hw.le (by decide)) (ptR_of hw)) rfl rfl rfl rfl rfl rfl rfl fl_ ?_
   refine D.q3 1 6 9 34 hR ?_
   refine G.cd (fun h34=>?_) fun h34=>?_
   ·exact absurd h34 (by decide)
   ·refine G.rg fun R hR=>?_
    refine D.aa (PtrTo.block (Mem.get hb9 mup) _) ?_
    refine D.ag (j:=0) ?_
    refine D.q2 1 6 7 hR ?_
    refine G.az (G.finC2 (.head _) rfl rfl rfl rfl rfl ?_)
    exact ⟨rfl,rfl⟩

def idxF {α:Type}(p:α->Bool):List α->Nat->Int
 | [],_=>-1
 | x::l,k=>if p x then (k:Nat) else idxF p l (k+1)
theorem idxF_hit {α:Type}{p:α->Bool}:∀ {l:List α}{i k:Nat}{x:α},l[i]?=some x->p x=true->(∀ y∈l.take i,p y=false)->idxF p l k=((k+i:Nat):Int)
 | y::l,0,k,x,h,hp,_=>by
  simp only [List.getElem?_cons_zero,Option.some.injEq] at h
  subst h
  simp [idxF,hp]
 | y::l,i+1,k,x,h,hp,hn=>by
  simp only [List.getElem?_cons_succ] at h
  have hy:p y=false:=hn y (by simp)
  have:=idxF_hit (k:=k+1) h hp (fun z hz=>hn z (by simp [hz]))
  simp only [idxF,hy,Bool.false_eq_true,if_false,this]
  omega
theorem idxF_miss {α:Type}{p:α->Bool}:∀ {l:List α}{k:Nat},(∀ y∈l,p y=false)->idxF p l k=-1
 | [],_,_=>rfl
 | y::l,k,h=>by
  simp only [idxF,h y List.mem_cons_self,Bool.false_eq_true,if_false]
  exact idxF_miss fun z hz=>h z (List.mem_cons_of_mem _ hz)
theorem idxF_cases {α:Type}(p:α->Bool)(l:List α):(idxF p l 0=-1/\∀ y∈l,p y=false)∨∃ (i:Nat)(x:α),idxF p l 0=(i:Nat)/\l[i]?=some x/\p x=true/\∀ y∈l.take i,p y=false:=by
 by_cases h:∀ y∈l,p y=false
 ·exact .inl ⟨idxF_miss h,h⟩
 ·right
  have key:∀ (l:List α),(¬ ∀ y∈l,p y=false)->∃ (i:Nat)(x:α),l[i]?=some x/\p x=true/\∀ y∈l.take i,p y=false:=by
   intro l
   induction l with
   | nil=>intro h;exact absurd (fun y hy=>(by cases hy)) h
   | cons a l ih =>
    intro h
    by_cases ha:p a=true
    ·exact ⟨0,a,rfl,ha,by simp⟩
    ·have ha':p a=false:=by simpa using ha
     obtain ⟨i,x,h1,h2,h3⟩:=ih (fun h2=>h (fun y hy=>by
      rcases List.mem_cons.1 hy with rfl | hy
      ·exact ha'
      ·exact h2 y hy))
     refine ⟨i+1,x,by simpa using h1,h2,fun y hy=>?_⟩
     rw [List.take_succ_cons] at hy
     rcases List.mem_cons.1 hy with rfl | hy
     ·exact ha'
     ·exact h3 y hy
  obtain ⟨i,x,h1,h2,h3⟩:=key l h
  exact ⟨i,x,by rw [idxF_hit h1 h2 h3,Nat.zero_add],h1,h2,h3⟩
structure Lay where
 unit:Str
 min:Rat
 max:Option Rat
def optS:Option Rat->Str
 | none=>[]
 | some q=>qtx q
def encL (x:Lay):List Value:=[strV x.unit,strV (qtx x.min),strV (optS x.max)]
def isU (u:Str)(x:Lay):Bool:=decide (x.unit=u)
def LayR (x:Lay):Prop:=QB 22 x.min/\(∀ q,x.max=some q->QB 22 q)/\x.unit.length<=9223372036854775807
theorem opt_nil (m:Option Rat):(!((⟨(optS m).toArray⟩:ByteArray).data.toList == (⟨#[]⟩:ByteArray).data.toList))=m.isSome:=by
 cases m with
 | none=>rfl
 | some q =>
  have:=qtx_ne q
  show (!(qtx q == []))=true
  cases h:qtx q with
  | nil=>rw [h] at this;simp at this
  | cons a l=>rfl
theorem indexFuncL_fn (C:Mem)(v:Value)(l:List Lay)(g:Nat)(ca:List Value)(pb:Lay->Bool)(hv:Sl C 3 v (l.map encL))(_hen:Jog.Enters cx.P g=true)
  (hp:∀ x∈l,∀ D:Mem,C.le D->Gives cx.P g (.agg ⟨encL x⟩::ca) D (.bool (pb x))) :
  Gives cx.P 93 [v,.func (.func g) #[] ⟨ca⟩] C (.int .i64 (idxF pb l 0)):=by
 obtain ⟨A0,c0,rfl,hc1,hc2,_⟩:=id hv
 have hmx:maxLen<=9223372036854775807:=by simp [maxLen]
 simp only [List.length_map] at hv hc1 ⊢
 refine Fn.it kr_ Tryz.func93 19 fun w0=>?_
 refine G.z2 1 0 1 ?_
 refine G.z4 3 0 1 7 8 ?_
 refine G.loop (fun fr C' L' μ=>∃ (i:Nat),(i<=l.length/\∀ y∈l.take i,pb y=false)/\fr=[(0,[],.slice A0 l.length c0),(1,[],.func (.func g) #[] ⟨ca⟩),(7,[],.int .i64 l.length),(8,[],.int .i64 i)]/\L'=[]/\μ=l.length-i) (h_4 0 1 7 8) ⟨0,⟨Nat.zero_le _,by simp⟩,rfl,rfl,rfl⟩ (fun fr C0' L0' m hle0 hI=>?_)
 obtain ⟨i,⟨hi,hno⟩,rfl,rfl,rfl⟩:=hI
 refine G.z5 1 0 1 7 8 9 ?_
 refine G.cd (fun h9=>?_) fun h9=>?_
 ·have hil:i<l.length:=by simpa using h9
  obtain ⟨x,hx⟩:∃ x,l[i]?=some x:=⟨l[i],List.getElem?_eq_getElem hil⟩
  refine G.z5 2 0 1 5 7 8 ?_
  refine G.rp 3 fun R hR=>?_
  refine D.al (hv.mono mup) rfl rfl rfl rfl rfl rfl rfl rfl rfl rfl om_ (bt hx) fl_ (fun p14 hp14=>?_)
  refine D.aa hp14 ?_
  refine D.af (hp x (List.mem_of_getElem? hx) _ mup) ?_
  refine D.e6 0 1 5 7 8 16 hR ?_
  refine G.cd (fun h16=>?_) fun h16=>?_
  ·have hyes:pb x=true:=h16
   refine G.z1 2 4 ?_
   refine G.rf ?_
   exact ⟨by rw [idxF_hit hx hyes hno,Nat.zero_add],rfl⟩
  ·have hn:pb x=false:=h16
   refine G.rg fun R hR=>?_
   refine D.am _ ?_
   refine D.q4 1 0 1 7 8 hR ?_
   refine G.ax (m':=l.length-(i+1)) om_ hle0 (h_4 0 1 7 8) ⟨i+1,⟨by omega,fun y hy=>by
    rw [List.take_add_one,hx] at hy
    rcases List.mem_append.1 hy with hy | hy
    ·exact hno y hy
    ·simp only [Option.toList_some,List.mem_singleton] at hy
     subst hy
     exact hn⟩,rfl,rfl,rfl⟩
 ·have hil:i=l.length:=by
   have:¬ i<l.length:=by simpa using h9
   omega
  refine G.z1 1 4 ?_
  refine G.rf ?_
  exact ⟨by rw [hil,List.take_length] at hno;rw [idxF_miss hno],rfl⟩
theorem strEq (a b:Str):((⟨a.toArray⟩:ByteArray).data.toList == (⟨b.toArray⟩:ByteArray).data.toList)=decide (a=b):=by
 show (a == b)=_
 by_cases h:a=b <;> simp [h]
theorem colAt1_fn (C:Mem)(b:Nat)(u:Str)(x:Lay)(hb:C b=some (.cells ⟨[strV u]⟩ 9 (0,0))):Gives cx.P 94 [.agg ⟨encL x⟩,.pointer (some ⟨b,0,none⟩)] C (.bool (isU u x)):=by
 refine Fn.it kr_ Tryz.func94 8 fun w0=>?_
 refine G.rg fun R hR=>?_
 refine D.aB (fun b2=>?_)
 refine D.q2 1 1 2 hR ?_
 refine G.rp 1 fun R hR=>?_
 refine D.ae (.head _) ?_
 refine D.aa (PtrTo.block (Mem.get hb mup) _) ?_
 refine D.q1 2 3 hR ?_
 refine G.rf ?_
 exact ⟨by unfold isU;rw [<- strEq],rfl⟩
theorem bookIdx1_fn (C:Mem)(b:Nat)(u:Str)(x:Lay)(hb:C b=some (.cells ⟨[strV u]⟩ 9 (0,0))):Gives cx.P 99 [.agg ⟨encL x⟩,.pointer (some ⟨b,0,none⟩)] C (.bool (isU u x)):=by
 refine Fn.it kr_ Tryz.func99 8 fun w0=>?_
 refine G.rg fun R hR=>?_
 refine D.aB (fun b2=>?_)
 refine D.q2 1 1 2 hR ?_
 refine G.rp 1 fun R hR=>?_
 refine D.ae (.head _) ?_
 refine D.aa (PtrTo.block (Mem.get hb mup) _) ?_
 refine D.q1 2 3 hR ?_
 refine G.rf ?_
 exact ⟨by unfold isU;rw [<- strEq],rfl⟩
theorem colAt_fn (C:Mem)(v:Value)(l:List Lay)(u:Str)(hv:Sl C 3 v (l.map encL)):Gives cx.P 56 [v,strV u] C (.int .i64 (idxF (isU u) l 0)):=by
 refine Fn.it kr_ Tryz.func56 8 fun w0=>?_
 refine G.rg fun R hR=>?_
 refine D.aB (fun b3=>?_)
 refine D.q2 1 0 3 hR ?_
 refine G.freeze 0 rfl (fun C3 hle3 hb3=>?_)
 refine G.rp 2 fun R hR=>?_
 refine D.af (indexFuncL_fn _ _ l 94 [.pointer (some ⟨b3,0,none⟩)] (isU u) (hv.mono mup) rfl (fun x _ D hD=>colAt1_fn D b3 u x (hD _ _ (Mem.get hb3 mup)))) ?_
 refine D.q1 1 4 hR ?_
 refine G.rf ?_
 exact ⟨rfl,rfl⟩
theorem bookIdx_fn (C:Mem)(v:Value)(l:List Lay)(u:Str)(hv:Sl C 3 v (l.map encL)):Gives cx.P 60 [v,strV u] C (.int .i64 (idxF (isU u) l 0)):=by
 refine Fn.it kr_ Tryz.func60 8 fun w0=>?_
 refine G.rg fun R hR=>?_
 refine D.aB (fun b3=>?_)
 refine D.q2 1 0 3 hR ?_
 refine G.freeze 0 rfl (fun C3 hle3 hb3=>?_)
 refine G.rp 2 fun R hR=>?_
 refine D.af (indexFuncL_fn _ _ l 99 [.pointer (some ⟨b3,0,none⟩)] (isU u) (hv.mono mup) rfl (fun x _ D hD=>bookIdx1_fn D b3 u x (hD _ _ (Mem.get hb3 mup)))) ?_
 refine D.q1 1 4 hR ?_
 refine G.rf ?_
 exact ⟨rfl,rfl⟩
theorem r22_len {q:Rat}(h:QB 22 q):(qtx q).length<=9223372036854775807:=Nat.le_trans (bk h (by decide)) (by decide)
theorem r22_s {q:Rat}(h:QB 22 q):(qtx q).length<=1000000:=Nat.le_trans (bk h (by decide)) (by decide)
theorem layer_fn (C:Mem)(hT:Tabs C)(x:Lay)(hx:LayR x):Gives cx.P 54 [.agg ⟨encL x⟩] C (.int .i64 0):=by
 obtain ⟨u,mn,mxo⟩:=x
 obtain ⟨h1,h2,h3⟩:=hx
 simp only at h1 h2 h3
 clear h3
 have hml:(optS mxo).length<=9223372036854775807:=by
  cases mxo with
  | none=>decide
  | some q=>exact r22_len (h2 q rfl)
 refine Fn.it kr_ Tryz.func54 17 fun w0=>?_
 refine G.rg fun R hR=>?_
 refine D.aB (fun b1=>?_)
 refine D.q1 1 1 hR ?_
 refine G.rp 1 fun R hR=>?_
 refine D.ae (.head _) ?_
 refine D.af (cL _ (hT.mono mup) (qtx mn) (r22_len h1)) ?_
 refine D.q2 2 1 3 hR ?_
 refine G.cd (fun h3=>?_) fun h3=>?_
 ·exfalso
  rw [chk_ok h1] at h3
  exact absurd h3 (by decide)
 ·refine G.rp 1 fun R hR=>?_
  refine D.ae (.head _) ?_
  refine D.ps 3 ?_
  refine D.ae (.head _) ?_
  refine D.aW (fun _=>(cL _ (hT.mono mup) (optS mxo) hml)) ?_
  refine D.ac ?_
  refine D.aq ?_
  refine D.q1 1 3 hR ?_
  refine G.cd (fun h3b=>?_) fun h3b=>?_
  ·exfalso
   simp only [] at h3b
   cases mxo with
   | none=>exact absurd h3b (by decide)
   | some q =>
    rw [show optS (some q)=qtx q from rfl,chk_ok (h2 q rfl)] at h3b
    simp at h3b
  ·refine G.z1 1 2 ?_
   refine G.rf ?_
   exact ⟨rfl,rfl⟩
end Go.Proofs.YtllimhhofkcgpaaGreatDoor
