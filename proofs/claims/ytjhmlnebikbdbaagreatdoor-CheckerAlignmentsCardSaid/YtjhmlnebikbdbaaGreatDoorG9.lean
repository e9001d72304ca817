/- Laws that the proofs of this seat share, part 9. -/
import Derived.Test.YtjhmlnebikbdbaaGreatDoorG8
import Derived.Test.YtjhmlnebikbdbaaGreatDoorShelf
set_option maxHeartbeats 4000000
namespace Go.Proofs.YtjhmlnebikbdbaaGreatDoor
open Go Go.Jog Go.Jog.Dp
set_option maxRecDepth 100000

theorem outer_at {wF:Nat->Value}{n i:Nat}(h:i<=n):((List.range (n+1)).map wF)[i]?=some (wF i):=by rw [List.getElem?_map,List.getElem?_range om_];rfl
theorem cell_at {m i j:Nat}{T:Tb}(h:j<=m):(rowT m T i)[j]?=some (T (i,j)):=by unfold rowT;rw [List.getElem?_map,List.getElem?_range om_];rfl
theorem rowE_mem {vT:Value}{wF:Nat->Value}{n m i:Nat}{T:Tb}(h:i<=n):rowE wF m T i∈tabE vT wF n m T:=List.mem_cons_of_mem _ (List.mem_map.2 ⟨i,List.mem_range.2 om_,rfl⟩)
theorem t0_row {m:Nat}:rowT m Al.t0F 0=(rowT m bN 0).set 0 (some 0):=by
 unfold rowT
 rw [range_set]
 refine List.map_congr_left fun j _=>?_
 by_cases h:j=0
 ·subst h;simp [Al.t0F]
 ·simp [Al.t0F,bN,h]
theorem t0_other {wF:Nat->Value}{m i:Nat}(h:i≠0):rowE wF m Al.t0F i=rowE wF m bN i:=by
 unfold rowE rowT
 congr 3
 refine List.map_congr_left fun j _=>?_
 simp [Al.t0F,bN,h]
theorem qtx00:qtx 0=[48]:=by decide +kernel
theorem potentials_fn (C:Mem)(hT:Tabs C)(vL vR:Value)(q:Qn)(hq:QIn C vL vR q)(ok:q.Ok) :
  Jog.Fn cx.P 27 [.agg ⟨qC vL vR q⟩] C [] fun u _ L'=>∃ wF:Nat->Value,(∀ i,i<=q.l.length->∃ bw cw,wF i=.slice (some ⟨bw,0,none⟩) (q.r.length+1) cw)/\(∃ bT cT,u=.slice (some ⟨bT,0,none⟩) (q.l.length+1) cT)/\L'=tabE u wF q.l.length q.r.length q.al.potT:=by
 have hln:=ok.ln
 have hrn:=ok.rn
 refine Fn.introM kr_ Tryz.func27 rfl 56 rfl rfl (fun w0=>?_)
 refine G.rg fun R hR=>?_
 refine D.aM (fun b1=>?_)
 refine D.q1 1 1 hR ?_
 refine G.freeze 0 rfl (fun C1 hle1 hb1=>?_)
 refine G.rg fun R hR=>?_
 refine D.aa (bkT hb1 6) ?_
 refine D.call (Lp:=[]) (Lr:=[]) (table_fn C1 vL vR q (hq.mono mup) hln hrn) rfl (.inl rfl) rfl rfl rfl rfl rfl rfl (List.Perm.refl _) fl_ (fun v11 C11 L11 hle11 hq11=>?_)
 obtain ⟨wF,hw,⟨bT,cT,rfl⟩,rfl⟩:=hq11
 rw [List.append_nil]
 refine D.aj (fun b3=>?_)
 refine D.ac (j:=0) ?_
 refine D.e2 1 3 hR ?_
 refine G.freeze 0 rfl (fun C3 hle3 hb3=>?_)
 obtain ⟨bw0,cw0,hw0⟩:=hw 0 (Nat.zero_le _)
 refine G.perm (L':=.arr (.slice (some ⟨bT,0,none⟩) (q.l.length+1) cT) 48 1 (q.l.length+1) (((List.range (q.l.length+1)).map wF).map fun w=>[w]).flatten::.arr (.slice (some ⟨bw0,0,none⟩) (q.r.length+1) cw0) 26 1 (q.r.length+1) ((rowT q.r.length bN 0).map encO).flatten::((List.range (q.l.length+1)).eraseIdx 0).map (rowE wF q.r.length bN)) (List.Perm.cons _ (by
  have h:=cJ (rowE wF q.r.length bN) (show 0<q.l.length+1 by omega)
  have h2:rowE wF q.r.length bN 0=.arr (.slice (some ⟨bw0,0,none⟩) (q.r.length+1) cw0) 26 1 (q.r.length+1) ((rowT q.r.length bN 0).map encO).flatten:=by unfold rowE;rw [hw0]
  rw [h2] at h;exact h)) ?_
 refine G.rg fun R hR=>?_
 refine D.aa (bkT hb3 1) ?_
 refine D.aO (0*1) rfl rfl rfl rfl rfl rfl rfl rfl rfl rfl (fun _=>⟨by omega,by omega,rfl⟩) rfl rfl ?_
 refine D.bh (v:=.slice (some ⟨bw0,0,none⟩) (q.r.length+1) cw0) (.head _) rfl rfl rfl rfl rfl rfl (fun _=>by rw [<- hw0];show bl _ (List.take 1 _)=_;rw [bB one_len (outer_at (Nat.zero_le _))];rfl) rfl rfl ?_
 refine D.aO (0*1) rfl rfl rfl rfl rfl rfl rfl rfl rfl rfl (fun _=>⟨by omega,by omega,rfl⟩) rfl rfl ?_
 refine D.aW (j:=1) rfl rfl rfl rfl rfl rfl rfl rfl rfl rfl rfl (by show 0*1+1<=((rowT q.r.length bN 0).map encO).flatten.length;rw [bk cU];simp [rowT]) ?_
 refine D.e2 1 3 hR ?_
 refine G.perm (L':=tabE (.slice (some ⟨bT,0,none⟩) (q.l.length+1) cT) wF q.l.length q.r.length (run Al.t0F (q.al.allF 0))) ?_ ?_
 ·have e0:run Al.t0F (q.al.allF 0)=Al.t0F:=by simp [Al.allF,run]
  rw [e0]
  unfold tabE
  refine (List.Perm.swap _ _ _).trans (List.Perm.cons _ ?_)
  refine List.Perm.symm ((cJ (rowE wF q.r.length Al.t0F) (show 0<q.l.length+1 by omega)).trans ?_)
  have h1:rowE wF q.r.length Al.t0F 0=.arr (.slice (some ⟨bw0,0,none⟩) (q.r.length+1) cw0) 26 1 (q.r.length+1) (aw ((rowT q.r.length bN 0).map encO).flatten [strV [48]] (0*1)):=by
   unfold rowE
   rw [hw0,t0_row,<- be cU (some 0) (by simp [rowT])]
   have:encO (some 0)=[strV [48]]:=by show [strV (qtx 0)]=_;rw [qtx00]
   rw [this]
  have h2:((List.range (q.l.length+1)).eraseIdx 0).map (rowE wF q.r.length Al.t0F)=((List.range (q.l.length+1)).eraseIdx 0).map (rowE wF q.r.length bN):=List.map_congr_left fun i hi=>t0_other (dJ hi).1
  rw [h1,h2]
  exact List.Perm.refl _
 refine G.rg fun R hR=>?_
 refine D.aa (bkT hb3 1) ?_
 refine D.q4 2 1 3 17 18 hR ?_
 refine G.eO (fun dd fr C' L' μ=>∃ (i:Nat)(Ds:List Nat),(i<=q.l.length+1/\(i=0∨Ds≠[]))/\dd=Ds.map d4/\fr=[(1,[],.pointer (some ⟨b1,0,none⟩)),(3,[],.pointer (some ⟨b3,0,none⟩)),(17,[],.int .i64 (q.l.length+1:Nat)),(18,[],.int .i64 i)]
  /\ L'=Ds.map ce++tabE (.slice (some ⟨bT,0,none⟩) (q.l.length+1) cT) wF q.l.length q.r.length (run Al.t0F (q.al.allF i))/\μ=q.l.length+1-i) (h_4 1 3 17 18) ⟨0,[],⟨by omega,.inl rfl⟩,rfl,rfl,rfl,rfl⟩ (fun dd fr C0 L0 μ hle0 hI=>?_)
 obtain ⟨i,Ds,⟨hi,hDs⟩,rfl,rfl,rfl,rfl⟩:=hI
 refine G.z5 1 1 3 17 18 19 ?_
 refine G.cd (fun h19=>?_) fun h19=>?_
 ·have hil:i<=q.l.length:=by have:=of_decide_eq_true h19;omega
  obtain ⟨bwi,cwi,hwi⟩:=hw i hil
  refine G.rp 1 fun R hR=>?_
  refine D.aj (fun b4=>?_)
  refine D.ac (j:=0) ?_
  refine D.e5 1 3 4 17 18 hR ?_
  refine G.freeze 0 rfl (fun C4 hle4 hb4=>?_)
  refine G.rg fun R hR=>?_
  refine D.aa (bkT hb3 1) ?_
  refine D.aa (bkT hb4 1) ?_
  refine D.aO (i*1) rfl rfl rfl rfl rfl rfl rfl rfl rfl rfl (fun _=>⟨by omega,by omega,rfl⟩) rfl rfl ?_
  refine D.bh (v:=.slice (some ⟨bwi,0,none⟩) (q.r.length+1) cwi) (List.mem_append_right _ (.head _)) rfl rfl rfl rfl rfl rfl (fun _=>by rw [<- hwi];show bl _ (List.take 1 _)=_;rw [bB one_len (outer_at hil)];rfl) rfl rfl ?_
  refine D.q7 2 1 3 4 17 18 25 26 hR ?_
  refine G.eO (fun dd fr C' L' μ=>∃ (j:Nat)(Ds:List Nat),(j<=q.r.length+1/\((i=0/\j=0)∨Ds≠[]))/\dd=Ds.map d4/\fr=[(1,[],.pointer (some ⟨b1,0,none⟩)),(3,[],.pointer (some ⟨b3,0,none⟩)),(4,[],.pointer (some ⟨b4,0,none⟩)),(17,[],.int .i64 (q.l.length+1:Nat)),(18,[],.int .i64 i),(25,[],.int .i64 (q.r.length+1:Nat)),(26,[],.int .i64 j)]
   /\ L'=Ds.map ce++tabE (.slice (some ⟨bT,0,none⟩) (q.l.length+1) cT) wF q.l.length q.r.length (run Al.t0F (q.al.allF i++q.al.rowF i j))/\μ=q.r.length+1-j) (h_7 1 3 4 17 18 25 26) ⟨0,Ds,⟨by omega,by rcases hDs with h | h <;> simp [h]⟩,rfl,rfl,by simp [Al.rowF],rfl⟩ (fun dd fr C0' L0 μ hle0' hI=>?_)
  obtain ⟨j,Ds,⟨hj,hDs'⟩,rfl,rfl,rfl,rfl⟩:=hI
  refine G.z8 1 1 3 4 17 18 25 26 27 ?_
  refine G.cd (fun h27=>?_) fun h27=>?_
  ·have hjl:j<=q.r.length:=by have:=of_decide_eq_true h27;omega
   refine G.rp 1 fun R hR=>?_
   refine D.aj (fun b5=>?_)
   refine D.ac (j:=0) ?_
   refine D.e8 1 3 4 5 17 18 25 26 hR ?_
   refine G.freeze 0 rfl (fun C5 hle5 hb5=>?_)
   refine G.rg fun R hR=>?_
   refine D.aa (bkT hb1 6) ?_
   refine D.aa (bkT hb4 1) ?_
   refine D.aa (bkT hb5 1) ?_
   refine D.aJ (steps_fn _ vL vR q i j) (fun v32 C32 hle32 hq32=>?_)
   obtain ⟨ci,cj,cq,rfl,hci,hcj,hcq⟩:=hq32
   refine D.e9 1 3 4 5 17 18 25 26 32 hR ?_
   have hit:=d9 C32 (hT.mono mup) vL vR q i j ci cj cq (hq.mono mup) ok hil hjl hci hcj hcq
   refine G.cW (ps:=[33,34]) rfl rfl kr_ hit (fun v hv=>?_) (fun c L'=>L'=Ds.map ce++tabE (.slice (some ⟨bT,0,none⟩) (q.l.length+1) cT) wF q.l.length q.r.length (run Al.t0F (q.al.upF i j c))) (fun _ _ _=>False) (by rw [Al.upF_zero];rfl) (fun v hv=>?_)
    (fun c L' frA LA=>∃ b6 k,(q.al.kinds i j)[c]?=some k/\frA=[(3,[],.pointer (some ⟨b3,0,none⟩)),(4,[],.pointer (some ⟨b4,0,none⟩)),(5,[],.pointer (some ⟨b5,0,none⟩)),(6,[],.pointer (some ⟨b6,0,none⟩)),(7,[],strV (qtx (q.cost k i j)))]/\LA=.obj b6 (.cells ⟨stepC k i j⟩ 50 (0,0))::L')
    ?_ ?_ ?_ (fun _ _ _ _ _ h=>h.elim)
   ·obtain ⟨c,hc⟩:=List.getElem?_of_mem hv
    obtain ⟨k,_,rfl⟩:=bp hc
    rfl
   ·obtain ⟨c,hc⟩:=List.getElem?_of_mem hv
    obtain ⟨k,_,rfl⟩:=bp hc
    rfl
   ·intro l2 c v L' W1 hI hv
    obtain ⟨k,hk,rfl⟩:=bp hv
    refine G.rg fun R hR=>?_
    refine D.aj (fun b6=>?_)
    refine D.ac (j:=0) ?_
    refine D.e5 3 4 5 6 34 hR ?_
    refine G.z5 1 3 4 5 6 7 ?_
    exact G.eT [(3,[],_),(4,[],_),(5,[],_),(6,[],_),(7,[],_)] ⟨rfl,rfl,rfl,rfl,rfl,trivial⟩ ⟨b6,k,hk,rfl,rfl⟩
   ·intro l2 c v L' frA LA W1 hI hv hA
    subst hI
    obtain ⟨b6,k,hk,rfl,rfl⟩:=hA
    have hok:=Al.mem_kinds.1 (List.mem_of_getElem? hk)
    have hcs:=ok.small.q hok
    obtain ⟨⟨hna,hnb⟩,hnc⟩:=Al.ok_nx (A:=q.al) hil hjl hok
    have hna':(nx k i j).1<=q.l.length:=hna
    have hnb':(nx k i j).2<=q.r.length:=hnb
    obtain ⟨u,hu⟩:=Al.upF_here (A:=q.al) (c:=c) hil hjl
    have qu:=Al.qbF (p:=(i,j)) ok.small (Al.upF_mem (A:=q.al) (c:=c) hil hjl) hil hjl hu
    have quq:QB 1 u:=qu.1.qb2 (by have:=qu.2;grind) (by have:=qu.2;grind)
    have qc:QB 1 (q.cost k i j):=hcs.1.qb2 (by have:=hcs.2;grind) (by have:=hcs.2;grind)
    have qs:QB 1 (u+q.cost k i j):=(qu.1.add hcs.1).qb2 (by have:=qu.2;have:=hcs.2;grind) (by have:=qu.2;have:=hcs.2;grind)
    refine G.freeze 0 rfl (fun C6 hle6 hb6=>?_)
    refine G.rg fun R hR=>?_
    refine D.aa (bkT hb6 3) ?_
    refine D.au (next_fn _ k i j om_ om_) rfl rfl rfl rfl rfl rfl rfl fl_ ?_
    refine D.q6 5 3 4 5 7 8 9 hR ?_
    refine G.aI [0,1,2,3,4,5,6,7,8,9,10,11,12] [(11,1),(12,3)] rfl kr_ (fun R hB hR=>?_)
    refine D.aa (bkT hb3 1) ?_
    refine D.ps 2 ?_
    refine D.aa (bkT hb3 1) ?_
    refine D.aa (bkT hb4 1) ?_
    refine D.aO (i*1) rfl rfl rfl rfl rfl rfl rfl rfl rfl rfl (fun _=>⟨by omega,by omega,rfl⟩) rfl rfl ?_
    refine D.bh (v:=.slice (some ⟨bwi,0,none⟩) (q.r.length+1) cwi) (List.mem_append_right _ (.head _)) rfl rfl rfl rfl rfl rfl (fun _=>by rw [<- hwi];show bl _ (List.take 1 _)=_;rw [bB one_len (outer_at hil)];rfl) rfl rfl ?_
    refine D.aa (bkT hb5 1) ?_
    refine D.aO (j*1) rfl rfl rfl rfl rfl rfl rfl rfl rfl rfl (fun _=>⟨by omega,by omega,rfl⟩) rfl rfl ?_
    refine D.bh (v:=strV (qtx u)) (xs:=((rowT q.r.length (run Al.t0F (q.al.upF i j c)) i).map encO).flatten) (List.mem_append_right _ (by have h:=rowE_mem (vT:=(.slice (some ⟨bT,0,none⟩) (q.l.length+1) cT)) (wF:=wF) (m:=q.r.length) (T:=run Al.t0F (q.al.upF i j c)) hil;unfold rowE at h;rw [hwi] at h;exact h)) rfl rfl rfl rfl rfl rfl (fun _=>by show bl _ (List.take 1 _)=_;rw [bB cU (cell_at hjl),hu];rfl) rfl rfl ?_
    refine D.ae ?_
    refine D.aU (fun _=>ee _ (hT.mono mup) u (q.cost k i j) 1 (by decide) (by decide) quq qc) rfl rfl rfl rfl rfl rfl rfl rfl rfl ?_
    refine D.call (improve_fn _ (hT.mono mup) (.slice (some ⟨bT,0,none⟩) (q.l.length+1) cT) wF q.l.length q.r.length (nx k i j).1 (nx k i j).2 (run Al.t0F (q.al.upF i j c)) (u+q.cost k i j) hw om_ om_ hna' hnb' qs (fun y hy=>by have h:=Al.qbF (p:=nx k i j) ok.small (Al.upF_mem (A:=q.al) (c:=c) hil hjl) hna hnb hy;exact h.1.qb2 (by have:=h.2;grind) (by have:=h.2;grind))) rfl (.inr (by decide)) rfl rfl rfl rfl rfl rfl List.perm_append_comm fl_ (fun v52 C52 L52 hle52 hq52=>?_)
    obtain ⟨rfl,rfl⟩:=hq52
    refine D.done [] trivial (hR _ _ _ rfl ?_)
    refine G.perm (L':=Ds.map ce++tabE (.slice (some ⟨bT,0,none⟩) (q.l.length+1) cT) wF q.l.length q.r.length (run Al.t0F (q.al.upF i j (c+1)))) (by rw [Al.upF_step hk hu];exact List.perm_append_comm) ?_
    exact G.eI rfl
   ·intro D0 L' hI
    subst hI
    refine G.rg fun R hR=>?_
    refine D.ax ((j+1:Nat):Int) ?_
    refine D.q7 1 1 3 4 17 18 25 26 hR ?_
    refine G.eB (dd:=(D0::Ds).map d4) (m':=q.r.length+1-(j+1)) om_ mup (h_7 1 3 4 17 18 25 26) ⟨j+1,D0::Ds,⟨by omega,.inr (by simp)⟩,rfl,rfl, ?_,rfl⟩
    have:(de q i j).length=(q.al.kinds i j).length:=by simp [de]
    rw [this,Al.upF_end];rfl
  ·obtain rfl:j=q.r.length+1:=by have:=of_decide_eq_false h27;omega
   refine G.rg fun R hR=>?_
   refine D.ax ((i+1:Nat):Int) ?_
   refine D.q4 1 1 3 17 18 hR ?_
   refine G.eB (dd:=Ds.map d4) (m':=q.l.length+1-(i+1)) om_ mup (h_4 1 3 17 18) ⟨i+1,Ds,⟨by omega,.inr ?_⟩,rfl,rfl, ?_,rfl⟩
   ·rcases hDs' with h | h
    ·omega
    ·exact h
   ·rw [Al.allF_succ];rfl
 ·obtain rfl:i=q.l.length+1:=by have:=of_decide_eq_false h19;omega
  refine G.rg fun R hR=>?_
  refine D.aa (bkT hb3 1) ?_
  refine D.q1 1 2 hR ?_
  have hne:Ds≠[]:=hDs.elim (fun h=>absurd h om_) id
  exact G.aA (G.finMK (.inl rfl) (res_tmp1 rfl rfl) ⟨wF,hw,⟨bT,cT,rfl⟩,rfl⟩ hne)
end Go.Proofs.YtjhmlnebikbdbaaGreatDoor
namespace Go.Jog
namespace Dp

def Al.upB (A:Al)(a b c:Nat):List Ed:=A.allB a++(A.rowB (A.n-a) b++(A.cellB (A.n-a) (A.m-b)).take c)
theorem Al.upB_pre {A:Al}{a b c:Nat}(ha:a<=A.n)(hb:b<=A.m):A.upB a b c <+: A.allB (A.n+1) :=
 range_pre (f:=fun a=>A.rowB (A.n-a) (A.m+1)) om_ _ (range_pre (f:=fun b=>A.cellB (A.n-a) (A.m-b)) om_ _ (List.take_prefix _ _))
theorem Al.upB_mem {A:Al}{a b c:Nat}(ha:a<=A.n)(hb:b<=A.m):∀ e∈A.upB a b c,e∈A.allB (A.n+1):=fun _ he=>(Al.upB_pre ha hb).subset he
theorem Al.upB_done {A:Al}{a b c:Nat}(ha:a<=A.n)(hb:b<=A.m):Done (A.n,A.m) (A.upB a b c) (run A.t0B (A.upB a b c)):=by
 obtain ⟨t,ht⟩:=Al.upB_pre (c:=c) ha hb
 exact (A.ordB.pre _ _ ht.symm).done (done_start (by simp [t0B]) fun p hp=>by simp [t0B,hp])
theorem Al.upB_next {A:Al}{a b c k:Nat}(ha:a<=A.n)(hb:b<=A.m)(hok:A.ok k (A.n-a) (A.m-b)=true):∃ u,run A.t0B (A.upB a b c) (nx k (A.n-a) (A.m-b))=some u:=by
 have hd:=Al.upB_done (c:=c) ha hb
 obtain ⟨⟨h1,h2⟩,h3⟩:=Al.ok_nx om_ om_ hok
 obtain ⟨⟨x,y⟩,hp⟩:∃ p:Nat × Nat,nx k (A.n-a) (A.m-b)=p:=⟨_,rfl⟩
 rw [hp] at h1 h2 h3 ⊢
 simp only at h1 h2 h3
 by_cases hr:x=A.n/\y=A.m
 ·obtain ⟨rfl,rfl⟩:=hr
  exact ⟨_,hd.root⟩
 ·obtain ⟨kk,hkk⟩:∃ kk,A.ok kk x y=true:=by
   by_cases hx:x<A.n
   ·exact ⟨2,Al.ok2 hx⟩
   ·exact ⟨3,Al.ok3 om_⟩
  have hm:(⟨nx kk x y,(x,y),A.co kk x y⟩:Ed)∈A.upB a b c:=by
   unfold upB
   rcases h3 with ⟨h4,h5⟩ | ⟨h4,h5⟩
   ·refine List.mem_append_left _ ?_
    unfold allB rowB cellB
    refine List.mem_flatMap.2 ⟨A.n-x,List.mem_range.2 om_,List.mem_flatMap.2 ⟨A.m-y,List.mem_range.2 om_,List.mem_map.2 ⟨kk,Al.mem_kinds.2 ?_, ?_⟩⟩⟩
    ·rw [Nat.sub_sub_self h1,Nat.sub_sub_self h2];exact hkk
    ·rw [Nat.sub_sub_self h1,Nat.sub_sub_self h2]
   ·refine List.mem_append_right _ (List.mem_append_left _ ?_)
    unfold rowB cellB
    subst h4
    refine List.mem_flatMap.2 ⟨A.m-y,List.mem_range.2 om_,List.mem_map.2 ⟨kk,Al.mem_kinds.2 ?_, ?_⟩⟩
    ·rw [Nat.sub_sub_self h2];exact hkk
    ·rw [Nat.sub_sub_self h2]
  obtain ⟨_,v,_,hv,_⟩:=hd.src _ hm
  exact ⟨v,hv⟩
theorem Al.upB_zero (A:Al)(a b:Nat):A.upB a b 0=A.allB a++A.rowB (A.n-a) b:=by simp [upB]
theorem Al.upB_end (A:Al)(a b:Nat):A.upB a b (A.kinds (A.n-a) (A.m-b)).length=A.allB a++A.rowB (A.n-a) (b+1):=by
 have:(A.cellB (A.n-a) (A.m-b)).take (A.kinds (A.n-a) (A.m-b)).length=A.cellB (A.n-a) (A.m-b):=List.take_of_length_le (by simp [cellB])
 unfold upB
 rw [this,A.rowB_succ]
theorem Al.upB_step {A:Al}{a b c k:Nat}(h:(A.kinds (A.n-a) (A.m-b))[c]?=some k){u:Rat}(hu:run A.t0B (A.upB a b c) (nx k (A.n-a) (A.m-b))=some u) :
  run A.t0B (A.upB a b (c+1))=improve (run A.t0B (A.upB a b c)) (A.n-a,A.m-b) (u+A.co k (A.n-a) (A.m-b)):=by
 have e:A.upB a b (c+1)=A.upB a b c++[⟨nx k (A.n-a) (A.m-b),(A.n-a,A.m-b),A.co k (A.n-a) (A.m-b)⟩]:=by
  unfold upB
  rw [List.take_add_one]
  have:(A.cellB (A.n-a) (A.m-b))[c]?=some ⟨nx k (A.n-a) (A.m-b),(A.n-a,A.m-b),A.co k (A.n-a) (A.m-b)⟩:=by unfold cellB;rw [List.getElem?_map,h];rfl
  rw [this];simp
 rw [e,run_snoc]
 unfold relax
 rw [hu]
end Dp
end Go.Jog
namespace Go.Proofs.YtjhmlnebikbdbaaGreatDoor
open Go Go.Jog Go.Jog.Dp
set_option maxRecDepth 100000

theorem t0B_row {n m:Nat}{A:Al}(hn:A.n=n)(hm:A.m=m):rowT m A.t0B n=(rowT m bN n).set m (some 0):=by
 subst hn;subst hm
 unfold rowT
 rw [range_set]
 refine List.map_congr_left fun j _=>?_
 by_cases h:j=A.m
 ·subst h;simp [Al.t0B]
 ·simp [Al.t0B,bN,h]
theorem t0B_other {wF:Nat->Value}{m i:Nat}{A:Al}(h:i≠A.n):rowE wF m A.t0B i=rowE wF m bN i:=by
 unfold rowE rowT
 congr 3
 refine List.map_congr_left fun j _=>?_
 simp [Al.t0B,bN,h]
def tbB (A:Al)(a b:Nat):Tb:=if a=0/\b=0 then bN else run A.t0B (A.allB a++A.rowB (A.n-a) b)
theorem tbB_next (A:Al)(a:Nat):tbB A a (A.m+1)=tbB A (a+1) 0:=by
 unfold tbB
 rw [if_neg om_,if_neg om_,A.allB_succ]
 simp [Al.rowB]
theorem tbB_end (A:Al):tbB A (A.n+1) 0=A.restT:=by
 unfold tbB Al.restT
 rw [if_neg om_];simp [Al.rowB]
theorem rests_fn (C:Mem)(hT:Tabs C)(vL vR:Value)(q:Qn)(hq:QIn C vL vR q)(ok:q.Ok) :
  Jog.Fn cx.P 23 [.agg ⟨qC vL vR q⟩] C [] fun u _ L'=>∃ wF:Nat->Value,(∀ i,i<=q.l.length->∃ bw cw,wF i=.slice (some ⟨bw,0,none⟩) (q.r.length+1) cw)/\(∃ bT cT,u=.slice (some ⟨bT,0,none⟩) (q.l.length+1) cT)/\L'=tabE u wF q.l.length q.r.length q.al.restT:=by
 obtain ⟨AL,cL,rfl,_,_,_⟩:=id hq.l
 obtain ⟨AR,cR,rfl,_,_,_⟩:=id hq.r
 simp only [List.length_map] at hq ⊢
 have hln:=ok.ln
 have hrn:=ok.rn
 refine Fn.introM kr_ Tryz.func23 rfl 71 rfl rfl (fun w0=>?_)
 refine G.rg fun R hR=>?_
 refine D.aM (fun b1=>?_)
 refine D.q1 1 1 hR ?_
 refine G.freeze 0 rfl (fun C1 hle1 hb1=>?_)
 refine G.rg fun R hR=>?_
 refine D.aa (bkT hb1 6) ?_
 refine D.call (Lp:=[]) (Lr:=[]) (table_fn C1 _ _ q (hq.mono mup) hln hrn) rfl (.inl rfl) rfl rfl rfl rfl rfl rfl (List.Perm.refl _) fl_ (fun v11 C11 L11 hle11 hq11=>?_)
 obtain ⟨wF,hw,⟨bT,cT,rfl⟩,rfl⟩:=hq11
 rw [List.append_nil]
 refine D.aj (fun b3=>?_)
 refine D.ac (j:=0) ?_
 refine D.e2 1 3 hR ?_
 refine G.freeze 0 rfl (fun C3 hle3 hb3=>?_)
 refine G.rp 1 fun R hR=>?_
 refine D.aa (bkT hb1 1) ?_
 refine D.ae ?_
 refine D.aj (fun b4=>?_)
 refine D.ac (j:=0) ?_
 refine D.e3 1 3 4 hR ?_
 refine G.eO (fun dd fr C' L' μ=>∃ (a:Nat)(Ds:List Nat)(b4:Nat),(a<=q.l.length+1/\(a=0∨Ds≠[]))/\dd=Ds.map d4/\fr=[(1,[],.pointer (some ⟨b1,0,none⟩)),(3,[],.pointer (some ⟨b3,0,none⟩)),(4,[],.pointer (some ⟨b4,0,none⟩))]
  /\ L'=.obj b4 (.cells ⟨[.int .i64 ((q.l.length:Nat)-(a:Nat):Int)]⟩ 3 (0,0))::(Ds.map ce++tabE (.slice (some ⟨bT,0,none⟩) (q.l.length+1) cT) wF q.l.length q.r.length (tbB q.al a 0))/\μ=q.l.length+1-a) (h_3 1 3 4) ⟨0,[],b4,⟨by omega,.inl rfl⟩,rfl,rfl,by simp [tbB];rfl,rfl⟩ (fun dd fr C0 L0 μ hle0 hI=>?_)
 obtain ⟨a,Ds,b4,⟨ha,hDs⟩,rfl,rfl,rfl,rfl⟩:=hI
 refine G.rg fun R hR=>?_
 refine D.ag (.head _) ?_
 refine D.q4 1 1 3 4 16 hR ?_
 refine G.cd (fun h16=>?_) fun h16=>?_
 ·have hal:a<=q.l.length:=by have:=of_decide_eq_true h16;omega
  have ei:((q.l.length:Nat):Int)-(a:Nat)=((q.l.length-a:Nat):Int):=by omega
  rw [ei]
  obtain ⟨i,hi⟩:∃ i,q.l.length-a=i:=⟨_,rfl⟩
  rw [hi]
  have hil:i<=q.l.length:=by omega
  obtain ⟨bwi,cwi,hwi⟩:=hw i hil
  refine G.freeze 0 rfl (fun C4 hle4 hb4=>?_)
  refine G.rp 1 fun R hR=>?_
  refine D.aa (bkT hb1 1) ?_
  refine D.ae ?_
  refine D.aj (fun b5=>?_)
  refine D.ac (j:=0) ?_
  refine D.e4 1 3 4 5 hR ?_
  refine G.eO (fun dd fr C' L' μ=>∃ (b:Nat)(Ds:List Nat)(b5:Nat),(b<=q.r.length+1/\((a=0/\b=0)∨Ds≠[]))/\dd=Ds.map d4/\fr=[(1,[],.pointer (some ⟨b1,0,none⟩)),(3,[],.pointer (some ⟨b3,0,none⟩)),(4,[],.pointer (some ⟨b4,0,none⟩)),(5,[],.pointer (some ⟨b5,0,none⟩))]
   /\ L'=.obj b5 (.cells ⟨[.int .i64 ((q.r.length:Nat)-(b:Nat):Int)]⟩ 3 (0,0))::(Ds.map ce++tabE (.slice (some ⟨bT,0,none⟩) (q.l.length+1) cT) wF q.l.length q.r.length (tbB q.al a b))/\μ=q.r.length+1-b) (h_4 1 3 4 5) ⟨0,Ds,b5,⟨by omega,by rcases hDs with h | h <;> simp [h]⟩,rfl,rfl,by simp;rfl,rfl⟩ (fun dd fr C0' L0 μ hle0' hI=>?_)
  obtain ⟨b,Ds,b5,⟨hb,hDs'⟩,rfl,rfl,rfl,rfl⟩:=hI
  refine G.rg fun R hR=>?_
  refine D.ag (.head _) ?_
  refine D.q5 1 1 3 4 5 23 hR ?_
  refine G.cd (fun h23=>?_) fun h23=>?_
  ·have hbl:b<=q.r.length:=by have:=of_decide_eq_true h23;omega
   have ej:((q.r.length:Nat):Int)-(b:Nat)=((q.r.length-b:Nat):Int):=by omega
   rw [ej]
   obtain ⟨j,hj⟩:∃ j,q.r.length-b=j:=⟨_,rfl⟩
   rw [hj]
   have hjl:j<=q.r.length:=by omega
   refine G.freeze 0 rfl (fun C5 hle5 hb5=>?_)
   refine G.rg fun R hR=>?_
   refine D.aa (bkT hb4 1) ?_
   refine D.ae ?_
   refine D.aa (bkT hb1 1) ?_
   refine D.ps 3 ?_
   refine D.aD rfl rfl rfl rfl rfl rfl (fun _=>PtrTo.blockT (Mem.get hb5 mup) _ 1) rfl rfl rfl ?_
   refine D.ae ?_
   refine D.aD rfl rfl rfl rfl rfl rfl (fun _=>PtrTo.blockT (Mem.get hb1 mup) _ 1) rfl rfl rfl ?_
   refine D.ps 2 ?_
   refine D.aC rfl rfl rfl rfl rfl rfl rfl rfl ?_
   refine D.e5 1 3 4 5 37 hR ?_
   refine G.bH (fun fr C' L' _=>fr=[(1,[],.pointer (some ⟨b1,0,none⟩)),(3,[],.pointer (some ⟨b3,0,none⟩)),(4,[],.pointer (some ⟨b4,0,none⟩)),(5,[],.pointer (some ⟨b5,0,none⟩))]/\L'=Ds.map ce++tabE (.slice (some ⟨bT,0,none⟩) (q.l.length+1) cT) wF q.l.length q.r.length (run q.al.t0B (q.al.upB a b 0))) ?_ (fun fr C6 L6 μ6 hle6 hI=>?_)
   ·refine G.cd (fun h37=>?_) fun h37=>?_
    ·have h0:a=0/\b=0:=by simp at h37;omega
     obtain ⟨rfl,rfl⟩:=h0
     have hrow:rowE wF q.r.length bN i=(.arr (.slice (some ⟨bwi,0,none⟩) (q.r.length+1) cwi) 26 1 (q.r.length+1) ((rowT q.r.length bN i).map encO).flatten:Ent):=by unfold rowE;rw [hwi]
     have et:tbB q.al 0 0=bN:=by simp [tbB]
     rw [et]
     have hsp:=cJ (rowE wF q.r.length bN) (show i<q.l.length+1 by omega)
     rw [hrow] at hsp
     refine G.perm (L':=(.arr (.slice (some ⟨bT,0,none⟩) (q.l.length+1) cT) 48 1 (q.l.length+1) (((List.range (q.l.length+1)).map wF).map fun w=>[w]).flatten:Ent)::(.arr (.slice (some ⟨bwi,0,none⟩) (q.r.length+1) cwi) 26 1 (q.r.length+1) ((rowT q.r.length bN i).map encO).flatten:Ent)::(Ds.map ce++((List.range (q.l.length+1)).eraseIdx i).map (rowE wF q.r.length bN))) (by unfold tabE;exact List.perm_middle.trans (List.Perm.cons _ ((hsp.append_left _).trans List.perm_middle))) ?_
     refine G.aI [0,1,2,3,4,5,6] [] rfl kr_ (fun R hB hR=>?_)
     refine D.aa (bkT hb3 1) ?_
     refine D.aa (bkT hb4 1) ?_
     refine D.aO (i*1) rfl rfl rfl rfl rfl rfl rfl rfl rfl rfl (fun _=>⟨by omega,by omega,rfl⟩) rfl rfl ?_
     refine D.bh (v:=.slice (some ⟨bwi,0,none⟩) (q.r.length+1) cwi) (.head _) rfl rfl rfl rfl rfl rfl (fun _=>by rw [<- hwi];show bl _ (List.take 1 _)=_;rw [bB one_len (outer_at hil)];rfl) rfl rfl ?_
     refine D.aa (bkT hb5 1) ?_
     refine D.aO (j*1) rfl rfl rfl rfl rfl rfl rfl rfl rfl rfl (fun _=>⟨by omega,by omega,rfl⟩) rfl rfl ?_
     refine D.aW (j:=1) rfl rfl rfl rfl rfl rfl rfl rfl rfl rfl rfl (by show j*1+1<=((rowT q.r.length bN i).map encO).flatten.length;rw [bk cU];simp [rowT];omega) ?_
     refine D.e4 1 3 4 5 hR ?_
     refine G.perm (L':=Ds.map ce++tabE (.slice (some ⟨bT,0,none⟩) (q.l.length+1) cT) wF q.l.length q.r.length (run q.al.t0B (q.al.upB 0 0 0))) ?_ (G.ay 0 mup (h_4 1 3 4 5) ⟨rfl,rfl⟩)
     have e0:run q.al.t0B (q.al.upB 0 0 0)=q.al.t0B:=by simp [Al.upB,Al.allB,Al.rowB,run]
     rw [e0]
     have hin:i=q.al.n:=by show i=q.l.length;omega
     have hjm:j=q.al.m:=by show j=q.r.length;omega
     have h1:rowE wF q.r.length q.al.t0B i=(.arr (.slice (some ⟨bwi,0,none⟩) (q.r.length+1) cwi) 26 1 (q.r.length+1) (aw ((rowT q.r.length bN i).map encO).flatten [strV [48]] (j*1)):Ent):=by
      unfold rowE
      rw [hwi,t0B_row (A:=q.al) hin.symm (show q.al.m=q.r.length from rfl),show q.r.length=j by omega]
      have he:encO (some 0)=[strV [48]]:=by show [strV (qtx 0)]=_;rw [qtx00]
      rw [<- he,be cU (some 0) (by simp [rowT])]
     have h2:((List.range (q.l.length+1)).eraseIdx i).map (rowE wF q.r.length bN)=((List.range (q.l.length+1)).eraseIdx i).map (rowE wF q.r.length q.al.t0B):=List.map_congr_left fun k hk=>(t0B_other (by rw [<- hin];exact (dJ hk).1)).symm
     unfold tabE
     have h3:=cJ (rowE wF q.r.length q.al.t0B) (show i<q.l.length+1 by omega)
     rw [h1,<- h2] at h3
     refine List.Perm.trans ?_ (List.perm_middle.trans (List.Perm.cons _ ((h3.append_left (Ds.map ce)).trans List.perm_middle))).symm
     exact List.Perm.swap _ _ _
    ·refine G.ay 0 mup (h_4 1 3 4 5) ⟨rfl, ?_⟩
     have h0:¬ (a=0/\b=0):=fun h=>by obtain ⟨rfl,rfl⟩:=h;simp at h37;omega
     unfold tbB
     rw [if_neg h0,Al.upB_zero];rfl
   obtain ⟨rfl,rfl⟩:=hI
   subst hi;subst hj
   refine G.rg fun R hR=>?_
   refine D.aa (bkT hb1 6) ?_
   refine D.aa (bkT hb4 1) ?_
   refine D.aa (bkT hb5 1) ?_
   refine D.aJ (steps_fn _ _ _ q (q.l.length-a) (q.r.length-b)) (fun v47 C47 hle47 hq47=>?_)
   obtain ⟨ci,cj,cq,rfl,hci,hcj,hcq⟩:=hq47
   refine D.e5 1 3 4 5 47 hR ?_
   have hit:=d9 C47 (hT.mono mup) _ _ q (q.l.length-a) (q.r.length-b) ci cj cq (hq.mono mup) ok hil hjl hci hcj hcq
   refine G.cW (ps:=[48,49]) rfl rfl kr_ hit (fun v hv=>?_) (fun c L'=>L'=Ds.map ce++tabE (.slice (some ⟨bT,0,none⟩) (q.l.length+1) cT) wF q.l.length q.r.length (run q.al.t0B (q.al.upB a b c))) (fun _ _ _=>False) rfl (fun v hv=>?_)
    (fun c L' frA LA=>∃ b6 k,(q.al.kinds (q.l.length-a) (q.r.length-b))[c]?=some k/\frA=[(3,[],.pointer (some ⟨b3,0,none⟩)),(4,[],.pointer (some ⟨b4,0,none⟩)),(5,[],.pointer (some ⟨b5,0,none⟩)),(6,[],.pointer (some ⟨b6,0,none⟩)),(7,[],strV (qtx (q.cost k (q.l.length-a) (q.r.length-b))))]/\LA=.obj b6 (.cells ⟨stepC k (q.l.length-a) (q.r.length-b)⟩ 50 (0,0))::L')
    ?_ ?_ ?_ (fun _ _ _ _ _ h=>h.elim)
   ·obtain ⟨c,hc⟩:=List.getElem?_of_mem hv
    obtain ⟨k,_,rfl⟩:=bp hc
    rfl
   ·obtain ⟨c,hc⟩:=List.getElem?_of_mem hv
    obtain ⟨k,_,rfl⟩:=bp hc
    rfl
   ·intro l2 c v L' W1 hI hv
    obtain ⟨k,hk,rfl⟩:=bp hv
    refine G.rg fun R hR=>?_
    refine D.aj (fun b6=>?_)
    refine D.ac (j:=0) ?_
    refine D.e5 3 4 5 6 49 hR ?_
    refine G.z5 1 3 4 5 6 7 ?_
    exact G.eT [(3,[],_),(4,[],_),(5,[],_),(6,[],_),(7,[],_)] ⟨rfl,rfl,rfl,rfl,rfl,trivial⟩ ⟨b6,k,hk,rfl,rfl⟩
   ·intro l2 c v L' frA LA W1 hI hv hA
    subst hI
    obtain ⟨b6,k,hk,rfl,rfl⟩:=hA
    have hok:=Al.mem_kinds.1 (List.mem_of_getElem? hk)
    have hcs:=ok.small.q hok
    obtain ⟨⟨hna,hnb⟩,hnc⟩:=Al.ok_nx (A:=q.al) hil hjl hok
    have hna':(nx k (q.l.length-a) (q.r.length-b)).1<=q.l.length:=hna
    have hnb':(nx k (q.l.length-a) (q.r.length-b)).2<=q.r.length:=hnb
    obtain ⟨u,hu⟩:=Al.upB_next (A:=q.al) (c:=c) hal hbl hok
    have qu:=Al.qbB ok.small (Al.upB_mem (A:=q.al) (c:=c) hal hbl) hu
    have quq:QB 1 u:=qu.1.qb2 (by have:=qu.2;grind) (by have:=qu.2;grind)
    have qc:QB 1 (q.cost k (q.l.length-a) (q.r.length-b)):=hcs.1.qb2 (by have:=hcs.2;grind) (by have:=hcs.2;grind)
    have qs:QB 1 (u+q.cost k (q.l.length-a) (q.r.length-b)):=(qu.1.add hcs.1).qb2 (by have:=qu.2;have:=hcs.2;grind) (by have:=qu.2;have:=hcs.2;grind)
    obtain ⟨bwa,cwa,hwa⟩:=hw _ hna'
    refine G.freeze 0 rfl (fun C7 hle7 hb7=>?_)
    refine G.rg fun R hR=>?_
    refine D.aa (bkT hb7 3) ?_
    refine D.au (next_fn _ k (q.l.length-a) (q.r.length-b) om_ om_) rfl rfl rfl rfl rfl rfl rfl fl_ ?_
    refine D.q6 5 3 4 5 7 8 9 hR ?_
    refine G.aI [0,1,2,3,4,5,6,7,8,9,10,11,12] [(11,1),(12,3)] rfl kr_ (fun R hB hR=>?_)
    refine D.aa (bkT hb3 1) ?_
    refine D.aa (bkT hb4 1) ?_
    refine D.aa (bkT hb5 1) ?_
    refine D.aa (bkT hb3 1) ?_
    refine D.ae ?_
    refine D.aO ((nx k (q.l.length-a) (q.r.length-b)).1*1) rfl rfl rfl rfl rfl rfl rfl rfl rfl rfl (fun _=>⟨by omega,by omega,rfl⟩) rfl rfl ?_
    refine D.bh (v:=.slice (some ⟨bwa,0,none⟩) (q.r.length+1) cwa) (List.mem_append_right _ (.head _)) rfl rfl rfl rfl rfl rfl (fun _=>by rw [<- hwa];show bl _ (List.take 1 _)=_;rw [bB one_len (outer_at hna')];rfl) rfl rfl ?_
    refine D.ae ?_
    refine D.aO ((nx k (q.l.length-a) (q.r.length-b)).2*1) rfl rfl rfl rfl rfl rfl rfl rfl rfl rfl (fun _=>⟨by omega,by omega,rfl⟩) rfl rfl ?_
    refine D.bh (v:=strV (qtx u)) (xs:=((rowT q.r.length (run q.al.t0B (q.al.upB a b c)) (nx k (q.l.length-a) (q.r.length-b)).1).map encO).flatten) (List.mem_append_right _ (by have h:=rowE_mem (vT:=(.slice (some ⟨bT,0,none⟩) (q.l.length+1) cT)) (wF:=wF) (m:=q.r.length) (T:=run q.al.t0B (q.al.upB a b c)) hna';unfold rowE at h;rw [hwa] at h;exact h)) rfl rfl rfl rfl rfl rfl (fun _=>by show bl _ (List.take 1 _)=_;rw [bB cU (cell_at hnb'),show run q.al.t0B (q.al.upB a b c) ((nx k (q.l.length-a) (q.r.length-b)).1,(nx k (q.l.length-a) (q.r.length-b)).2)=some u from hu];rfl) rfl rfl ?_
    refine D.ae ?_
    refine D.aU (fun _=>ee _ (hT.mono mup) u (q.cost k (q.l.length-a) (q.r.length-b)) 1 (by decide) (by decide) quq qc) rfl rfl rfl rfl rfl rfl rfl rfl rfl ?_
    refine D.call (improve_fn _ (hT.mono mup) (.slice (some ⟨bT,0,none⟩) (q.l.length+1) cT) wF q.l.length q.r.length (q.l.length-a) (q.r.length-b) (run q.al.t0B (q.al.upB a b c)) (u+q.cost k (q.l.length-a) (q.r.length-b)) hw om_ om_ hil hjl qs (fun y hy=>by have h:=Al.qbB ok.small (Al.upB_mem (A:=q.al) (c:=c) hal hbl) hy;exact h.1.qb2 (by have:=h.2;grind) (by have:=h.2;grind))) rfl (.inr (by decide)) rfl rfl rfl rfl rfl rfl List.perm_append_comm fl_ (fun v67 C67 L67 hle67 hq67=>?_)
    obtain ⟨rfl,rfl⟩:=hq67
    refine D.done [] trivial (hR _ _ _ rfl ?_)
    refine G.perm (L':=Ds.map ce++tabE (.slice (some ⟨bT,0,none⟩) (q.l.length+1) cT) wF q.l.length q.r.length (run q.al.t0B (q.al.upB a b (c+1)))) (by rw [Al.upB_step (A:=q.al) hk hu];exact List.perm_append_comm) ?_
    exact G.eI rfl
   ·intro D0 L' hI
    subst hI
    refine G.rg fun R hR=>?_
    refine D.aa (bkT hb5 1) ?_
    refine D.e4 1 3 4 68 hR ?_
    refine G.rg fun R hR=>?_
    refine D.aj (fun b5'=>?_)
    refine D.ac (j:=0) ?_
    refine D.e4 1 3 4 5 hR ?_
    refine G.rg fun R hR=>?_
    refine D.ag (.head _) ?_
    refine D.ax _ ?_
    refine D.ac (j:=0) ?_
    refine D.e4 1 3 4 5 hR ?_
    refine G.eB (dd:=(D0::Ds).map d4) (m':=q.r.length+1-(b+1)) om_ mup (h_4 1 3 4 5) ⟨b+1,D0::Ds,b5',⟨by omega,.inr (by simp)⟩,rfl,rfl, ?_,rfl⟩
    have e:((q.r.length:Nat):Int)-((b+1:Nat):Int)=((q.r.length-b:Nat):Int)-1:=by omega
    have el:(de q (q.l.length-a) (q.r.length-b)).length=(q.al.kinds (q.al.n-a) (q.al.m-b)).length:=by simp [de];rfl
    have et:tbB q.al a (b+1)=run q.al.t0B (q.al.upB a b (de q (q.l.length-a) (q.r.length-b)).length):=by unfold tbB;rw [if_neg om_,el,Al.upB_end]
    rw [e,et];rfl
  ·obtain rfl:b=q.r.length+1:=by have:=of_decide_eq_false h23;omega
   refine G.rg fun R hR=>?_
   refine D.aa (bkT hb4 1) ?_
   refine D.e3 1 3 69 hR ?_
   refine G.rg fun R hR=>?_
   refine D.aj (fun b4'=>?_)
   refine D.ac (j:=0) ?_
   refine D.e3 1 3 4 hR ?_
   refine G.rg fun R hR=>?_
   refine D.ag (.head _) ?_
   refine D.ax _ ?_
   refine D.ac (j:=0) ?_
   refine D.e3 1 3 4 hR ?_
   refine G.eH 1 rfl ?_
   have hne:Ds≠[]:=hDs'.elim (fun h=>absurd h.2 om_) id
   refine G.eB (dd:=Ds.map d4) (m':=q.l.length+1-(a+1)) om_ mup (h_3 1 3 4) ⟨a+1,Ds,b4',⟨by omega,.inr hne⟩,rfl,rfl, ?_,rfl⟩
   have e:((q.l.length:Nat):Int)-((a+1:Nat):Int)=(i:Int)-1:=by omega
   rw [e,<- tbB_next];rfl
 ·obtain rfl:a=q.l.length+1:=by have:=of_decide_eq_false h16;omega
  have hne:Ds≠[]:=hDs.elim (fun h=>absurd h om_) id
  refine G.rg fun R hR=>?_
  refine D.aa (bkT hb3 1) ?_
  refine D.q1 1 2 hR ?_
  refine G.eH 0 rfl ?_
  exact G.aA (G.finMK (.inl rfl) (res_tmp1 rfl rfl) ⟨wF,hw,⟨bT,cT,rfl⟩,by rw [<- tbB_end];rfl⟩ hne)

theorem right_txt {z:Int}(h:(decS z.natAbs).length<=200):a6 (txt z)=true:=by
 refine dT.2 ?_
 rw [bJ]
 refine ⟨eg.2 ⟨(aV _).1,h⟩,fun hz=>?_⟩
 have h1:=of_decide_eq_true hz
 show 0<decV (decS z.natAbs)
 rw [(aV _).2]
 omega
theorem decZ_txt (z:Int):decZ (txt z)=z:=by
 unfold decZ
 rw [bJ]
 show sgZ (decide (z<0)) (decV (decS z.natAbs))=z
 rw [(aV _).2]
 unfold sgZ
 by_cases h:z<0
 ·rw [decide_eq_true h,if_pos rfl];omega
 ·rw [decide_eq_false h,if_neg (by decide)];omega
theorem ratOk_qtx {q:Rat}(h:QB 22 q):dW (qtx q)=true:=by
 have h1:(decS q.num.natAbs).length<=200:=by have:=bd h.1 (by decide);omega
 have h2:(decS q.den).length<=200:=by have:=bd h.2 (by decide);omega
 unfold dW
 rw [cut1_qtx]
 show (a6 (txt q.num) && a6 ((denS q.den).getD [49]) && restOk (decZ (txt q.num)) (denS q.den))=true
 rw [den_get,decZ_txt,right_txt h1,<- txt_nat,right_txt (by rw [Int.natAbs_natCast];exact h2),Bool.true_and,Bool.true_and]
 by_cases hd:q.den=1
 ·rw [dens_one hd];rfl
 ·rw [dens_more hd]
  unfold restOk
  show (decide (1<decZ (decS q.den)) && !(q.num == 0) && (Nat.gcd q.num.natAbs (decZ (decS q.den)).natAbs == 1))=true
  have hz:decZ (decS q.den)=((q.den:Nat):Int):=by rw [<- txt_nat,decZ_txt]
  have hp:=pos_den q
  rw [hz,decide_eq_true om_,Int.natAbs_natCast,show Nat.gcd q.num.natAbs q.den=1 from q.reduced]
  have hn:q.num≠0:=by
   intro e
   have h3:=q.reduced
   rw [e] at h3
   have h4:Nat.gcd 0 q.den=1:=h3
   rw [Nat.gcd_zero_left] at h4
   exact hd h4
  simp [hn]
open Go Go.Jog Go.Jog.Dp
set_option maxRecDepth 100000

theorem chk1 {x:Rat}(h:QB 1 x):chkZ (dW (qtx x))=0:=by rw [ratOk_qtx (h.le (by decide))];rfl
theorem cright_fn (C:Mem)(hT:Tabs C)(x:Rat)(h:QB 1 x):Gives cx.P 24 [strV (qtx x)] C (.tuple #[strV (qtx x),.int .i64 0]):=by
 have hc:=fun D (hD:Tabs D)=>dV D hD (qtx x) (Nat.le_trans (bf h (by decide)) (by decide))
 rw [chk1 h] at hc
 refine Fn.it kr_ Tryz.func24 8 fun w0=>?_
 refine G.z1 2 0 ?_
 refine G.rp 1 fun R hR=>?_
 refine D.am (hc _ (hT.mono mup)) ?_
 refine D.q2 1 0 6 hR ?_
 refine G.cd (fun h6=>?_) fun h6=>?_
 ·exact absurd h6 (by decide)
 ·refine G.z2 3 2 3 ?_
  refine G.aA (G.dropAll (G.bg rfl rfl rfl ?_))
  exact ⟨rfl,rfl⟩
def encS' (x:Rat):List Value:=[strV (qtx x)]
theorem costs_fn (C:Mem)(vL vR:Value)(q:Qn):Pur cx.P 20 [.agg ⟨qC vL vR q⟩] C fun u D=>Sl D 1 u ([q.c0,q.c1,q.c2,q.c3].map encS'):=by
 refine Fn.it kr_ Tryz.func20 16 fun w0=>?_
 refine G.rg fun R hR=>?_
 refine D.aM (fun b1=>?_)
 refine D.q1 1 1 hR ?_
 refine G.freeze 0 rfl (fun C1 hle1 hb1=>?_)
 refine G.rp 2 fun R hR=>?_
 refine D.aa (bkT hb1 1) ?_
 refine D.ps 2 ?_
 refine D.aa (bkT hb1 1) ?_
 refine D.ps 2 ?_
 refine D.aa (bkT hb1 1) ?_
 refine D.ps 2 ?_
 refine D.aa (bkT hb1 1) ?_
 refine D.ah ([q.c0,q.c1,q.c2,q.c3].map encS') (fun p15 C15 hle15 hs15=>?_)
 refine D.q1 1 2 hR ?_
 refine G.rf ?_
 exact ⟨rfl,hs15⟩
open Go Go.Jog Go.Jog.Dp
set_option maxRecDepth 100000

structure LogOk (l:List Iv):Prop where
 i:∀ x∈l,x.Ok
 u:∀ x∈l,x.u.length<100/\(x.u=[]∨isNameB x.u=true)
 o:∀ i,i+1<l.length->(ivAt l i).b<=(ivAt l (i+1)).a
 n:l.length<=8
def endQ (l:List Iv):Nat->Rat
 | 0=>0
 | i+1=>(ivAt l i).b
theorem endV (l:List Iv):(Value.string ⟨#[48]⟩)=strV (qtx (endQ l 0)):=by show strV [48]=strV (qtx 0);rw [qtx00]
theorem log_fn (C:Mem)(hT:Tabs C)(v:Value)(l:List Iv)(hv:Sl C 3 v (l.map ivC))(ok:LogOk l):Gives cx.P 19 [v] C (.int .i64 0):=by
 obtain ⟨AL,cL,rfl,_,_,_⟩:=id hv
 have hln:=ok.n
 simp only [List.length_map] at hv ⊢
 refine Fn.it kr_ Tryz.func19 63 fun w0=>?_
 refine G.z1 1 0 ?_
 refine G.z2 3 0 8 ?_
 refine G.cd (fun h8=>?_) fun h8=>?_
 ·exact absurd (of_decide_eq_true h8) om_
 ·refine G.z2 1 0 3 ?_
  rw [endV l]
  refine G.z4 3 3 9 10 11 ?_
  refine G.loop (fun fr C' L' μ=>∃ (i:Nat),(i<=l.length)/\fr=[(3,[],strV (qtx (endQ l i))),(9,[],.slice AL l.length cL),(10,[],.int .i64 l.length),(11,[],.int .i64 i)]/\L'=[]/\μ=l.length-i) (h_4 3 9 10 11) ⟨0,Nat.zero_le _,rfl,rfl,rfl⟩ (fun fr C0' L0' m hle0 hI=>?_)
  obtain ⟨i,hi,rfl,rfl,rfl⟩:=hI
  refine G.z5 1 3 9 10 11 12 ?_
  refine G.cd (fun h12=>?_) fun h12=>?_
  ·have hil:i<l.length:=by have:=of_decide_eq_true h12;omega
   obtain ⟨x,hx⟩:∃ x,ivAt l i=x:=⟨_,rfl⟩
   have hmem:x∈l:=by rw [<- hx,db (List.getElem?_eq_getElem hil)];exact List.getElem_mem hil
   have hxo:=ok.i x hmem
   have hux:=ok.u x hmem
   have hca:=fun D (hD:Tabs D)=>dV D hD (qtx x.a) (Nat.le_trans (bf hxo.qa (by decide)) (by decide))
   have hcb:=fun D (hD:Tabs D)=>dV D hD (qtx x.b) (Nat.le_trans (bf hxo.qb (by decide)) (by decide))
   rw [chk1 hxo.qa] at hca
   rw [chk1 hxo.qb] at hcb
   have hiv:=bu hil
   rw [hx] at hiv
   have qe:QB 1 (endQ l i)/\endQ l i<=x.a:=by
    cases i with
    | zero=>exact ⟨(by show QB 1 (0:Rat);exact ⟨by decide,by decide⟩),hxo.a0⟩
    | succ k =>
     have h1:ivAt l k∈l:=by rw [db (List.getElem?_eq_getElem (show k<l.length by omega))];exact List.getElem_mem _
     exact ⟨(ok.i _ h1).qb,by rw [<- hx];exact ok.o k hil⟩
   refine G.rp 1 fun R hR=>?_
   refine D.ai (hv.mono mup) rfl rfl rfl rfl rfl rfl rfl rfl rfl rfl om_ hiv fl_ (fun p14 hp14=>?_)
   refine D.aa hp14 ?_
   refine D.aj (fun b5=>?_)
   refine D.ae ?_
   refine D.ac (j:=0) ?_
   refine D.e6 3 4 5 9 10 11 hR ?_
   refine G.freeze 0 rfl (fun C5 hle5 hb5=>?_)
   refine G.rp 1 fun R hR=>?_
   refine D.aa (bkT hb5 1) ?_
   refine D.ps 3 ?_
   refine D.aD rfl rfl rfl rfl rfl rfl (fun _=>PtrTo.blockT (Mem.get hb5 mup) _ 1) rfl rfl rfl ?_
   refine D.aU (fun _=>(isName_spec _ x.u om_)) rfl rfl rfl rfl rfl rfl rfl rfl rfl ?_
   refine D.ae ?_
   refine D.aC rfl rfl rfl rfl rfl rfl rfl rfl ?_
   refine D.q7 1 3 4 5 9 10 11 16 hR ?_
   refine G.cd (fun h16=>?_) fun h16=>?_
   ·exact absurd h16 (by rcases hux.2 with e | e <;> simp [e])
   ·refine G.rp 1 fun R hR=>?_
    refine D.aa (bkT hb5 1) ?_
    refine D.am (hca _ (hT.mono mup)) ?_
    refine D.ps 3 ?_
    refine D.aD rfl rfl rfl rfl rfl rfl (fun _=>PtrTo.blockT (Mem.get hb5 mup) _ 1) rfl rfl rfl ?_
    refine D.aP (fun _=>(hcb _ (hT.mono mup))) ?_
    refine D.ae ?_
    refine D.ar ?_
    refine D.q7 1 3 4 5 9 10 11 26 hR ?_
    refine G.cd (fun h26=>?_) fun h26=>?_
    ·exact absurd h26 (by decide)
    ·refine G.rp 1 fun R hR=>?_
     refine D.aa (bkT hb5 1) ?_
     refine D.au (rsign_fn _ x.a (Nat.le_trans (bf hxo.qa (by decide)) (by decide))) rfl rfl rfl rfl rfl rfl rfl fl_ ?_
     refine D.q7 2 3 4 5 9 10 11 37 hR ?_
     refine G.cd (fun h37=>?_) fun h37=>?_
     ·exact absurd h37 (by have h0:0<=x.a.num:=Rat.num_nonneg.2 hxo.a0;unfold sgnZ;simp;split <;> omega)
     ·refine G.rp 1 fun R hR=>?_
      refine D.aa (bkT hb5 1) ?_
      refine D.ae ?_
      refine D.aa (bkT hb5 1) ?_
      refine D.au (ed _ (hT.mono mup) x.b x.a 1 (by decide) (by decide) hxo.qb hxo.qa) rfl rfl rfl rfl rfl rfl rfl fl_ ?_
      refine D.ps 6 ?_
      refine D.aD rfl rfl rfl rfl rfl rfl (fun _=>PtrTo.blockT (Mem.get hb5 mup) _ 1) rfl rfl rfl ?_
      refine D.ae ?_
      refine D.aU (fun _=>(ed _ (hT.mono mup) x.a (endQ l i) 1 (by decide) (by decide) hxo.qa qe.1)) rfl rfl rfl rfl rfl rfl rfl rfl rfl ?_
      refine D.ae ?_
      refine D.aC rfl rfl rfl rfl rfl rfl rfl rfl ?_
      refine D.ar ?_
      refine D.q5 1 5 9 10 11 42 hR ?_
      refine G.cd (fun h42=>?_) fun h42=>?_
      ·exact absurd h42 (by
        have e1:decide (cmpQ x.a (endQ l i)<0)=false:=by rw [cmpQ_lt0];exact decide_eq_false (by have:=qe.2;grind)
        have e2:decide (cmpQ x.b x.a<=0)=false:=by
         have:=hxo.ab
         unfold cmpQ
         rw [if_neg (by grind),if_pos this];decide
        rw [e1,e2];simp)
      ·refine G.rp 1 fun R hR=>?_
       refine D.aa (bkT hb5 1) ?_
       refine D.q4 1 3 9 10 11 hR ?_
       subst hx
       refine G.rg fun R hR=>?_
       refine D.ax _ ?_
       refine D.q4 1 3 9 10 11 hR ?_
       refine G.aB (m':=l.length-(i+1)) om_ mup (h_4 3 9 10 11) ⟨i+1,by omega,rfl,rfl,rfl⟩
  ·refine G.z1 1 2 ?_
   refine G.rf ?_
   exact ⟨rfl,rfl⟩
open Go Go.Jog Go.Jog.Dp
set_option maxRecDepth 100000

structure QOk (q:Qn):Prop where
 ok:q.Ok
 l:LogOk q.l
 r:LogOk q.r
theorem cost_at {q:Qn}(ok:q.Ok){j:Nat}(h:j<4):∃ c,([q.c0,q.c1,q.c2,q.c3].map encS')[((j:Nat):Int).toNat]?=some [strV (qtx c)]/\Cost c:=by
 rcases (by omega:j=0∨j=1∨j=2∨j=3) with rfl | rfl | rfl | rfl
 ·exact ⟨q.c0,rfl,ok.c0⟩
 ·exact ⟨q.c1,rfl,ok.c1⟩
 ·exact ⟨q.c2,rfl,ok.c2⟩
 ·exact ⟨q.c3,rfl,ok.c3⟩
theorem qcheck_fn (C:Mem)(hT:Tabs C)(vL vR:Value)(q:Qn)(hq:QIn C vL vR q)(ok:QOk q):Gives cx.P 6 [.agg ⟨qC vL vR q⟩] C (.int .i64 0):=by
 obtain ⟨AL,cL,rfl,_,_,_⟩:=id hq.l
 obtain ⟨AR,cR,rfl,_,_,_⟩:=id hq.r
 simp only [List.length_map] at hq ⊢
 have hln:=ok.ok.ln
 have hrn:=ok.ok.rn
 refine Fn.it kr_ Tryz.func6 58 fun w0=>?_
 refine G.rg fun R hR=>?_
 refine D.aM (fun b1=>?_)
 refine D.q1 1 1 hR ?_
 refine G.freeze 0 rfl (fun C1 hle1 hb1=>?_)
 refine G.rp 1 fun R hR=>?_
 refine D.aa (bkT hb1 1) ?_
 refine D.ae ?_
 refine D.aa (bkT hb1 1) ?_
 refine D.ah [[.slice AL q.l.length cL],[.slice AR q.r.length cR]] (fun p14 C14 hle14 hs14=>?_)
 obtain ⟨A14,c14,rfl,_⟩:=id hs14
 simp only [List.length_cons,List.length_nil] at hs14 ⊢
 refine D.q4 2 1 14 15 16 hR ?_
 refine G.loop (fun fr C' L' μ=>∃ (i:Nat),(i<=2)/\fr=[(1,[],.pointer (some ⟨b1,0,none⟩)),(14,[],.slice A14 2 c14),(15,[],.int .i64 2),(16,[],.int .i64 i)]/\L'=[]/\μ=2-i) (h_4 1 14 15 16) ⟨0,Nat.zero_le _,rfl,rfl,rfl⟩ (fun fr C0' L0' m hle0 hI=>?_)
 obtain ⟨i,hi,rfl,rfl,rfl⟩:=hI
 refine G.z5 1 1 14 15 16 17 ?_
 refine G.cd (fun h17=>?_) fun h17=>?_
 ·have hil:i<2:=by have:=of_decide_eq_true h17;omega
  obtain ⟨w,lw,hw1,hw2,hw3⟩:∃ w lw,([[Value.slice AL q.l.length cL],[Value.slice AR q.r.length cR]]:List (List Value))[((i:Nat):Int).toNat]?=some [w]/\Sl C 3 w (List.map ivC lw)/\LogOk lw:=by
   rcases (by omega:i=0∨i=1) with rfl | rfl
   ·exact ⟨_,q.l,rfl,hq.l,ok.l⟩
   ·exact ⟨_,q.r,rfl,hq.r,ok.r⟩
  refine G.rg fun R hR=>?_
  refine D.ai (hs14.mono mup) rfl rfl rfl rfl rfl rfl rfl rfl rfl rfl om_ hw1 fl_ (fun p18 hp18=>?_)
  refine D.aa hp18 ?_
  refine D.q5 1 1 4 14 15 16 hR ?_
  refine G.rp 1 fun R hR=>?_
  refine D.am (log_fn _ (hT.mono mup) w lw (hw2.mono mup) hw3) ?_
  refine D.q5 1 1 5 14 15 16 hR ?_
  refine G.z6 2 1 5 14 15 16 23 ?_
  refine G.cd (fun h23=>?_) fun h23=>?_
  ·exact absurd h23 (by decide)
  ·refine G.rg fun R hR=>?_
   refine D.ax _ ?_
   refine D.q4 1 1 14 15 16 hR ?_
   refine G.aB (m':=2-(i+1)) om_ hle0 (h_4 1 14 15 16) ⟨i+1,by omega,rfl,rfl,rfl⟩
 ·refine G.rp 1 fun R hR=>?_
  refine D.aa (bkT hb1 1) ?_
  refine D.ps 4 ?_
  refine D.aD rfl rfl rfl rfl rfl rfl (fun _=>PtrTo.blockT (Mem.get hb1 mup) _ 1) rfl rfl rfl ?_
  refine D.ps 2 ?_
  refine D.ar ?_
  refine D.e2 1 35 hR ?_
  refine G.cd (fun h35=>?_) fun h35=>?_
  ·exact absurd h35 (by rw [decide_eq_false om_,decide_eq_false om_];decide)
  ·refine G.rg fun R hR=>?_
   refine D.aa (bkT hb1 6) ?_
   refine D.aJ (costs_fn _ _ _ q) (fun v37 C37 hle37 hq37=>?_)
   obtain ⟨A37,c37,rfl,_⟩:=id hq37
   simp only [List.length_map,List.length_cons,List.length_nil] at hq37 ⊢
   refine D.q4 2 1 37 38 39 hR ?_
   refine G.loop (fun fr C' L' μ=>∃ (j:Nat),(j<=4)/\fr=[(1,[],.pointer (some ⟨b1,0,none⟩)),(37,[],.slice A37 4 c37),(38,[],.int .i64 4),(39,[],.int .i64 j)]/\L'=[]/\μ=4-j) (h_4 1 37 38 39) ⟨0,Nat.zero_le _,rfl,rfl,rfl⟩ (fun fr C1' L1' m hle1 hI=>?_)
   obtain ⟨j,hj,rfl,rfl,rfl⟩:=hI
   refine G.z5 1 1 37 38 39 40 ?_
   refine G.cd (fun h40=>?_) fun h40=>?_
   ·have hjl:j<4:=by have:=of_decide_eq_true h40;omega
    obtain ⟨c,hcj,hcc⟩:=cost_at ok.ok hjl
    have hch:=fun D (hD:Tabs D)=>dV D hD (qtx c) (Nat.le_trans (bf hcc.qb (by decide)) (by decide))
    rw [chk1 hcc.qb] at hch
    refine G.rg fun R hR=>?_
    refine D.ai (hq37.mono mup) rfl rfl rfl rfl rfl rfl rfl rfl rfl rfl om_ hcj fl_ (fun p41 hp41=>?_)
    refine D.aa hp41 ?_
    refine D.q5 1 1 7 37 38 39 hR ?_
    refine G.rp 1 fun R hR=>?_
    refine D.am (hch _ (hT.mono mup)) ?_
    refine D.q5 1 1 37 38 39 45 hR ?_
    refine G.cd (fun h45=>?_) fun h45=>?_
    ·exact absurd h45 (by decide)
    ·refine G.rg fun R hR=>?_
     refine D.ax _ ?_
     refine D.q4 1 1 37 38 39 hR ?_
     refine G.aB (m':=4-(j+1)) om_ hle1 (h_4 1 37 38 39) ⟨j+1,by omega,rfl,rfl,rfl⟩
   ·refine G.rg fun R hR=>?_
    refine D.aa (bkT hb1 6) ?_
    refine D.aJ (costs_fn _ _ _ q) (fun v48 C48 hle48 hq48=>?_)
    obtain ⟨A48,c48,rfl,_⟩:=id hq48
    simp only [List.length_map,List.length_cons,List.length_nil] at hq48 ⊢
    refine D.q3 2 48 49 50 hR ?_
    refine G.loop (fun fr C' L' μ=>∃ (j:Nat),(j<=4)/\fr=[(48,[],.slice A48 4 c48),(49,[],.int .i64 4),(50,[],.int .i64 j)]/\L'=[]/\μ=4-j) (h_3 48 49 50) ⟨0,Nat.zero_le _,rfl,rfl,rfl⟩ (fun fr C2' L2' m hle2 hI=>?_)
    obtain ⟨j,hj,rfl,rfl,rfl⟩:=hI
    refine G.z4 1 48 49 50 51 ?_
    refine G.cd (fun h51=>?_) fun h51=>?_
    ·have hjl:j<4:=by have:=of_decide_eq_true h51;omega
     obtain ⟨c,hcj,hcc⟩:=cost_at ok.ok hjl
     have hch:=fun D (hD:Tabs D)=>dV D hD (qtx c) (Nat.le_trans (bf hcc.qb (by decide)) (by decide))
     rw [chk1 hcc.qb] at hch
     refine G.rg fun R hR=>?_
     refine D.ai (hq48.mono mup) rfl rfl rfl rfl rfl rfl rfl rfl rfl rfl om_ hcj fl_ (fun p52 hp52=>?_)
     refine D.aa hp52 ?_
     refine D.q4 1 9 48 49 50 hR ?_
     refine G.rp 1 fun R hR=>?_
     refine D.au (rsign_fn _ c (Nat.le_trans (bf hcc.qb (by decide)) (by decide))) rfl rfl rfl rfl rfl rfl rfl fl_ ?_
     refine D.q4 1 48 49 50 56 hR ?_
     refine G.cd (fun h56=>?_) fun h56=>?_
     ·exact absurd h56 (by have h0:0<=c.num:=Rat.num_nonneg.2 hcc.p;unfold sgnZ;simp;split <;> omega)
     ·refine G.rg fun R hR=>?_
      refine D.ax _ ?_
      refine D.q3 1 48 49 50 hR ?_
      refine G.aB (m':=4-(j+1)) om_ hle2 (h_3 48 49 50) ⟨j+1,by omega,rfl,rfl,rfl⟩
    ·refine G.z1 1 2 ?_
     refine G.rf ?_
     exact ⟨rfl,rfl⟩
end Go.Proofs.YtjhmlnebikbdbaaGreatDoor
namespace Go.Jog
open Go

theorem G.rowAny {F:Fx}{k:List KI}{fr:Fr}{C:Mem}{L:List Ent}{e:Exit}(j:Nat){v:Value}{t s m:Nat}{xs:List Value}(hj:L[j]?=some (.arr v t s m xs))
  (h:∀ A c,v=.slice A m c->(0<m->A=some ⟨(A.getD ⟨0,0,none⟩).block,0,none⟩)->m<=c->c<=maxLen->G F k e fr C L):G F k e fr C L:=fun h0 a w ha hw=>by
 have hw':=St.perm hw (af hj)
 have hown:w.ownsRow 0 t s v m xs:=hw'.sep.e _ (List.mem_cons_self ..)
 rcases hown.2 with ⟨h1,h2⟩ | ⟨g,cap,cur,h1,_,_,h3,h4,_⟩
 ·subst h2;exact h _ _ h1 (fun h=>absurd h om_) om_ (Nat.zero_le _) h0 a w ha hw
 ·exact h _ _ h1 fl_ h3 h4 h0 a w ha hw
theorem G.ey {F:Fx}{k:List KI}{fr:Fr}{e:Exit}:∀ (ls:List Lent){C:Mem}{L2:List Ent},(∀ x∈ls,x.wf)->(∀ C',C.le C'->(∀ x∈ls,x.seen C')->G F k e fr C' L2)->G F k e fr C (ls.map Lent.ent++L2)
 | [],C,_,_,h=>h C (Mem.le.refl C) fun x hx=>by cases hx
 | .obj b cs t::ls,C,L2,hw,h=>by
  refine G.freeze 0 rfl fun C1 h1 hb=>?_
  refine G.ey ls (fun x hx=>hw x (List.mem_cons_of_mem _ hx)) fun C2 h2 hs=>h C2 (h1.trans h2) fun x hx=>?_
  rcases List.mem_cons.1 hx with rfl | hx
  ·exact h2 _ _ hb
  ·exact hs x hx
 | .arr v m s t rows::ls,C,L2,hw,h=>by
  have hw0:=hw _ List.mem_cons_self
  refine G.freezeArr 0 rows rfl rfl hw0.2 hw0.1 fun C1 h1 hb=>?_
  refine G.ey ls (fun x hx=>hw x (List.mem_cons_of_mem _ hx)) fun C2 h2 hs=>h C2 (h1.trans h2) fun x hx=>?_
  rcases List.mem_cons.1 hx with rfl | hx
  ·exact Sl.mono hb h2
  ·exact hs x hx
section
variable {cx:Cx} {n:Nat} {ds:List (Option Nat)} {R:Rg n ds} {its:List It} {fr:Fr} {C:Mem} {L:List Ent} {i k d:Nat} {o:Oper} {g:GL} {v:Value}
end
end Go.Jog
namespace Go.Proofs.YtjhmlnebikbdbaaGreatDoor
open Go Go.Jog Go.Jog.Dp
set_option maxRecDepth 100000

def tabN (vT:Value)(wF:Nat->Value)(n m:Nat)(T:Tb):List Lent :=
 .arr vT (n+1) 1 48 (((List.range (n+1)).map wF).map fun w=>[w])::(List.range (n+1)).map fun i=>.arr (wF i) (m+1) 1 26 ((rowT m T i).map encO)
theorem tabN_ent (vT:Value)(wF:Nat->Value)(n m:Nat)(T:Tb):(tabN vT wF n m T).map Lent.ent=tabE vT wF n m T:=by
 unfold tabN tabE
 rw [List.map_cons]
 congr 1
 rw [List.map_map]
 exact List.map_congr_left fun i _=>rfl
theorem tabN_wf {vT:Value}{wF:Nat->Value}{n m:Nat}{T:Tb}:∀ x∈tabN vT wF n m T,x.wf:=by
 intro x hx
 unfold tabN at hx
 rcases List.mem_cons.1 hx with rfl | hx
 ·exact ⟨by simp,fun r hr=>by obtain ⟨w,_,rfl⟩:=List.mem_map.1 hr;rfl⟩
 ·obtain ⟨i,_,rfl⟩:=List.mem_map.1 hx
  exact ⟨by simp [rowT],fun r hr=>by obtain ⟨w,_,rfl⟩:=List.mem_map.1 hr;rfl⟩
theorem tabN_seen {C:Mem}{vT:Value}{wF:Nat->Value}{n m:Nat}{T:Tb}{f:Nat->Nat->Rat}(hf:∀ i j,i<=n->j<=m->T (i,j)=some (f i j))(h:∀ x∈tabN vT wF n m T,x.seen C):TabR C vT n m f:=by
 refine ⟨(List.range (n+1)).map wF,h _ (List.mem_cons_self ..),by simp,fun i w e=>?_⟩
 have hi:i<n+1:=by have:=(List.getElem?_eq_some_iff.1 e).1;simpa using this
 rw [List.getElem?_map,List.getElem?_range hi] at e
 cases e
 have h1:Sl C 1 (wF i) ((rowT m T i).map encO):=h _ (List.mem_cons_of_mem _ (List.mem_map.2 ⟨i,List.mem_range.2 hi,rfl⟩))
 have h2:(rowT m T i).map encO=d5 f m i:=by
  unfold rowT d5
  rw [List.map_map]
  refine List.map_congr_left fun j hj=>?_
  rw [List.mem_range] at hj
  show [cellV (T (i,j))]=_
  rw [hf i j om_ om_];rfl
 rw [<- h2];exact h1
theorem G.fe {F:Fx}{k:List KI}{fr:Fr}{C:Mem}{vT:Value}{wF:Nat->Value}{n m:Nat}{T:Tb}{f:Nat->Nat->Rat}{L2:List Ent}(hf:∀ i j,i<=n->j<=m->T (i,j)=some (f i j))
  (h:∀ C',C.le C'->TabR C' vT n m f->G F k .normal fr C' L2):G F k .normal fr C (tabE vT wF n m T++L2):=by
 rw [<- tabN_ent]
 exact G.ey _ tabN_wf fun C' hle hs=>h C' hle (tabN_seen hf hs)
open Go Go.Jog Go.Jog.Dp
set_option maxRecDepth 100000

theorem cpotentials_fn (C:Mem)(hT:Tabs C)(vL vR:Value)(q:Qn)(hq:QIn C vL vR q)(ok:QOk q):Pur cx.P 8 [.agg ⟨qC vL vR q⟩] C fun u D=>∃ bT cT,u=.tuple #[.slice (some ⟨bT,0,none⟩) (q.l.length+1) cT,.int .i64 0]/\TabR D (.slice (some ⟨bT,0,none⟩) (q.l.length+1) cT) q.l.length q.r.length (fun i j=>q.al.pv (i,j)):=by
 have hln:=ok.ok.ln
 have hrn:=ok.ok.rn
 refine Fn.it kr_ Tryz.func8 42 fun w0=>?_
 refine G.rg fun R hR=>?_
 refine D.aM (fun b1=>?_)
 refine D.q1 2 1 hR ?_
 refine G.freeze 0 rfl (fun C1 hle1 hb1=>?_)
 refine G.rg fun R hR=>?_
 refine D.aa (bkT hb1 6) ?_
 refine D.am (qcheck_fn _ (hT.mono mup) vL vR q (hq.mono mup) ok) ?_
 refine D.q2 1 1 4 hR ?_
 refine G.z3 2 1 4 15 ?_
 refine G.cd (fun h15=>?_) fun h15=>?_
 ·exact absurd h15 (by decide)
 ·refine G.aS [(1,3)] rfl (fun R hR=>?_)
  refine D.aa (bkT hb1 6) ?_
  refine D.call (potentials_fn _ (hT.mono mup) vL vR q (hq.mono mup) ok.ok) rfl (.inr (by decide)) rfl rfl rfl rfl rfl rfl (List.Perm.refl _) fl_ (fun v18 C18 L18 hle18 hq18=>?_)
  obtain ⟨wF,hw,⟨bT,cT,rfl⟩,rfl⟩:=hq18
  refine D.q1 1 5 hR ?_
  refine G.fe (L2:=[]) (f:=fun i j=>q.al.pv (i,j)) (fun i j hi hj=>Al.pot_some hi hj) (fun C5 hle5 hR5=>?_)
  obtain ⟨ws,hws,hwl,hwr⟩:=id hR5.ex
  refine G.z4 3 5 19 20 21 ?_
  refine G.loop (fun fr C' L' μ=>∃ (i:Nat),(i<=q.l.length+1)/\fr=[(5,[],.slice (some ⟨bT,0,none⟩) (q.l.length+1) cT),(19,[],.slice (some ⟨bT,0,none⟩) (q.l.length+1) cT),(20,[],.int .i64 (q.l.length+1:Nat)),(21,[],.int .i64 i)]/\L'=[]/\μ=q.l.length+1-i) (h_4 5 19 20 21) ⟨0,Nat.zero_le _,rfl,rfl,rfl⟩ (fun fr C0' L0' m hle0 hI=>?_)
  obtain ⟨i,hi,rfl,rfl,rfl⟩:=hI
  refine G.z5 1 5 19 20 21 22 ?_
  refine G.cd (fun h22=>?_) fun h22=>?_
  ·have hil:i<=q.l.length:=by have:=of_decide_eq_true h22;omega
   obtain ⟨wi,hwi,hwi2⟩:=ws_at hwl hil
   have hwr':=hwr _ _ hwi
   obtain ⟨Ai,ci,rfl,_⟩:=id hwr'
   have hcl:(d5 (fun i j=>q.al.pv (i,j)) q.r.length i).length=q.r.length+1:=by simp [d5]
   rw [hcl] at hwi2 hwr'
   refine G.rg fun R hR=>?_
   refine D.ai (hws.mono mup) rfl rfl rfl rfl rfl rfl rfl rfl rfl rfl om_ hwi2 fl_ (fun p23 hp23=>?_)
   refine D.aa hp23 ?_
   refine D.q5 1 5 7 19 20 21 hR ?_
   refine G.z7 3 5 19 20 21 25 26 27 ?_
   refine G.loop (fun fr C' L' μ=>∃ (j:Nat),(j<=q.r.length+1)/\fr=[(5,[],.slice (some ⟨bT,0,none⟩) (q.l.length+1) cT),(19,[],.slice (some ⟨bT,0,none⟩) (q.l.length+1) cT),(20,[],.int .i64 (q.l.length+1:Nat)),(21,[],.int .i64 i),(25,[],.slice Ai (q.r.length+1) ci),(26,[],.int .i64 (q.r.length+1:Nat)),(27,[],.int .i64 j)]/\L'=[]/\μ=q.r.length+1-j) (h_7 5 19 20 21 25 26 27) ⟨0,Nat.zero_le _,rfl,rfl,rfl⟩ (fun fr C1' L1' m hle1 hI=>?_)
   obtain ⟨j,hj,rfl,rfl,rfl⟩:=hI
   refine G.z8 1 5 19 20 21 25 26 27 28 ?_
   refine G.cd (fun h28=>?_) fun h28=>?_
   ·have hjl:j<=q.r.length:=by have:=of_decide_eq_true h28;omega
    have qp:=Al.qb_pv (A:=q.al) ok.ok.small hil hjl
    have qpb:QB 1 (q.al.pv (i,j)):=qp.1.qb2 (by have:=qp.2;grind) (by have:=qp.2;grind)
    refine G.rg fun R hR=>?_
    refine D.ai (hwr'.mono mup) rfl rfl rfl rfl rfl rfl rfl rfl rfl rfl om_ (bS hjl) fl_ (fun p29 hp29=>?_)
    refine D.aa hp29 ?_
    refine D.q8 1 5 9 19 20 21 25 26 27 hR ?_
    refine G.rp 1 fun R hR=>?_
    refine D.am (cright_fn _ (hT.mono mup) _ qpb) ?_
    refine D.q8 5 5 11 19 20 21 25 26 27 hR ?_
    refine G.z9 2 5 11 19 20 21 25 26 27 37 ?_
    refine G.cd (fun h37=>?_) fun h37=>?_
    ·exact absurd h37 (by decide)
    ·refine G.rg fun R hR=>?_
     refine D.ax _ ?_
     refine D.q7 1 5 19 20 21 25 26 27 hR ?_
     refine G.aB (m':=q.r.length+1-(j+1)) om_ hle1 (h_7 5 19 20 21 25 26 27) ⟨j+1,by omega,rfl,rfl,rfl⟩
   ·refine G.rg fun R hR=>?_
    refine D.ax _ ?_
    refine D.q4 1 5 19 20 21 hR ?_
    refine G.aB (m':=q.l.length+1-(i+1)) om_ mup (h_4 5 19 20 21) ⟨i+1,by omega,rfl,rfl,rfl⟩
  ·refine G.z2 3 2 3 ?_
   refine G.aA (G.dropAll (G.bg rfl rfl rfl ?_))
   exact ⟨rfl,_,_,rfl,hR5.mono mup⟩
open Go Go.Jog Go.Jog.Dp
set_option maxRecDepth 100000

def ivU (x:Iv):List Value:=[strV x.u]
theorem krepeats_fn (C:Mem)(vU vK:Value)(l:List Iv)(i:Nat)(hs:Sl C 1 vU (l.map ivU))(hl:l.length<=1000)(hi:i<l.length):Gives cx.P 71 [.agg ⟨[vU,vK]⟩,.int .i64 i] C (.bool (repB l i)):=by
 have hx1:(l.map ivU)[i]?=some (ivU (ivAt l i)):=by rw [List.getElem?_map,List.getElem?_eq_getElem hi,db (List.getElem?_eq_getElem hi)];rfl
 have hx0:0<i->(l.map ivU)[i-1]?=some (ivU (ivAt l (i-1))):=fun h=>by rw [List.getElem?_map,List.getElem?_eq_getElem (show i-1<l.length by omega),db (List.getElem?_eq_getElem (show i-1<l.length by omega))];rfl
 refine Fn.it kr_ Tryz.func71 21 fun w0=>?_
 refine G.rg fun R hR=>?_
 refine D.aM (fun b2=>?_)
 refine D.q2 1 1 2 hR ?_
 refine G.freeze 0 rfl (fun C2 hle2 hb2=>?_)
 refine G.aI [0,1,2,3,4,5,6,7,8,9,10,11,12,13,14,15,16] [] rfl kr_ (fun R hB hR=>?_)
 refine D.ps 4 ?_
 refine D.aD rfl rfl rfl rfl rfl rfl (fun _=>PtrTo.blockT (Mem.get hb2 mup) _ 1) rfl rfl rfl ?_
 refine D.ae ?_
 refine D.index rfl rfl rfl rfl rfl rfl rfl rfl rfl rfl (fun hg=>⟨(hs.mono mup),by omega,by rw [Int.toNat_natCast];exact hx1⟩) fl_ rfl (fun p11 hp11=>?_)
 refine D.aD rfl rfl rfl rfl rfl rfl hp11 rfl rfl rfl ?_
 refine D.ae ?_
 refine D.aD rfl rfl rfl rfl rfl rfl (fun _=>PtrTo.blockT (Mem.get hb2 mup) _ 1) rfl rfl rfl ?_
 refine D.ae ?_
 refine D.ax _ ?_
 refine D.index rfl rfl rfl rfl rfl rfl rfl rfl rfl rfl (fun hg=>⟨(hs.mono mup),(by have h:decide ((0:Int)<(i:Int))=true:=hg.1;have h2:=of_decide_eq_true h;omega),(by have h:decide ((0:Int)<(i:Int))=true:=hg.1;have h2:=of_decide_eq_true h;rw [show ((i:Int)-1).toNat=i-1 by omega];exact hx0 om_)⟩) fl_ rfl (fun p17 hp17=>?_)
 refine D.aD rfl rfl rfl rfl rfl rfl hp17 rfl rfl rfl ?_
 refine D.ae ?_
 refine D.aC rfl rfl rfl rfl rfl rfl rfl rfl ?_
 refine D.q1 1 4 hR ?_
 refine G.rf ?_
 refine ⟨?_,rfl⟩
 unfold repB
 congr 2
 ·exact decide_eq_decide.2 om_
 ·simp only [Bool.beq_eq_decide_eq]
  exact decide_eq_decide.2 ⟨fun h=>h.symm,fun h=>h.symm⟩
end Go.Proofs.YtjhmlnebikbdbaaGreatDoor
namespace Go.Jog
namespace Dp

structure Al.Sum (A:Al)(s:Rat)(i j:Nat):Prop where
 hi:i<=A.n
 hj:j<=A.m
 q:Qu s
 z:0<=s
 h:s<=hgtF (i,j)
theorem Al.Sum.start (A:Al):A.Sum 0 0 0:=⟨Nat.zero_le _,Nat.zero_le _,⟨0,by decide +kernel⟩,by decide,by decide +kernel⟩
theorem Al.Sum.le {A:Al}{s:Rat}{i j:Nat}(h:A.Sum s i j)(hs:A.Small):s<=1600:=by
 have h1:=h.h
 unfold hgtF at h1
 have h2:((i+j:Nat):Rat)<=((16:Nat):Rat):=dp (by have:=h.hi;have:=h.hj;have:=hs.n;have:=hs.m;omega)
 have h3:((16:Nat):Rat)=16:=rfl
 grind
theorem Al.Sum.qb {A:Al}{s:Rat}{i j:Nat}(h:A.Sum s i j)(hs:A.Small):QB 1 s:=h.q.qb h.z (by have:=h.le hs;grind)
theorem Al.Sum.step {A:Al}{s:Rat}{i j k:Nat}(h:A.Sum s i j)(hs:A.Small)(hk:A.ok k i j=true):A.Sum (s+A.co k i j) (nx k i j).1 (nx k i j).2:=by
 obtain ⟨⟨ha,hb⟩,hc⟩:=Al.ok_nx h.hi h.hj hk
 obtain ⟨c1,c2,c3⟩:=hs.q hk
 refine ⟨ha,hb,h.q.add c1,by have:=h.z;grind, ?_⟩
 have h1:=h.h
 unfold hgtF at h1 ⊢
 have h2:((i+j+1:Nat):Rat)<=(((nx k i j).1+(nx k i j).2:Nat):Rat):=dp om_
 have h3:((i+j+1:Nat):Rat)=((i+j:Nat):Rat)+1:=by rw [Rat.natCast_add];rfl
 grind
theorem Al.totF_get {A:Al}{st:List (Nat × Nat × Nat)}{c k a b:Nat}(h:st[c]?=some (k,a,b))(s:Rat)(i j:Nat) :
  A.totF s i j (st.drop c)=if a=i/\b=j/\A.ok k i j=true then A.totF (s+A.co k i j) (nx k i j).1 (nx k i j).2 (st.drop (c+1)) else none:=by
 obtain ⟨h1,h2⟩:=List.getElem?_eq_some_iff.1 h
 rw [List.drop_eq_getElem_cons h1,h2];rfl
theorem Al.totF_end {A:Al}{st:List (Nat × Nat × Nat)}(s:Rat)(i j:Nat):A.totF s i j (st.drop st.length)=if i=A.n/\j=A.m then some s else none:=by
 rw [List.drop_length];rfl
structure Al.Way (A:Al)(S:List (Nat × Nat × Nat))(f i j:Nat):Prop where
 hi:i<=A.n
 hj:j<=A.m
 hf:(A.n-i)+(A.m-j)<=f
 e:S++A.way f i j=A.way (A.n+A.m) 0 0
 n:S.length+f=A.n+A.m
theorem Al.Way.start (A:Al):A.Way [] (A.n+A.m) 0 0:=⟨Nat.zero_le _,Nat.zero_le _,by omega,rfl,by simp⟩
theorem Al.Way.stop {A:Al}{S:List (Nat × Nat × Nat)}{f i j:Nat}(h:A.Way S f i j)(hi:¬ i<A.n)(hj:¬ j<A.m):S=A.way (A.n+A.m) 0 0:=by
 obtain rfl:i=A.n:=by have:=h.hi;omega
 obtain rfl:j=A.m:=by have:=h.hj;omega
 have he:=h.e
 have:A.way f A.n A.m=[]:=by
  cases f with
  | zero=>rfl
  | succ f=>unfold way;rw [Al.good_end]
 rw [this,List.append_nil] at he
 exact he
theorem Al.Way.step {A:Al}{S:List (Nat × Nat × Nat)}{f i j k:Nat}{l:List Nat}(h:A.Way S (f+1) i j)(hg:A.good i j=k::l):A.Way (S++[(k,i,j)]) f (nx k i j).1 (nx k i j).2:=by
 obtain ⟨h1,h2⟩:=Al.good_ok (A:=A) (i:=i) (j:=j) (k:=k) (by rw [hg];exact List.mem_cons_self ..)
 obtain ⟨⟨ha,hb⟩,hc⟩:=Al.ok_nx h.hi h.hj h1
 have hf:=h.hf
 have hn:=h.n
 refine ⟨ha,hb,by omega, ?_,by simp;omega⟩
 rw [<- h.e]
 conv=>rhs;unfold way
 rw [hg]
 simp
theorem Al.Way.more {A:Al}{S:List (Nat × Nat × Nat)}{f i j:Nat}(h:A.Way S f i j)(hc:i<A.n∨j<A.m):∃ f' k l,f=f'+1/\A.good i j=k::l:=by
 have hf:=h.hf
 have hi:=h.hi
 have hj:=h.hj
 cases hg:A.good i j with
 | nil=>exact absurd hg (Al.good_ne h.hi h.hj hc)
 | cons k l=>exact ⟨f-1,k,l,by omega,rfl⟩
theorem Al.way_mem {A:Al}:∀ f i j,i<=A.n->j<=A.m->∀ x∈A.way f i j,A.ok x.1 x.2.1 x.2.2=true/\x.2.1<=A.n/\x.2.2<=A.m
 | 0,_,_,_,_,x,hx=>by cases hx
 | f+1,i,j,hi,hj,x,hx=>by
  unfold way at hx
  cases hg:A.good i j with
  | nil=>rw [hg] at hx;cases hx
  | cons k l =>
   rw [hg] at hx
   obtain ⟨h1,h2⟩:=Al.good_ok (A:=A) (i:=i) (j:=j) (k:=k) (by rw [hg];exact List.mem_cons_self ..)
   obtain ⟨⟨ha,hb⟩,hc⟩:=Al.ok_nx hi hj h1
   rcases List.mem_cons.1 hx with rfl | hx
   ·exact ⟨h1,hi,hj⟩
   ·exact Al.way_mem f _ _ ha hb x hx

def Al.Fall (A:Al)(P:List (List (Option Rat)))(i j:Nat):Prop:=∀ k,A.ok k i j=true->valP P (nx k i j)<=valP P (i,j)+A.co k i j
theorem Al.falls_of {A:Al}{P:List (List (Option Rat))}(h:∀ i,i<A.n+1->∀ j,j<A.m+1->A.Fall P i j):A.fallsB P=true:=by
 unfold fallsB
 simp only [List.all_eq_true,List.mem_range,decide_eq_true_eq]
 exact fun i hi j hj k hk=>h i hi j hj k (Al.mem_kinds.1 hk)
theorem Al.falls_not {A:Al}{P:List (List (Option Rat))}{i j k:Nat}(hi:i<=A.n)(hj:j<=A.m)(hk:A.ok k i j=true)(h:¬ valP P (nx k i j)<=valP P (i,j)+A.co k i j):A.fallsB P=false:=by
 cases hb:A.fallsB P with
 | false=>rfl
 | true =>
  unfold fallsB at hb
  simp only [List.all_eq_true,List.mem_range,decide_eq_true_eq] at hb
  exact absurd (hb i om_ j om_ k (Al.mem_kinds.2 hk)) h
end Dp
end Go.Jog
namespace Go.Jog
open Go

section
variable {cx:Cx} {fn:Func} {n:Nat} {fr:Fr} {C C':Mem} {L L1 LA:List Ent} {W1:World} {post:Value->Mem->List Ent->Prop} {W:Cw cx.P}
theorem G.eG {Ds:List Nat}{b:Bs}{e:Exit}(he:e=.ret∨e=.normal){v:Value}
  (hr:∀ a w,FrOk n [] (Ds.map d4) fr a->St b.w0 b.C0 b.L0 C L w->(results fn a.tmps).run cx.P w=.ok v w) (h:post v C []) :
  G ⟨cx,fn,n,b,post,Cw.plain cx.P,Ds.map d4,bodyPostM Fence.wide 3 cx.P fn (finOf b post)⟩ [] e fr C (Ds.map ce++L):=fun hle a w ha hw=>by
 have key0:LeavesInM Fence.wide 3 cx.P fn a.tmps (finOf b post) a.defers .returning w:=by
  have ha':=ha
  rw [ha.defers]
  have key:∀ (Es:List Nat)(w:World),St b.w0 b.C0 b.L0 C (Es.map ce++L) w->LeavesInM Fence.wide 3 cx.P fn a.tmps (finOf b post) (Es.map d4) .returning w:=by
   intro Es
   induction Es with
   | nil=>exact fun w hw=>⟨v,hr a _ ha' hw,v,C,[],rfl,St.dropAll hw,h⟩
   | cons D Es ih =>
    intro w hw
    have hD:w.heap[D]?=some (.deferred (some [])):=hw.sep.e _ (List.mem_cons_self ..)
    have hs:=(St.putObj (o':=.deferred none) hw).drop
    cases Es with
    | nil=>exact ⟨by simp,.inl ⟨D,_,rfl,run_takeDeferred hD,v,hr a _ ha' hs,v,C,[],rfl,St.dropAll hs,h⟩⟩
    | cons E Es=>exact ⟨by simp,.inl ⟨D,_,rfl,run_takeDeferred hD,ih _ hs⟩⟩
  exact key Ds w hw
 rcases he with rfl | rfl <;> exact key0
end
end Go.Jog
namespace Go.Proofs.YtjhmlnebikbdbaaGreatDoor
open Go Go.Jog Go.Jog.Dp
set_option maxRecDepth 100000

theorem perm_best {α:Type}(a b d e f g:α)(T:List α):(a::b::d::e::f::g::T).Perm (f::a::b::e::g::d::T):=by
 classical exact List.perm_iff_count.2 fun x=>by simp only [List.count_cons];omega
def stS (x:Nat × Nat × Nat):List Value:=stepC x.1 x.2.1 x.2.2
theorem best_fn (C:Mem)(hT:Tabs C)(vL vR:Value)(q:Qn)(hq:QIn C vL vR q)(ok:QOk q):Pur cx.P 7 [.agg ⟨qC vL vR q⟩] C fun u D=>∃ A n c,u=.tuple #[.agg ⟨[.slice A n c,strV (qtx (rvT q 0 0))]⟩,.int .i64 0]/\Sl D 3 (.slice A n c) ((q.al.way (q.al.n+q.al.m) 0 0).map stS):=by
 obtain ⟨AL,cL,rfl,_,_,_⟩:=id hq.l
 obtain ⟨AR,cR,rfl,_,_,_⟩:=id hq.r
 simp only [List.length_map] at hq ⊢
 have hln:=ok.ok.ln
 have hrn:=ok.ok.rn
 refine Fn.introM kr_ Tryz.func7 rfl 67 rfl rfl (fun w0=>?_)
 refine G.rg fun R hR=>?_
 refine D.aM (fun b1=>?_)
 refine D.aj (fun b2=>?_)
 refine D.q2 1 1 2 hR ?_
 refine G.freeze 1 rfl (fun C1 hle1 hb1=>?_)
 refine G.rg fun R hR=>?_
 refine D.aa (bkT hb1 6) ?_
 refine D.am (qcheck_fn _ (hT.mono mup) _ _ q (hq.mono mup) ok) ?_
 refine D.q3 1 1 2 4 hR ?_
 refine G.z4 2 1 2 4 15 ?_
 refine G.cd (fun h15=>?_) fun h15=>?_
 ·exact absurd h15 (by decide)
 ·refine G.aS [(1,3)] rfl (fun R hR=>?_)
  refine D.aa (bkT hb1 6) ?_
  refine D.call (rests_fn _ (hT.mono mup) _ _ q (hq.mono mup) ok.ok) rfl (.inr (by decide)) rfl rfl rfl rfl rfl rfl (List.Perm.refl _) fl_ (fun v19 C19 L19 hle19 hq19=>?_)
  obtain ⟨wF,hw,⟨bT,cT,rfl⟩,rfl⟩:=hq19
  refine D.q3 1 1 2 5 hR ?_
  refine G.fe (f:=rvT q) (fun i j hi hj=>Al.rest_some hi hj) (fun C5 hle5 hR5=>?_)
  obtain ⟨ws,hws,hwl,hwr⟩:=id hR5.ex
  obtain ⟨w0',hw0,hw02⟩:=ws_at hwl (Nat.zero_le _)
  have hwr0:=hwr _ _ hw0
  have q0:=Al.qb_rv (A:=q.al) ok.ok.small (Nat.zero_le _) (Nat.zero_le _)
  have qp:QB 1 (rvT q 0 0):=q0.1.qb2 (by have:=q0.2;grind) (by have:=q0.2;grind)
  refine G.rp 1 fun R hR=>?_
  refine D.ai (hws.mono mup) rfl rfl rfl rfl rfl rfl rfl rfl rfl rfl om_ hw02 fl_ (fun p22 hp22=>?_)
  refine D.aa hp22 ?_
  refine D.ai (hwr0.mono mup) rfl rfl rfl rfl rfl rfl rfl rfl rfl rfl om_ (bS (Nat.zero_le _)) fl_ (fun p24 hp24=>?_)
  refine D.aa hp24 ?_
  refine D.am (cright_fn _ (hT.mono mup) _ qp) ?_
  refine D.q5 5 1 2 5 6 7 hR ?_
  refine G.z6 2 1 2 5 6 7 30 ?_
  refine G.cd (fun h30=>?_) fun h30=>?_
  ·exact absurd h30 (by decide)
  ·refine G.rp 1 fun R hR=>?_
   refine D.build [.slice none 0 0,strV (qtx (rvT q 0 0))] rfl rfl rfl rfl rfl rfl rfl rfl ?_
   refine D.aj (fun b8=>?_)
   refine D.ac (j:=0) ?_
   refine D.e4 1 2 5 8 hR ?_
   refine G.rg fun R hR=>?_
   refine D.aj (fun b9=>?_)
   refine D.aj (fun b10=>?_)
   refine D.ac (j:=1) ?_
   refine D.ac (j:=1) ?_
   refine D.e6 1 2 5 8 9 10 hR ?_
   refine G.nilArr 50 3 ?_
   refine G.eO (fun dd fr C' L' μ=>∃ (i j f b9 b10:Nat)(A:Option Addr)(n c:Nat)(S:List (Nat × Nat × Nat))(Ds:List Nat),q.al.Way S f i j/\dd=Ds.map d4/\fr=[(1,[],.pointer (some ⟨b1,0,none⟩)),(2,[],.pointer (some ⟨b2,0,none⟩)),(5,[],(.slice (some ⟨bT,0,none⟩) (q.l.length+1) cT)),(8,[],.pointer (some ⟨b8,0,none⟩)),(9,[],.pointer (some ⟨b9,0,none⟩)),(10,[],.pointer (some ⟨b10,0,none⟩))]
    /\ L'=.arr (.slice A n c) 50 3 (S).length ((S).map stS).flatten::.obj b10 (.cells ⟨[.int .i64 ((j:Nat):Int)]⟩ 3 (0,0))::.obj b9 (.cells ⟨[.int .i64 ((i:Nat):Int)]⟩ 3 (0,0))::.obj b8 (.cells ⟨[.slice A n c,strV (qtx (rvT q 0 0))]⟩ 41 (0,0))::.obj b2 (.cells ⟨[.slice none 0 0,strV []]⟩ 41 (0,0))::(Ds).map ce/\μ=f) (h_6 1 2 5 8 9 10) ⟨0,0,_,_,_,_,_,_,[],[],Al.Way.start _,rfl,rfl,rfl,rfl⟩ (fun dd fr C0' L0' m hle0 hI=>?_)
   obtain ⟨i,j,f,b9,b10,A,n,c,S,Ds,hway,rfl,rfl,rfl,rfl⟩:=hI
   have hi:i<=q.l.length:=hway.hi
   have hj:j<=q.r.length:=hway.hj
   have hSn:S.length<=q.l.length+q.r.length:=by have:=hway.n;have e1:q.al.n=q.l.length:=rfl;have e2:q.al.m=q.r.length:=rfl;omega
   refine G.rg fun R hR=>?_
   refine D.ag (.tail _ (.tail _ (.head _))) ?_
   refine D.ae ?_
   refine D.aa (bkT hb1 1) ?_
   refine D.ps 3 ?_
   refine D.ag (.tail _ (.head _)) ?_
   refine D.ae ?_
   refine D.aD rfl rfl rfl rfl rfl rfl (fun _=>PtrTo.blockT (Mem.get hb1 mup) _ 1) rfl rfl rfl ?_
   refine D.ps 2 ?_
   refine D.ar ?_
   refine D.e7 1 2 5 8 9 10 46 hR ?_
   refine G.cd (fun h46=>?_) fun h46=>?_
   ·have hc:i<q.l.length∨j<q.r.length:=by
     have h46':(decide ((i:Int)<(q.l.length:Int)) || decide ((j:Int)<(q.r.length:Int)))=true:=h46
     simp only [Bool.or_eq_true,decide_eq_true_eq] at h46'
     omega
    obtain ⟨f',k,gl,rfl,hg⟩:=hway.more hc
    refine G.rg fun R hR=>?_
    refine D.aa (bkT hb1 6) ?_
    refine D.ae ?_
    refine D.ag (.tail _ (.tail _ (.head _))) ?_
    refine D.ag (.tail _ (.head _)) ?_
    refine D.aJ (good_fn _ _ _ _ _ _ q i j) (fun v51 C51 hle51 hq51=>?_)
    obtain ⟨bq,bi,bj,br,rfl,hbq,hbi,hbj,hbr⟩:=hq51
    refine D.e7 1 2 5 8 9 10 51 hR ?_
    have hit:=good1_iter C51 (hT.mono mup) _ _ _ q i j bq bi bj br (hq.mono mup) ok.ok hi hj (hR5.mono mup) hbq hbi hbj hbr
    have hv0:(goodV q i j)[0]?=some [stepV k i j]:=by unfold goodV;rw [hg];rfl
    refine G.cW (ps:=[52]) rfl rfl kr_ hit (fun v hv=>?_) (fun c' L'=>c'=0/\L'=.arr (.slice A n c) 50 3 (S).length ((S).map stS).flatten::.obj b10 (.cells ⟨[.int .i64 ((j:Nat):Int)]⟩ 3 (0,0))::.obj b9 (.cells ⟨[.int .i64 ((i:Nat):Int)]⟩ 3 (0,0))::.obj b8 (.cells ⟨[.slice A n c,strV (qtx (rvT q 0 0))]⟩ 41 (0,0))::.obj b2 (.cells ⟨[.slice none 0 0,strV []]⟩ 41 (0,0))::(Ds).map ce) (fun cd c' L'=>cd=.exit 2/\∃ (A:Option Addr)(n c:Nat),L'=.obj b10 (.cells ⟨[.int .i64 (((nx k i j).2:Nat):Int)]⟩ 3 (0,0))::.obj b9 (.cells ⟨[.int .i64 (((nx k i j).1:Nat):Int)]⟩ 3 (0,0))::.obj b8 (.cells ⟨[.slice A n c,strV (qtx (rvT q 0 0))]⟩ 41 (0,0))::.arr (.slice A n c) 50 3 (S++[(k,i,j)]).length ((S++[(k,i,j)]).map stS).flatten::.obj b2 (.cells ⟨[.slice none 0 0,strV []]⟩ 41 (0,0))::Ds.map ce) ⟨rfl,rfl⟩ (fun v hv=>?_)
     (fun c' L' frA LA=>c'=0/\∃ b11,frA=[(8,[],.pointer (some ⟨b8,0,none⟩)),(9,[],.pointer (some ⟨b9,0,none⟩)),(10,[],.pointer (some ⟨b10,0,none⟩)),(11,[],.pointer (some ⟨b11,0,none⟩))]/\LA=.obj b11 (.cells ⟨stepC k i j⟩ 50 (0,0))::.arr (.slice A n c) 50 3 (S).length ((S).map stS).flatten::.obj b10 (.cells ⟨[.int .i64 ((j:Nat):Int)]⟩ 3 (0,0))::.obj b9 (.cells ⟨[.int .i64 ((i:Nat):Int)]⟩ 3 (0,0))::.obj b8 (.cells ⟨[.slice A n c,strV (qtx (rvT q 0 0))]⟩ 41 (0,0))::.obj b2 (.cells ⟨[.slice none 0 0,strV []]⟩ 41 (0,0))::(Ds).map ce)
     ?_ ?_ ?_ ?_
    ·obtain ⟨c',hc'⟩:=List.getElem?_of_mem hv
     unfold goodV at hc'
     rw [List.getElem?_map] at hc'
     cases hx:(q.al.good i j)[c']? with
     | none=>rw [hx] at hc';cases hc'
     | some y=>rw [hx] at hc';cases hc';rfl
    ·obtain ⟨c',hc'⟩:=List.getElem?_of_mem hv
     unfold goodV at hc'
     rw [List.getElem?_map] at hc'
     cases hx:(q.al.good i j)[c']? with
     | none=>rw [hx] at hc';cases hc'
     | some y=>rw [hx] at hc';cases hc';rfl
    ·intro l2 c' v L' W1 hI hv
     obtain ⟨rfl,rfl⟩:=hI
     rw [hv0] at hv
     cases hv
     refine G.rg fun R hR=>?_
     refine D.aj (fun b11=>?_)
     refine D.ac (j:=0) ?_
     refine D.e4 8 9 10 11 hR ?_
     exact G.eT [(8,[],_),(9,[],_),(10,[],_),(11,[],_)] ⟨rfl,rfl,rfl,rfl,trivial⟩ ⟨rfl,b11,rfl,rfl⟩
    ·intro l2 c' v L' frA LA W1 hI hv hA
     obtain ⟨rfl,b11,rfl,rfl⟩:=hA
     refine G.freeze 0 rfl (fun C6 hle6 hb11=>?_)
     refine G.rp 1 fun R hR=>?_
     refine D.ag (.tail _ (.tail _ (.tail _ (.head _)))) ?_
     refine D.aa (bkT hb11 3) ?_
     refine D.ah [stepC k i j] (fun p56 C56 hle56 hs56=>?_)
     refine D.ak (j:=0) rfl rfl rfl rfl rfl rfl rfl rfl rfl rfl rfl hs56 rfl (by simp only [List.length_singleton,maxLen];omega) (by show (S.length+1)*24<=_;omega) fl_ (fun A57 n57 c57=>?_)
     refine D.ae ?_
     refine D.ac (j:=3) ?_
     refine D.e4 8 9 10 11 hR ?_
     refine G.rg fun R hR=>?_
     refine D.aa (bkT hb11 3) ?_
     refine D.au (next_fn _ k i j om_ om_) rfl rfl rfl rfl rfl rfl rfl fl_ ?_
     refine D.ps 3 ?_
     refine D.ac (j:=3) ?_
     refine D.ac (j:=3) ?_
     refine D.e3 8 9 10 hR ?_
     refine G.exit (G.blkOther rfl ?_)
     refine G.eQ (e:=.exit 2) (c:=.exit 2) (X:=fun cd L'=>cd=.exit 2/\_) rfl ⟨rfl,A57,n57,c57, ?_⟩
     simp [stS]
     exact ⟨rfl,rfl,rfl⟩
    ·intro D0 L' hI
     have h0:(goodV q i j).length=0:=hI.1
     have h1:=(List.getElem?_eq_some_iff.1 hv0).1
     omega
    ·intro D0 c' cd L' hc' hX
     obtain ⟨rfl,A2,n2,c2,rfl⟩:=hX
     refine G.bm 64 ?_
     refine G.rg fun R hR=>?_
     refine D.ag (.tail _ (.tail _ (.head _))) ?_
     refine D.ag (.tail _ (.head _)) ?_
     refine D.e6 1 2 5 8 64 65 hR ?_
     refine G.rg fun R hR=>?_
     refine D.aj (fun b9n=>?_)
     refine D.ac (j:=0) ?_
     refine D.aj (fun b10n=>?_)
     refine D.ac (j:=0) ?_
     refine D.e6 1 2 5 8 9 10 hR ?_
     refine G.eH 3 rfl ?_
     refine G.eH 3 rfl ?_
     refine G.perm (L':=.arr (.slice A2 n2 c2) 50 3 (S++[(k,i,j)]).length ((S++[(k,i,j)]).map stS).flatten::.obj b10n (.cells ⟨[.int .i64 (((nx k i j).2:Nat):Int)]⟩ 3 (0,0))::.obj b9n (.cells ⟨[.int .i64 (((nx k i j).1:Nat):Int)]⟩ 3 (0,0))::.obj b8 (.cells ⟨[.slice A2 n2 c2,strV (qtx (rvT q 0 0))]⟩ 41 (0,0))::.obj b2 (.cells ⟨[.slice none 0 0,strV []]⟩ 41 (0,0))::(D0::Ds).map ce) (perm_best _ _ _ _ _ _ _) ?_
     refine G.eB (dd:=(D0::Ds).map d4) (m':=f') om_ mup (h_6 1 2 5 8 9 10) ⟨_,_,f',b9n,b10n,A2,n2,c2,S++[(k,i,j)],D0::Ds,hway.step hg,rfl,rfl,rfl,rfl⟩
   ·have hS:=hway.stop (by intro h;have:decide ((i:Int)<(q.l.length:Int))=true:=decide_eq_true (by have e1:q.al.n=q.l.length:=rfl;omega);have h46':(decide ((i:Int)<(q.l.length:Int)) || decide ((j:Int)<(q.r.length:Int)))=false:=h46;rw [this] at h46';cases h46') (by intro h;have:decide ((j:Int)<(q.r.length:Int))=true:=decide_eq_true (by have e1:q.al.m=q.r.length:=rfl;omega);have h46':(decide ((i:Int)<(q.l.length:Int)) || decide ((j:Int)<(q.r.length:Int)))=false:=h46;rw [this,Bool.or_true] at h46';cases h46')
    refine G.freezeArr 0 (S.map stS) rfl rfl (by intro r hr;obtain ⟨y,_,rfl⟩:=List.mem_map.1 hr;rfl) (by rw [List.length_map]) (fun Cf hf hsd=>?_)
    refine G.rg fun R hR=>?_
    refine D.ag (.tail _ (.tail _ (.head _))) ?_
    refine D.ac (j:=3) ?_
    refine D.q2 1 2 3 hR ?_
    refine G.aA ?_
    refine G.perm (L':=Ds.map ce++[.obj b2 (.cells ⟨[.slice A n c,strV (qtx (rvT q 0 0))]⟩ 41 (0,0)),.obj b10 (.cells ⟨[.int .i64 ((j:Nat):Int)]⟩ 3 (0,0)),.obj b9 (.cells ⟨[.int .i64 ((i:Nat):Int)]⟩ 3 (0,0)),.obj b8 (.cells ⟨[.slice A n c,strV (qtx (rvT q 0 0))]⟩ 41 (0,0))]) (List.perm_append_comm (l₁:=[_,_,_,_])) ?_
    refine G.eG (.inl rfl) (res_ct (.head _) rfl rfl rfl rfl rfl) ⟨rfl,A,n,c,rfl, ?_⟩
    rw [<- hS];exact hsd.mono mup
open Go Go.Jog Go.Jog.Dp
set_option maxRecDepth 100000

def TotR:Option Rat->Str->Int->Prop
 | some s,x,e=>x=qtx s/\e=0
 | none,_,e=>e≠0
theorem total_fn (C:Mem)(hT:Tabs C)(vL vR:Value)(q:Qn)(hq:QIn C vL vR q)(ok:QOk q)(st:List (Nat × Nat × Nat))(vS:Value)(hs:Sl C 3 vS (st.map stS))(hl:st.length<=1000)(hst:∀ x∈st,x.1<=1000/\x.2.1<=1000/\x.2.2<=1000) :
  Pur cx.P 37 [.agg ⟨qC vL vR q⟩,vS] C fun u _=>∃ x e,u=.tuple #[strV x,.int .i64 e]/\TotR (q.al.totF 0 0 0 st) x e:=by
 obtain ⟨AL,cL,rfl,_,_,_⟩:=id hq.l
 obtain ⟨AR,cR,rfl,_,_,_⟩:=id hq.r
 obtain ⟨AS,cS,rfl,_⟩:=id hs
 simp only [List.length_map] at hq hs ⊢
 have hln:=ok.ok.ln
 have hrn:=ok.ok.rn
 refine Fn.it kr_ Tryz.func37 64 fun w0=>?_
 refine G.rg fun R hR=>?_
 refine D.aM (fun b2=>?_)
 refine D.q2 2 1 2 hR ?_
 refine G.freeze 0 rfl (fun C1 hle1 hb1=>?_)
 refine G.rg fun R hR=>?_
 refine D.aa (bkT hb1 6) ?_
 refine D.am (qcheck_fn _ (hT.mono mup) _ _ q (hq.mono mup) ok) ?_
 refine D.q3 1 1 2 6 hR ?_
 refine G.z4 2 1 2 6 16 ?_
 refine G.cd (fun h16=>?_) fun h16=>?_
 ·exact absurd h16 (by decide)
 ·refine G.z3 1 1 2 7 ?_
  refine G.z5 2 1 2 7 8 9 ?_
  rw [show (Value.string ⟨#[48]⟩)=strV (qtx 0) from by show strV [48]=strV (qtx 0);rw [qtx00]]
  refine G.z7 3 2 7 8 9 18 19 20 ?_
  refine G.loop (fun fr C' L' μ=>∃ (c i j:Nat)(s:Rat),(c<=st.length/\q.al.Sum s i j/\q.al.totF 0 0 0 st=q.al.totF s i j (st.drop c))/\fr=[(2,[],.pointer (some ⟨b2,0,none⟩)),(7,[],strV (qtx s)),(8,[],.int .i64 i),(9,[],.int .i64 j),(18,[],.slice AS st.length cS),(19,[],.int .i64 st.length),(20,[],.int .i64 c)]/\L'=[]/\μ=st.length-c) (h_7 2 7 8 9 18 19 20) ⟨0,0,0,0,⟨Nat.zero_le _,Al.Sum.start _,rfl⟩,rfl,rfl,rfl⟩ (fun fr C0' L0' m hle0 hI=>?_)
  obtain ⟨c,i,j,s,⟨hc,hsum,htot⟩,rfl,rfl,rfl⟩:=hI
  refine G.z8 1 2 7 8 9 18 19 20 21 ?_
  refine G.cd (fun h21=>?_) fun h21=>?_
  ·have hcl:c<st.length:=by have:=of_decide_eq_true h21;omega
   obtain ⟨k,a,b,hx⟩:∃ k a b,st[c]?=some (k,a,b):=⟨_,_,_,List.getElem?_eq_getElem hcl⟩
   obtain ⟨hk1,ha1,hb1'⟩:=hst _ (List.mem_of_getElem? hx)
   simp only at hk1 ha1 hb1'
   have hrow:(st.map stS)[((c:Nat):Int).toNat]?=some (stepC k a b):=by rw [Int.toNat_natCast,List.getElem?_map,hx];rfl
   refine G.rg fun R hR=>?_
   refine D.ai (hs.mono mup) rfl rfl rfl rfl rfl rfl rfl rfl rfl rfl om_ hrow fl_ (fun p22 hp22=>?_)
   refine D.aa hp22 ?_
   refine D.aj (fun b11=>?_)
   refine D.ac (j:=0) ?_
   refine D.e8 2 7 8 9 11 18 19 20 hR ?_
   refine G.freeze 0 rfl (fun C11 hle11 hb11=>?_)
   refine G.rp 1 fun R hR=>?_
   refine D.aa (bkT hb11 1) ?_
   refine D.ps 4 ?_
   refine D.aD rfl rfl rfl rfl rfl rfl (fun _=>PtrTo.blockT (Mem.get hb11 mup) _ 1) rfl rfl rfl ?_
   refine D.ps 2 ?_
   refine D.ar ?_
   refine D.e7 2 7 11 18 19 20 33 hR ?_
   refine G.cd (fun h33=>?_) fun h33=>?_
   ·have hne:¬ (a=i/\b=j/\q.al.ok k i j=true):=by
     rintro ⟨rfl,rfl,_⟩
     have h33':(!decide ((a:Int)=a) || !decide ((b:Int)=b))=true:=h33
     simp at h33'
    refine G.z2 2 4 5 ?_
    refine G.aA (G.dropAll (G.bg rfl rfl rfl ?_))
    exact ⟨rfl,[],6,rfl,by rw [htot,Al.totF_get hx,if_neg hne];show (6:Int)≠0;decide⟩
   ·obtain ⟨rfl,rfl⟩:a=i/\b=j:=by
     have h33':(!decide ((a:Int)=i) || !decide ((b:Int)=j))=false:=h33
     simp at h33'
     omega
    refine G.rg fun R hR=>?_
    refine D.aa (bkT hb1 6) ?_
    refine D.aa (bkT hb11 3) ?_
    refine D.au (checkStep_fn _ _ _ q k a b (hq.mono mup) hln hrn om_ om_ om_) rfl rfl rfl rfl rfl rfl rfl fl_ ?_
    refine D.q7 1 2 7 11 12 18 19 20 hR ?_
    refine G.z8 2 2 7 11 12 18 19 20 38 ?_
    refine G.cd (fun h38=>?_) fun h38=>?_
    ·have he:errS q k a b≠0:=by
      intro h
      rw [h] at h38
      exact absurd h38 (by decide)
     have hko:¬ (a=a/\b=b/\q.al.ok k a b=true):=fun h=>he (errS_zero.2 ⟨hsum.hi,hsum.hj,h.2.2⟩)
     refine G.z2 3 4 5 ?_
     refine G.aA (G.dropAll (G.bg rfl rfl rfl ?_))
     exact ⟨rfl,[],errS q k a b,rfl,by rw [htot,Al.totF_get hx,if_neg hko];exact he⟩
    ·have he:errS q k a b=0:=by
      by_cases h:errS q k a b=0
      ·exact h
      ·have h38':(!decide (errS q k a b=0))=false:=h38
       simp at h38'
       exact h38'
     have hko:=(errS_zero.1 he).2.2
     have hcs:=ok.ok.small.q hko
     have qc:QB 1 (q.cost k a b):=hcs.1.qb2 (by have:=hcs.2;grind) (by have:=hcs.2;grind)
     refine G.rp 1 fun R hR=>?_
     refine D.aa (bkT hb1 6) ?_
     refine D.aa (bkT hb11 3) ?_
     refine D.am (cost_fn _ (hT.mono mup) _ _ q k a b (hq.mono mup) ok.ok ⟨hsum.hi,hsum.hj,hko⟩) ?_
     refine D.au (ee _ (hT.mono mup) s (q.cost k a b) 1 (by decide) (by decide) (hsum.qb ok.ok.small) qc) rfl rfl rfl rfl rfl rfl rfl fl_ ?_
     refine D.q6 1 2 7 11 18 19 20 hR ?_
     refine G.rg fun R hR=>?_
     refine D.aa (bkT hb11 3) ?_
     refine D.au (next_fn _ k a b om_ om_) rfl rfl rfl rfl rfl rfl rfl fl_ ?_
     refine D.q7 5 2 7 8 9 18 19 20 hR ?_
     refine G.rg fun R hR=>?_
     refine D.ax _ ?_
     refine D.q7 1 2 7 8 9 18 19 20 hR ?_
     refine G.aB (m':=st.length-(c+1)) om_ mup (h_7 2 7 8 9 18 19 20) ⟨c+1,_,_,_,⟨by omega,hsum.step ok.ok.small hko,by rw [htot,Al.totF_get hx,if_pos ⟨rfl,rfl,hko⟩]⟩,rfl,rfl,rfl⟩
  ·obtain rfl:c=st.length:=by have:=of_decide_eq_false h21;omega
   refine G.rp 2 fun R hR=>?_
   refine D.aa (bkT hb1 1) ?_
   refine D.ps 5 ?_
   refine D.aD rfl rfl rfl rfl rfl rfl (fun _=>PtrTo.blockT (Mem.get hb1 mup) _ 1) rfl rfl rfl ?_
   refine D.ps 2 ?_
   refine D.ar ?_
   refine D.e2 7 62 hR ?_
   refine G.cd (fun h62=>?_) fun h62=>?_
   ·have hne:¬ (i=q.al.n/\j=q.al.m):=by
     rintro ⟨h1,h2⟩
     have h62':(!decide ((i:Int)=q.l.length) || !decide ((j:Int)=q.r.length))=true:=h62
     have e1:q.al.n=q.l.length:=rfl
     have e2:q.al.m=q.r.length:=rfl
     rw [decide_eq_true om_,decide_eq_true om_] at h62'
     exact absurd h62' (by decide)
    refine G.z2 2 4 5 ?_
    refine G.aA (G.dropAll (G.bg rfl rfl rfl ?_))
    exact ⟨rfl,[],25,rfl,by rw [htot,Al.totF_end,if_neg hne];show (25:Int)≠0;decide⟩
   ·have hyes:i=q.al.n/\j=q.al.m:=by
     have h62':(!decide ((i:Int)=q.l.length) || !decide ((j:Int)=q.r.length))=false:=h62
     have e1:q.al.n=q.l.length:=rfl
     have e2:q.al.m=q.r.length:=rfl
     simp at h62'
     omega
    refine G.z2 3 4 5 ?_
    refine G.aA (G.dropAll (G.bg rfl rfl rfl ?_))
    exact ⟨rfl,qtx s,0,rfl,by rw [htot,Al.totF_end,if_pos hyes];exact ⟨rfl,rfl⟩⟩

theorem readM_qtx {q p:Rat}(h:aK (qtx q)=some p):p=q:=by
 obtain ⟨hd,he⟩:=cut1_drop (qtx q)
 rw [cut1_qtx] at hd he
 simp only at hd he
 rw [bJ] at hd
 have h1:(cut1 47 (aN 45 (qtx q)).1).1=decS q.num.natAbs:=(Prod.mk.inj hd).1.symm
 have h2:(aN 45 (qtx q)).2=decide (q.num<0):=(Prod.mk.inj hd).2.symm
 unfold aK at h
 rw [h1,h2,<- he,(aV _).2] at h
 have e:ratB (decide (q.num<0)) q.num.natAbs q.den=q:=by
  unfold ratB
  have e2:(if decide (q.num<0)=true then -((q.num.natAbs:Nat):Int) else ((q.num.natAbs:Nat):Int))=q.num:=by
   by_cases hn:q.num<0
   ·rw [if_pos (decide_eq_true hn)];omega
   ·rw [if_neg (by rw [decide_eq_false hn];decide)];omega
  rw [e2,Rat.mkRat_self]
 split at h
 ·unfold denS at h
  split at h
  ·rename_i hb
   split at hb
   ·rename_i h1d
    cases h
    rw [<- h1d,e]
   ·cases hb
  ·rename_i b hb
   split at hb
   ·cases hb
   ·cases hb
    split at h
    ·cases h
     rw [(aV _).2,e]
    ·cases h
 ·cases h
open Go Go.Jog Go.Jog.Dp
set_option maxRecDepth 100000

theorem cloneS_fn (C:Mem)(v:Value)(l:List SV)(hv:Sl C 1 v (l.map SV.enc))(hl:l.length<=1000000):Jog.Fn cx.P 38 [v] C [] fun u _C' L'=>∃ A n c,u=.slice A n c/\L'=[.arr (.slice A n c) 48 1 l.length (l.map SV.enc).flatten]:=by
 obtain ⟨A0,c0,rfl,hc1,hc2,hc3,hc4⟩:=id hv
 have hmx:maxLen<=9223372036854775807:=by simp [maxLen]
 simp only [List.length_map] at hv hc1 ⊢
 refine Fn.it kr_ Tryz.func38 8 fun w0=>?_
 refine G.z1 1 0 ?_
 refine G.rp 1 fun R hR=>?_
 refine D.nilEq rfl rfl rfl rfl rfl rfl rfl rfl rfl ?_
 refine D.e2 0 4 hR ?_
 refine G.cd (fun h4=>?_) fun h4=>?_
 ·have hA:A0=none:=by
   cases A0 with
   | none=>rfl
   | some a=>cases h4
  have hnil:l=[]:=by
   cases l with
   | nil=>rfl
   | cons q r =>
    obtain ⟨a,ha,_⟩:=hc4 0 (SV.enc q) rfl
    rw [hA] at ha
    cases ha
  refine G.z1 1 2 ?_
  refine G.nilArr 48 1 ?_
  refine G.aA (G.fin1 rfl rfl ?_)
  exact ⟨none,0,0,rfl,by rw [hnil];rfl⟩
 ·refine G.rg fun R hR=>?_
  refine D.eN [] rfl rfl rfl rfl rfl rfl rfl rfl rfl rfl rfl rfl fl_ (fun b5=>?_)
  refine D.ae ?_
  refine D.ak (j:=0) rfl rfl rfl rfl rfl rfl rfl rfl rfl rfl rfl (hv.mono mup) (by simp [SV.enc,oneB]) (by simp only [List.length_map,List.length_nil,maxLen];omega) (by simp only [List.length_map,List.length_nil];omega) fl_ (fun A7 n7 c7=>?_)
  refine D.q1 1 2 hR ?_
  refine G.bv (L':=[.arr (.slice A7 n7 c7) 48 1 l.length (l.map SV.enc).flatten]) (by simp) ?_
  refine G.aA (G.fin1 rfl rfl ?_)
  exact ⟨A7,n7,c7,rfl,rfl⟩
structure PotIn (C:Mem)(v:Value)(P:List (List Str)):Prop where
 ex:∃ ws:List SV,Sl C 1 v (ws.map SV.enc)/\ws.length=P.length/\∀ (i:Nat)(x:SV)(l:List Str),ws[i]?=some x->P[i]?=some l->Sl C 1 (.slice x.A x.n x.c) (l.map encS)
theorem PotIn.mono {C D:Mem}{v:Value}{P:List (List Str)}(h:PotIn C v P)(hl:C.le D):PotIn D v P:=by
 obtain ⟨ws,h1,h2,h3⟩:=h.ex
 exact ⟨ws,h1.mono hl,h2,fun i x l a b=>(h3 i x l a b).mono hl⟩
theorem readM_get {s:Str}{q:Rat}(h:aK s=some q):s=qtx q/\QB 23 q:=by
 have h1:dW s=true:=by rw [ratOk_eq,h];rfl
 obtain ⟨p,hp,hq⟩:=rat_of h1
 subst hp
 rw [readM_qtx h]
 exact ⟨rfl,hq⟩
abbrev valM (P:List (List Str))(i j:Nat):Rat:=Dp.valP (P.map (·.map aK)) (i,j)
theorem pot_get {P:List (List Str)}{i j:Nat}{l:List Str}{s:Str}(hi:P[i]?=some l)(hj:l[j]?=some s)(hr:(aK s).isSome=true):atP (P.map (·.map aK)) (i,j)=some (valM P i j)/\s=qtx (valM P i j)/\QB 23 (valM P i j):=by
 obtain ⟨q,hq⟩:=Option.isSome_iff_exists.1 hr
 have ha:atP (P.map (·.map aK)) (i,j)=some q:=by
  unfold atP
  simp only [List.getElem?_map,hi,Option.map_some,Option.getD_some,hj,hq]
 have hv:valM P i j=q:=by unfold valM Dp.valP;rw [ha];rfl
 rw [hv]
 exact ⟨ha,(readM_get hq).1,(readM_get hq).2⟩
theorem pot_tab {C:Mem}{v:Value}{P:List (List Str)}{n m:Nat}(h:PotIn C v P)(hn:P.length=n+1)(hm:∀ l∈P,l.length=m+1)(hr:∀ l∈P,∀ s∈l,(aK s).isSome=true) :
  TabR C v n m (valM P)/\∀ i j,i<=n->j<=m->QB 23 (valM P i j)/\atP (P.map (·.map aK)) (i,j)=some (valM P i j):=by
 have hg:∀ i j,i<=n->j<=m->∃ l s,P[i]?=some l/\l[j]?=some s/\atP (P.map (·.map aK)) (i,j)=some (valM P i j)/\s=qtx (valM P i j)/\QB 23 (valM P i j):=by
  intro i j hi hj
  have hil:i<P.length:=by omega
  have hl:=List.getElem?_eq_getElem hil
  have hmem:P[i]∈P:=List.getElem_mem hil
  have hjl:j<P[i].length:=by rw [hm _ hmem];omega
  exact ⟨P[i],P[i][j],hl,List.getElem?_eq_getElem hjl,pot_get hl (List.getElem?_eq_getElem hjl) (hr _ hmem _ (List.getElem_mem hjl))⟩
 obtain ⟨ws,h1,h2,h3⟩:=h.ex
 refine ⟨⟨ws.map fun x=>.slice x.A x.n x.c,by rw [List.map_map];exact h1,by rw [List.length_map];omega,fun i w e=>?_⟩,fun i j hi hj=>?_⟩
 ·rw [List.getElem?_map] at e
  cases hx:ws[i]? with
  | none=>rw [hx] at e;cases e
  | some x =>
   rw [hx] at e;cases e
   have hil:i<P.length:=by rw [<- h2];exact (List.getElem?_eq_some_iff.1 hx).1
   have hl:=List.getElem?_eq_getElem hil
   have hs:=h3 i x _ hx hl
   have he:P[i].map encS=d5 (valM P) m i:=by
    unfold d5
    refine List.ext_getElem? fun j=>?_
    rw [List.getElem?_map,List.getElem?_map]
    rcases Nat.lt_or_ge j (m+1) with hj | hj
    ·obtain ⟨l,s,e1,e2,_,e3,_⟩:=hg i j om_ om_
     rw [hl] at e1;cases e1
     rw [e2,List.getElem?_range hj,e3];rfl
    ·rw [List.getElem?_eq_none (by rw [hm _ (List.getElem_mem hil)];exact hj),List.getElem?_eq_none (by simpa using hj)];rfl
   rw [<- he];exact hs
 ·obtain ⟨l,s,_,_,e1,_,e2⟩:=hg i j hi hj
  exact ⟨e2,e1⟩
end Go.Proofs.YtjhmlnebikbdbaaGreatDoor
namespace Go.Jog
namespace Dp

theorem Al.ver_tot {A:Al}{st:List (Nat × Nat × Nat)}{t:Option Rat}{P:List (List (Option Rat))}(h:A.totF 0 0 0 st=none):A.verB st t P=false:=by
 unfold verB;rw [h]
theorem Al.ver_iff {A:Al}{st:List (Nat × Nat × Nat)}{t:Option Rat}{P:List (List (Option Rat))}{s:Rat}(h:A.totF 0 0 0 st=some s) :
  A.verB st t P=true ↔ P.length=A.n+1/\(∀ l∈P,l.length=A.m+1)/\(∀ l∈P,∀ x∈l,x.isSome=true)/\atP P (0,0)=some 0/\t=some s/\atP P (A.n,A.m)=t/\A.fallsB P=true:=by
 unfold verB;rw [h]
 simp only [Bool.and_eq_true,decide_eq_true_eq,List.all_eq_true,and_assoc]
end Dp
end Go.Jog
namespace Go.Jog
open Go

theorem res_c1 {cx:Cx}{fn:Func}{n s t b:Nat}{fr:Fr}{C:Mem}{L:List Ent}{dd:List Deferred}{w0:World}{C0:Mem}{L0:List Ent}{tb:TypeId}{fz:Nat × Nat}{cs:List Value}{ti:TI}{y:Value}(hm:Ent.obj b (.cells ⟨cs⟩ tb fz)∈L)(hres:fn.results=#[.cell s t])
  (hs:ev fr [] (.tmp s)=some (.pointer (some ⟨b,0,none⟩))) (ht:cx.T.get t=some ti) (hv:bl ti (cs.take ti.size)=some y) :
  ∀ a w,FrOk n [] dd fr a->St w0 C0 L0 C L w->(results fn a.tmps).run cx.P w=.ok y w:=fun a w ha hw=>by
 have hs':=aT ha (fun p hp=>by cases hp) hs
 simp only [Act.eval] at hs'
 have hl:=run_cell (F:=⟨cx,fn,n,⟨w0,C0,L0⟩,fun _ _ _=>True,Cw.plain cx.P,dd,fun _ _ _=>True⟩) ht (hw.sep.e _ hm) hv
 simp only [Array.getD_eq_getD_getElem?] at hs'
 simp [results,hres,hs',asAddr,hl]
theorem G.dF {F:Fx}{fr:Fr}{C:Mem}{L:List Ent}{p q r s b t:Nat}{cs:List Value}{tb:TypeId}{fz:Nat × Nat}{ti:TI}{x y u v:Value}(hm:Ent.obj b (.cells ⟨cs⟩ tb fz)∈L)(hres:F.fn.results=#[.tmp p,.tmp q,.cell r t,.tmp s])
  (hp:ev fr [] (.tmp p)=some x) (hq:ev fr [] (.tmp q)=some y) (hr:ev fr [] (.tmp r)=some (.pointer (some ⟨b,0,none⟩))) (hs:ev fr [] (.tmp s)=some u)
  (ht:F.cx.T.get t=some ti) (hv:bl ti (cs.take ti.size)=some v) (h:F.post (.tuple #[x,y,v,u]) C []) (he:F.ends:=by exact ⟨fun _ _ _ h=>h,rfl⟩):G F [] .ret fr C L:=fun _ a w ha hw=>by
 refine he.kq ?_
 have hp':=aT ha (fun p hp=>by cases hp) hp
 have hq':=aT ha (fun p hp=>by cases hp) hq
 have hr':=aT ha (fun p hp=>by cases hp) hr
 have hs':=aT ha (fun p hp=>by cases hp) hs
 simp only [Act.eval] at hp' hq' hr' hs'
 refine bodyPost_ret (v:=.tuple #[x,y,v,u]) ?_ (ha.defers.trans he.2) ⟨_,C,[],rfl,St.dropAll hw,h⟩
 have hl:=run_cell (F:=F) ht (hw.sep.e _ hm) hv
 simp only [Array.getD_eq_getD_getElem?] at hp' hq' hr' hs'
 simp [results,hres,hp',hq',hr',hs',asAddr,hl]
end Go.Jog
namespace Go.Proofs.YtjhmlnebikbdbaaGreatDoor
open Go Go.Jog Go.Jog.Dp
set_option maxRecDepth 100000

theorem verify_fn (C:Mem)(hT:Tabs C)(vL vR:Value)(q:Qn)(hq:QIn C vL vR q)(ok:QOk q)(st:List (Nat × Nat × Nat))(vS:Value)(hs:Sl C 3 vS (st.map stS))(hl:st.length<=1000)(hst:∀ x∈st,x.1<=1000/\x.2.1<=1000/\x.2.2<=1000)
  (t:Str) (ht:t.length<=1000) (vP:Value) (P:List (List Str)) (hP:PotIn C vP P) (_hPl:P.length<=1000) (hPr:∀ l∈P,l.length<=1000/\∀ s∈l,s.length<=1000) :
  Pur cx.P 10 [.agg ⟨qC vL vR q⟩,.agg ⟨[vS,strV t]⟩,vP] C fun u _=>∃ e:Int,u=.int .i64 e/\(e=0 ↔ q.al.verB st (aK t) (P.map (·.map aK))=true):=by
 obtain ⟨AL,cL,rfl,_,_,_⟩:=id hq.l
 obtain ⟨AR,cR,rfl,_,_,_⟩:=id hq.r
 obtain ⟨AS,cS,rfl,_⟩:=id hs
 obtain ⟨ws,hws,hwl,hwr⟩:=id hP.ex
 obtain ⟨AP,cP,rfl,_⟩:=id hws
 simp only [List.length_map] at hq hs hws hP ⊢
 have hln:=ok.ok.ln
 have hrn:=ok.ok.rn
 have hmx:maxLen<=9223372036854775807:=by simp [maxLen]
 refine Fn.introM kr_ Tryz.func10 rfl 147 rfl rfl (fun w0=>?_)
 refine G.rg fun R hR=>?_
 refine D.aM (fun b3=>?_)
 refine D.aM (fun b4=>?_)
 refine D.aM (fun b5=>?_)
 refine D.aj (fun b6=>?_)
 refine D.e4 3 4 5 6 hR ?_
 refine G.freeze 3 rfl (fun C3 hle3 hb3=>?_)
 refine G.freeze 2 rfl (fun C4 hle4 hb4=>?_)
 refine G.freeze 1 rfl (fun C5 hle5 hb5=>?_)
 refine G.rg fun R hR=>?_
 refine D.aa (bkT hb3 6) ?_
 refine D.ae ?_
 refine D.aa (bkT hb4 1) ?_
 refine D.aJ (total_fn _ (hT.mono mup) _ _ q (hq.mono mup) ok st _ (hs.mono mup) hl hst) (fun v25 C25 hle25 hq25=>?_)
 obtain ⟨x,e0,rfl,htr⟩:=hq25
 refine D.q6 5 3 4 5 6 7 8 hR ?_
 refine G.z7 2 3 4 5 6 7 8 29 ?_
 refine G.cd (fun h29=>?_) fun h29=>?_
 ·have hn:q.al.totF 0 0 0 st=none:=by
   cases h:q.al.totF 0 0 0 st with
   | none=>rfl
   | some s =>
    rw [h] at htr
    rw [htr.2] at h29
    exact absurd h29 (by decide)
  have he0:e0≠0:=by rw [hn] at htr;exact htr
  refine G.rp 1 fun R hR=>?_
  refine D.ac (j:=0) ?_
  refine D.e1 6 hR ?_
  refine G.aA (G.eG (Ds:=[]) (.inl rfl) (res_c1 (.head _) rfl rfl rfl rfl) ?_)
  exact ⟨rfl,e0,rfl,fun h=>absurd h he0,fun h=>by rw [Al.ver_tot hn] at h;cases h⟩
 ·obtain ⟨s,hs0,rfl,rfl⟩:∃ s,q.al.totF 0 0 0 st=some s/\x=qtx s/\e0=0:=by
   cases h:q.al.totF 0 0 0 st with
   | none =>
    rw [h] at htr
    have h29':(!decide (e0=0))=false:=h29
    have h9:e0≠0:=htr
    simp [h9] at h29'
   | some s=>rw [h] at htr;exact ⟨s,rfl,htr.1,htr.2⟩
  have hvi:=Al.ver_iff (A:=q.al) (t:=aK t) (P:=P.map (·.map aK)) hs0
  refine G.rg fun R hR=>?_
  refine D.aa (bkT hb5 1) ?_
  refine D.ps 2 ?_
  refine D.aa (bkT hb3 1) ?_
  refine D.ae ?_
  refine D.ax _ ?_
  refine D.q6 1 3 4 5 6 7 37 hR ?_
  refine G.cd (fun h37=>?_) fun h37=>?_
  ·have hne:P.length≠q.al.n+1:=by
    intro h
    have h37':(!decide ((ws.length:Int)=q.l.length+1))=true:=h37
    have e1:q.al.n=q.l.length:=rfl
    rw [decide_eq_true om_] at h37'
    exact absurd h37' (by decide)
   refine G.rg fun R hR=>?_
   refine D.ac (j:=0) ?_
   refine D.e1 6 hR ?_
   refine G.aA (G.eG (Ds:=[]) (.inl rfl) (res_c1 (.head _) rfl rfl rfl rfl) ?_)
   exact ⟨rfl,5,rfl,fun h=>absurd h (by decide),fun h=>absurd (by simpa using (hvi.1 h).1) hne⟩
  ·have hPn:P.length=q.l.length+1:=by
    have h37':(!decide ((ws.length:Int)=q.l.length+1))=false:=h37
    simp at h37'
    omega
   refine G.rg fun R hR=>?_
   refine D.aa (bkT hb5 1) ?_
   refine D.q8 2 3 4 5 6 7 38 39 40 hR ?_
   refine G.loop (fun fr C' L' μ=>∃ (i:Nat),(i<=ws.length/\∀ l∈P.take i,l.length=q.r.length+1)/\fr=[(3,[],.pointer (some ⟨b3,0,none⟩)),(4,[],.pointer (some ⟨b4,0,none⟩)),(5,[],.pointer (some ⟨b5,0,none⟩)),(6,[],.pointer (some ⟨b6,0,none⟩)),(7,[],strV (qtx s)),(38,[],.slice AP ws.length cP),(39,[],.int .i64 ws.length),(40,[],.int .i64 i)]/\L'=[.obj b6 (.cells ⟨[.int .i64 0]⟩ 36 (0,0))]/\μ=ws.length-i) (h_8 3 4 5 6 7 38 39 40) ⟨0,⟨Nat.zero_le _,by simp⟩,rfl,rfl,rfl⟩ (fun fr C0' L0' m hle0 hI=>?_)
   obtain ⟨i,⟨hi,hrl⟩,rfl,rfl,rfl⟩:=hI
   refine G.z9 1 3 4 5 6 7 38 39 40 41 ?_
   refine G.cd (fun h41=>?_) fun h41=>?_
   ·have hil:i<ws.length:=by have:=of_decide_eq_true h41;omega
    have hipl:i<P.length:=by omega
    obtain ⟨xw,hxw⟩:∃ xw,ws[i]?=some xw:=⟨_,List.getElem?_eq_getElem hil⟩
    obtain ⟨lr,hlr⟩:∃ lr,P[i]?=some lr:=⟨_,List.getElem?_eq_getElem hipl⟩
    have hsr:=hwr i xw lr hxw hlr
    obtain ⟨Aw,cw,hxe,_⟩:=id hsr
    have hrow:(ws.map SV.enc)[((i:Nat):Int).toNat]?=some [.slice Aw lr.length cw]:=by rw [Int.toNat_natCast,List.getElem?_map,hxw];show some [Value.slice xw.A xw.n xw.c]=_;rw [hxe,List.length_map]
    have hlb:=hPr lr (List.mem_of_getElem? hlr)
    refine G.rg fun R hR=>?_
    refine D.ai (hws.mono mup) rfl rfl rfl rfl rfl rfl rfl rfl rfl rfl om_ hrow fl_ (fun p42 hp42=>?_)
    refine D.aa hp42 ?_
    refine D.q9 1 3 4 5 6 7 10 38 39 40 hR ?_
    refine G.rp 3 fun R hR=>?_
    refine D.aa (bkT hb3 1) ?_
    refine D.ae ?_
    refine D.ax _ ?_
    refine D.q9 1 3 4 5 6 7 38 39 40 50 hR ?_
    refine G.cd (fun h50=>?_) fun h50=>?_
    ·have hne:lr.length≠q.al.m+1:=by
      intro h
      have h50':(!decide ((lr.length:Int)=q.r.length+1))=true:=h50
      have e1:q.al.m=q.r.length:=rfl
      rw [decide_eq_true om_] at h50'
      exact absurd h50' (by decide)
     refine G.rg fun R hR=>?_
     refine D.ac (j:=0) ?_
     refine D.e1 6 hR ?_
     refine G.aA (G.eG (Ds:=[]) (.inl rfl) (res_c1 (.head _) rfl rfl rfl rfl) ?_)
     exact ⟨rfl,5,rfl,fun h=>absurd h (by decide),fun h=>absurd (by simpa using (hvi.1 h).2.1 (lr.map aK) (List.mem_map.2 ⟨lr,List.mem_of_getElem? hlr,rfl⟩)) hne⟩
    ·have hlm:lr.length=q.r.length+1:=by
      have h50':(!decide ((lr.length:Int)=q.r.length+1))=false:=h50
      simp at h50'
      omega
     refine G.rg fun R hR=>?_
     refine D.ax _ ?_
     refine D.q8 1 3 4 5 6 7 38 39 40 hR ?_
     refine G.aB (m':=ws.length-(i+1)) om_ hle0 (h_8 3 4 5 6 7 38 39 40) ⟨i+1,⟨by omega,fun l h=>by rw [List.take_add_one,hlr] at h;rcases List.mem_append.1 h with h | h;exact hrl l h;(simp at h;subst h;exact hlm)⟩,rfl,rfl,rfl⟩
   ·obtain rfl:i=ws.length:=by have:=of_decide_eq_false h41;omega
    have hPm:∀ l∈P,l.length=q.r.length+1:=by rw [hwl,List.take_length] at hrl;exact hrl
    refine G.bH (fun fr C' L' μ=>∃ (A58:Option Addr)(n58 c58:Nat)(x56:SV),(Sl C' 1 (.slice x56.A x56.n x56.c) [[strV t]])/\fr=[(3,[],.pointer (some ⟨b3,0,none⟩)),(4,[],.pointer (some ⟨b4,0,none⟩)),(5,[],.pointer (some ⟨b5,0,none⟩)),(6,[],.pointer (some ⟨b6,0,none⟩)),(7,[],strV (qtx s)),(58,[],.slice A58 n58 c58),(59,[],.int .i64 n58),(60,[],.int .i64 0)]/\L'=[.arr (.slice A58 n58 c58) 48 1 (ws.length+[x56.enc].length) ((ws.map SV.enc).flatten++[x56.enc].flatten),.obj b6 (.cells ⟨[.int .i64 0]⟩ 36 (0,0))]) ?_ (fun fr Cr12 Lr12 μ hler12 hI=>?_)
    ·refine G.eA (.cut [0,2,8] (.alt 1 (.fin [3,4,5,6,7]) (.alt 3 (.cut [] (.alt 1 (.fin [4,5,6,7]) (.alt 4 (.cut [] (.alt 1 (.fin [5,6,7]) (.alt 5 (.fin [1,6,7]) .stop))) .stop))) .stop))) [(1,3)] rfl rfl kr_ (fun R hB hR hH=>?_)
     refine D.aa (bkT hb5 1) ?_
     refine D.ps 2 ?_
     refine D.az hH rfl ⟨?_, ?_,trivial⟩
     ·refine D.call (cloneS_fn _ _ ws (hws.mono mup) om_) rfl (.inr (by decide)) rfl rfl rfl rfl rfl rfl (List.Perm.refl _) fl_ (fun v53 C53 L53 hle53 hq53=>?_)
      refine D.aa (bkT hb4 1) ?_
      refine D.ah [[strV t]] (fun p56 C56 hle56 hs56=>?_)
      obtain ⟨A56,c56,rfl,_⟩:=id hs56
      refine D.ah [[.slice A56 1 c56]] (fun p57 C57 hle57 hs57=>?_)
      obtain ⟨A53,n53,c53,rfl,rfl⟩:=hq53
      refine D.ak (j:=0) rfl rfl rfl rfl rfl rfl rfl rfl rfl rfl rfl (hs57.mono mup) rfl (by simp only [List.length_singleton,maxLen];omega) (by show (ws.length+1)*24<=_;omega) fl_ (fun A58 n58 c58=>?_)
      refine D.q8 1 3 4 5 6 7 58 59 60 hR ?_
      exact G.ay 0 mup (h_8 3 4 5 6 7 58 59 60) ⟨A58,n58,c58,⟨A56,1,c56⟩,hs56.mono mup,rfl,rfl⟩
     ·refine D.aa (bkT hb4 1) ?_
      refine D.az hH rfl ⟨?_, ?_,trivial⟩
      ·refine D.call (cloneS_fn _ _ ws (hws.mono mup) om_) rfl (.inr (by decide)) rfl rfl rfl rfl rfl rfl (List.Perm.refl _) fl_ (fun v53 C53 L53 hle53 hq53=>?_)
       refine D.ah [[strV t]] (fun p56 C56 hle56 hs56=>?_)
       obtain ⟨A56,c56,rfl,_⟩:=id hs56
       refine D.ah [[.slice A56 1 c56]] (fun p57 C57 hle57 hs57=>?_)
       obtain ⟨A53,n53,c53,rfl,rfl⟩:=hq53
       refine D.ak (j:=0) rfl rfl rfl rfl rfl rfl rfl rfl rfl rfl rfl (hs57.mono mup) rfl (by simp only [List.length_singleton,maxLen];omega) (by show (ws.length+1)*24<=_;omega) fl_ (fun A58 n58 c58=>?_)
       refine D.q8 1 3 4 5 6 7 58 59 60 hR ?_
       exact G.ay 0 mup (h_8 3 4 5 6 7 58 59 60) ⟨A58,n58,c58,⟨A56,1,c56⟩,hs56.mono mup,rfl,rfl⟩
      ·refine D.ah [[strV t]] (fun p56 C56 hle56 hs56=>?_)
       refine D.az hH rfl ⟨?_, ?_,trivial⟩
       ·refine D.call (cloneS_fn _ _ ws (hws.mono mup) om_) rfl (.inr (by decide)) rfl rfl rfl rfl rfl rfl (List.Perm.refl _) fl_ (fun v53 C53 L53 hle53 hq53=>?_)
        obtain ⟨A56,c56,rfl,_⟩:=id hs56
        refine D.ah [[.slice A56 1 c56]] (fun p57 C57 hle57 hs57=>?_)
        obtain ⟨A53,n53,c53,rfl,rfl⟩:=hq53
        refine D.ak (j:=0) rfl rfl rfl rfl rfl rfl rfl rfl rfl rfl rfl (hs57.mono mup) rfl (by simp only [List.length_singleton,maxLen];omega) (by show (ws.length+1)*24<=_;omega) fl_ (fun A58 n58 c58=>?_)
        refine D.q8 1 3 4 5 6 7 58 59 60 hR ?_
        exact G.ay 0 mup (h_8 3 4 5 6 7 58 59 60) ⟨A58,n58,c58,⟨A56,1,c56⟩,hs56.mono mup,rfl,rfl⟩
       ·obtain ⟨A56,c56,rfl,_⟩:=id hs56
        refine D.ah [[.slice A56 1 c56]] (fun p57 C57 hle57 hs57=>?_)
        refine D.call (cloneS_fn _ _ ws (hws.mono mup) om_) rfl (.inr (by decide)) rfl rfl rfl rfl rfl rfl (List.Perm.refl _) fl_ (fun v53 C53 L53 hle53 hq53=>?_)
        obtain ⟨A53,n53,c53,rfl,rfl⟩:=hq53
        refine D.ak (j:=0) rfl rfl rfl rfl rfl rfl rfl rfl rfl rfl rfl (hs57.mono mup) rfl (by simp only [List.length_singleton,maxLen];omega) (by show (ws.length+1)*24<=_;omega) fl_ (fun A58 n58 c58=>?_)
        refine D.q8 1 3 4 5 6 7 58 59 60 hR ?_
        exact G.ay 0 mup (h_8 3 4 5 6 7 58 59 60) ⟨A58,n58,c58,⟨A56,1,c56⟩,hs56.mono mup,rfl,rfl⟩
    obtain ⟨A58,n58,c58,x56,hx56,rfl,rfl⟩:=hI
    refine G.freezeArr 0 ((ws++[x56]).map SV.enc) rfl (by simp) (by intro r hr;obtain ⟨y,_,rfl⟩:=List.mem_map.1 hr;rfl) (by simp) (fun C58 hle58 hs58=>?_)
    obtain ⟨P2,hP2⟩:∃ P2,P++[[t]]=P2:=⟨_,rfl⟩
    obtain ⟨ws2,hws2⟩:∃ ws2,ws++[x56]=ws2:=⟨_,rfl⟩
    have hwr2:∀ (i:Nat)(x:SV)(l:List Str),ws2[i]?=some x->P2[i]?=some l->Sl C58 1 (.slice x.A x.n x.c) (l.map encS):=by
     subst hP2 hws2
     intro i x l h1 h2
     rcases Nat.lt_or_ge i ws.length with h | h
     ·rw [List.getElem?_append_left h] at h1
      rw [List.getElem?_append_left om_] at h2
      exact (hwr i x l h1 h2).mono mup
     ·rw [List.getElem?_append_right h] at h1
      rw [List.getElem?_append_right om_,<- hwl] at h2
      cases hk:i-ws.length with
      | zero =>
       rw [hk] at h1 h2
       simp at h1 h2
       subst h1 h2
       exact hx56.mono mup
      | succ d=>rw [hk] at h1;simp at h1
    have hwl2:ws2.length=P2.length:=by subst hP2 hws2;simp [hwl]
    have hPr2:∀ l∈P2,l.length<=1000/\∀ s∈l,s.length<=1000:=by
     subst hP2
     intro l h
     rcases List.mem_append.1 h with h | h
     ·exact hPr l h
     ·simp at h;subst h;exact ⟨by simp,fun s h=>by simp at h;subst h;exact ht⟩
    have hw2n:ws2.length<=1001:=by subst hws2;simp;omega
    rw [hws2] at hs58
    obtain ⟨_,_,he58,_⟩:=id hs58
    cases he58
    simp only [List.length_map] at hs58 ⊢
    refine G.loop (fun fr C' L' μ=>∃ (i:Nat),(i<=ws2.length/\∀ l∈P2.take i,∀ s∈l,(aK s).isSome=true)/\fr=[(3,[],.pointer (some ⟨b3,0,none⟩)),(4,[],.pointer (some ⟨b4,0,none⟩)),(5,[],.pointer (some ⟨b5,0,none⟩)),(6,[],.pointer (some ⟨b6,0,none⟩)),(7,[],strV (qtx s)),(58,[],.slice A58 ws2.length c58),(59,[],.int .i64 ws2.length),(60,[],.int .i64 i)]/\L'=[.obj b6 (.cells ⟨[.int .i64 0]⟩ 36 (0,0))]/\μ=ws2.length-i) (h_8 3 4 5 6 7 58 59 60) ⟨0,⟨Nat.zero_le _,by simp⟩,rfl,rfl,rfl⟩ (fun fr C1' L1' m hle1 hI=>?_)
    obtain ⟨i,⟨hi,hrs⟩,rfl,rfl,rfl⟩:=hI
    refine G.z9 1 3 4 5 6 7 58 59 60 61 ?_
    refine G.cd (fun h61=>?_) fun h61=>?_
    ·have hil:i<ws2.length:=by have:=of_decide_eq_true h61;omega
     have hipl:i<P2.length:=by omega
     obtain ⟨xw,hxw⟩:∃ xw,ws2[i]?=some xw:=⟨_,List.getElem?_eq_getElem hil⟩
     obtain ⟨lr,hlr⟩:∃ lr,P2[i]?=some lr:=⟨_,List.getElem?_eq_getElem hipl⟩
     have hsr:=hwr2 i xw lr hxw hlr
     obtain ⟨Aw,cw,hxe,_⟩:=id hsr
     rw [hxe] at hsr
     rw [List.length_map] at hsr hxe
     have hrow:(ws2.map SV.enc)[((i:Nat):Int).toNat]?=some [.slice Aw lr.length cw]:=by rw [Int.toNat_natCast,List.getElem?_map,hxw];show some [Value.slice xw.A xw.n xw.c]=_;rw [hxe]
     have hlb:=hPr2 lr (List.mem_of_getElem? hlr)
     refine G.rg fun R hR=>?_
     refine D.ai (hs58.mono mup) rfl rfl rfl rfl rfl rfl rfl rfl rfl rfl om_ hrow fl_ (fun p62 hp62=>?_)
     refine D.aa hp62 ?_
     refine D.q9 1 3 4 5 6 7 12 58 59 60 hR ?_
     refine G.z11 3 3 4 5 6 7 58 59 60 64 65 66 ?_
     refine G.loop (fun fr C' L' μ=>∃ (j:Nat),(j<=lr.length/\∀ s∈lr.take j,(aK s).isSome=true)/\fr=[(3,[],.pointer (some ⟨b3,0,none⟩)),(4,[],.pointer (some ⟨b4,0,none⟩)),(5,[],.pointer (some ⟨b5,0,none⟩)),(6,[],.pointer (some ⟨b6,0,none⟩)),(7,[],strV (qtx s)),(58,[],.slice A58 ws2.length c58),(59,[],.int .i64 ws2.length),(60,[],.int .i64 i),(64,[],.slice Aw lr.length cw),(65,[],.int .i64 lr.length),(66,[],.int .i64 j)]/\L'=[.obj b6 (.cells ⟨[.int .i64 0]⟩ 36 (0,0))]/\μ=lr.length-j) (h_11 3 4 5 6 7 58 59 60 64 65 66) ⟨0,⟨Nat.zero_le _,by simp⟩,rfl,rfl,rfl⟩ (fun fr C2' L2' m hle2 hI=>?_)
     obtain ⟨j,⟨hj,hrj⟩,rfl,rfl,rfl⟩:=hI
     refine G.z12 1 3 4 5 6 7 58 59 60 64 65 66 67 ?_
     refine G.cd (fun h67=>?_) fun h67=>?_
     ·have hjl:j<lr.length:=by have:=of_decide_eq_true h67;omega
      obtain ⟨tx,htx⟩:∃ tx,lr[j]?=some tx:=⟨_,List.getElem?_eq_getElem hjl⟩
      have hcell:(lr.map encS)[((j:Nat):Int).toNat]?=some [strV tx]:=by rw [Int.toNat_natCast,List.getElem?_map,htx];rfl
      have htl:=hlb.2 tx (List.mem_of_getElem? htx)
      refine G.rg fun R hR=>?_
      refine D.ai (hsr.mono mup) rfl rfl rfl rfl rfl rfl rfl rfl rfl rfl om_ hcell fl_ (fun p68 hp68=>?_)
      refine D.aa hp68 ?_
      refine D.q12 1 3 4 5 6 7 14 58 59 60 64 65 66 hR ?_
      refine G.rp 1 fun R hR=>?_
      refine D.au (dV _ (hT.mono mup) tx om_) rfl rfl rfl rfl rfl rfl rfl fl_ ?_
      refine D.q12 1 3 4 5 6 7 58 59 60 64 65 66 72 hR ?_
      refine G.cd (fun h72=>?_) fun h72=>?_
      ·have hbad:(aK tx).isSome=false:=by
        cases hb:(aK tx).isSome with
        | false=>rfl
        | true =>
         have h72':(!decide (chkZ (dW tx)=0))=true:=h72
         rw [ratOk_eq,hb] at h72'
         exact absurd h72' (by decide)
       refine G.rg fun R hR=>?_
       refine D.ac (j:=0) ?_
       refine D.e1 6 hR ?_
       refine G.aA (G.eG (Ds:=[]) (.inl rfl) (res_c1 (.head _) rfl rfl rfl rfl) ?_)
       refine ⟨rfl,2,rfl,fun h=>absurd h (by decide),fun h=>?_⟩
       obtain ⟨_,_,hv3,_,hv5,_⟩:=hvi.1 h
       have hm2:=List.mem_of_getElem? hlr
       subst hP2
       rcases List.mem_append.1 hm2 with h1 | h1
       ·have:=hv3 _ (List.mem_map.2 ⟨lr,h1,rfl⟩) _ (List.mem_map.2 ⟨tx,List.mem_of_getElem? htx,rfl⟩)
        rw [hbad] at this;cases this
       ·simp at h1
        subst h1
        have h2:=List.mem_of_getElem? htx
        simp at h2
        subst h2
        rw [hv5] at hbad;cases hbad
      ·have hgood:(aK tx).isSome=true:=by
        cases hb:(aK tx).isSome with
        | true=>rfl
        | false =>
         have h72':(!decide (chkZ (dW tx)=0))=false:=h72
         rw [ratOk_eq,hb] at h72'
         exact absurd h72' (by decide)
       refine G.rg fun R hR=>?_
       refine D.ax _ ?_
       refine D.q11 1 3 4 5 6 7 58 59 60 64 65 66 hR ?_
       refine G.aB (m':=lr.length-(j+1)) om_ hle2 (h_11 3 4 5 6 7 58 59 60 64 65 66) ⟨j+1,⟨by omega,fun s' h=>by rw [List.take_add_one,htx] at h;rcases List.mem_append.1 h with h | h;exact hrj s' h;(simp at h;subst h;exact hgood)⟩,rfl,rfl,rfl⟩
     ·obtain rfl:j=lr.length:=by have:=of_decide_eq_false h67;omega
      rw [List.take_length] at hrj
      refine G.rg fun R hR=>?_
      refine D.ax _ ?_
      refine D.q8 1 3 4 5 6 7 58 59 60 hR ?_
      refine G.aB (m':=ws2.length-(i+1)) om_ mup (h_8 3 4 5 6 7 58 59 60) ⟨i+1,⟨by omega,fun l h=>by rw [List.take_add_one,hlr] at h;rcases List.mem_append.1 h with h | h;exact hrs l h;(simp at h;subst h;exact hrj)⟩,rfl,rfl,rfl⟩
    ·obtain rfl:i=ws2.length:=by have:=of_decide_eq_false h61;omega
     rw [hwl2,List.take_length] at hrs
     have hPs:∀ l∈P,∀ s∈l,(aK s).isSome=true:=fun l h=>hrs l (by rw [<- hP2];exact List.mem_append_left _ h)
     obtain ⟨t',ht'⟩:=Option.isSome_iff_exists.1 (hrs [t] (by rw [<- hP2];exact List.mem_append_right _ (List.mem_singleton.2 rfl)) t (List.mem_singleton.2 rfl))
     obtain ⟨rfl,qt'⟩:=readM_get ht'
     obtain ⟨hTR,hvq⟩:=pot_tab hP hPn hPm hPs
     obtain ⟨wt,hwt,hwtl,hwtr⟩:=id hTR.ex
     obtain ⟨w0',hw01,hw02⟩:=ws_at hwtl (Nat.zero_le _)
     have hw0r:=hwtr _ _ hw01
     obtain ⟨wn,hwn1,hwn2⟩:=ws_at hwtl (Nat.le_refl _)
     have hwnr:=hwtr _ _ hwn1
     refine G.aI [0,1,2,3,4,5,6,7,8,9,10,11,12,13,14,15,16,17,18,19,20,21,22,23,24,25,26,27] [] rfl kr_ (fun R hB hR=>?_)
     refine D.aa (bkT hb5 1) ?_
     refine D.ai (hwt.mono mup) rfl rfl rfl rfl rfl rfl rfl rfl rfl rfl om_ hw02 fl_ (fun p76 hp76=>?_)
     refine D.aa hp76 ?_
     refine D.ai (hw0r.mono mup) rfl rfl rfl rfl rfl rfl rfl rfl rfl rfl om_ (bS (Nat.zero_le _)) fl_ (fun p78 hp78=>?_)
     refine D.aa hp78 ?_
     refine D.ps 3 ?_
     refine D.aD rfl rfl rfl rfl rfl rfl (fun _=>PtrTo.blockT (Mem.get hb4 mup) _ 1) rfl rfl rfl ?_
     refine D.ps 2 ?_
     refine D.ar ?_
     refine D.ae ?_
     refine D.aD rfl rfl rfl rfl rfl rfl (fun _=>PtrTo.blockT (Mem.get hb5 mup) _ 1) rfl rfl rfl ?_
     refine D.ae ?_
     refine D.aD rfl rfl rfl rfl rfl rfl (fun _=>PtrTo.blockT (Mem.get hb3 mup) _ 1) rfl rfl rfl ?_
     refine D.ae ?_
     refine D.index rfl rfl rfl rfl rfl rfl rfl rfl rfl rfl (fun hg=>⟨(hwt.mono mup),by omega,hwn2⟩) fl_ rfl (fun p92 hp92=>?_)
     refine D.aD rfl rfl rfl rfl rfl rfl hp92 rfl rfl rfl ?_
     refine D.ae ?_
     refine D.aD rfl rfl rfl rfl rfl rfl (fun _=>PtrTo.blockT (Mem.get hb3 mup) _ 1) rfl rfl rfl ?_
     refine D.ae ?_
     refine D.index rfl rfl rfl rfl rfl rfl rfl rfl rfl rfl (fun hg=>⟨(hwnr.mono mup),by omega,bS (Nat.le_refl _)⟩) fl_ rfl (fun p97 hp97=>?_)
     refine D.aD rfl rfl rfl rfl rfl rfl hp97 rfl rfl rfl ?_
     refine D.ae ?_
     refine D.aD rfl rfl rfl rfl rfl rfl (fun _=>PtrTo.blockT (Mem.get hb4 mup) _ 1) rfl rfl rfl ?_
     refine D.ae ?_
     refine D.ar ?_
     refine D.e4 3 5 6 102 hR ?_
     refine G.cd (fun h102=>?_) fun h102=>?_
     ·have hno:¬ (valM P 0 0=0/\t'=s/\valM P q.l.length q.r.length=t'):=by
       rintro ⟨e1,e2,e3⟩
       have h:(!(qtx (valM P 0 0) == [48]) || !(qtx t' == qtx s) || !(qtx (valM P q.l.length q.r.length) == qtx t'))=true:=h102
       rw [e1,e2,e3,qtx00,e2] at h
       simp at h
      refine G.rg fun R hR=>?_
      refine D.ac (j:=0) ?_
      refine D.e1 6 hR ?_
      refine G.aA (G.eG (Ds:=[]) (.inl rfl) (res_c1 (.head _) rfl rfl rfl rfl) ?_)
      refine ⟨rfl,23,rfl,fun h=>absurd h (by decide),fun h=>absurd ?_ hno⟩
      obtain ⟨_,_,_,hv4,hv5,hv6,_⟩:=hvi.1 h
      rw [(hvq 0 0 (Nat.zero_le _) (Nat.zero_le _)).2] at hv4
      have hv6':atP (P.map (·.map aK)) (q.l.length,q.r.length)=aK (qtx t'):=hv6
      rw [(hvq _ _ (Nat.le_refl _) (Nat.le_refl _)).2,ht'] at hv6'
      rw [ht'] at hv5
      exact ⟨Option.some.inj hv4,Option.some.inj hv5,Option.some.inj hv6'⟩
     ·have hyes:valM P 0 0=0/\t'=s/\valM P q.l.length q.r.length=t':=by
       have h:(!(qtx (valM P 0 0) == [48]) || !(qtx t' == qtx s) || !(qtx (valM P q.l.length q.r.length) == qtx t'))=false:=h102
       rw [<- qtx00] at h
       simp only [Bool.or_eq_false_iff,Bool.not_eq_false',beq_iff_eq] at h
       exact ⟨qtx_eq h.1.1,qtx_eq h.1.2,qtx_eq h.2⟩
      refine G.rg fun R hR=>?_
      refine D.aa (bkT hb5 1) ?_
      refine D.q5 2 3 5 6 104 105 hR ?_
      refine G.eO (fun dd fr C' L' μ=>∃ (i:Nat)(Ds:List Nat),(i<=ws.length/\∀ i',i'<i->∀ j',j'<q.al.m+1->q.al.Fall (P.map (·.map aK)) i' j')/\dd=Ds.map d4/\fr=[(3,[],.pointer (some ⟨b3,0,none⟩)),(5,[],.pointer (some ⟨b5,0,none⟩)),(6,[],.pointer (some ⟨b6,0,none⟩)),(104,[],.int .i64 ws.length),(105,[],.int .i64 i)]
       /\ L'=.obj b6 (.cells ⟨[.int .i64 0]⟩ 36 (0,0))::Ds.map ce/\μ=ws.length-i) (h_5 3 5 6 104 105) ⟨0,[],⟨Nat.zero_le _,fun _ h=>absurd h (Nat.not_lt_zero _)⟩,rfl,rfl,rfl,rfl⟩ (fun dd fr C0' L0' m3 hle3 hI=>?_)
      obtain ⟨i,Ds,⟨hi,hfall⟩,rfl,rfl,rfl,rfl⟩:=hI
      refine G.z6 1 3 5 6 104 105 106 ?_
      refine G.cd (fun h106=>?_) fun h106=>?_
      ·have hil:i<=q.l.length:=by have:=of_decide_eq_true h106;omega
       obtain ⟨wi,hwi,hwi2⟩:=ws_at hwtl hil
       have hwir:=hwtr _ _ hwi
       obtain ⟨Ai,ci,rfl,_⟩:=id hwir
       have hcl:(d5 (valM P) q.r.length i).length=q.r.length+1:=by simp [d5]
       rw [hcl] at hwi2 hwir
       refine G.rp 1 fun R hR=>?_
       refine D.aj (fun b15=>?_)
       refine D.ac (j:=0) ?_
       refine D.e6 3 5 6 15 104 105 hR ?_
       refine G.freeze 0 rfl (fun C15 hle15 hb15=>?_)
       refine G.rg fun R hR=>?_
       refine D.aa (bkT hb5 1) ?_
       refine D.aa (bkT hb15 1) ?_
       refine D.ai (hwt.mono mup) rfl rfl rfl rfl rfl rfl rfl rfl rfl rfl om_ hwi2 fl_ (fun p110 hpp110=>?_)
       refine D.aa hpp110 ?_
       refine D.q8 2 3 5 6 15 104 105 112 113 hR ?_
       refine G.eO (fun dd fr C' L' μ=>∃ (j:Nat)(Ds:List Nat),(j<=q.r.length+1/\∀ j',j'<j->q.al.Fall (P.map (·.map aK)) i j')/\dd=Ds.map d4/\fr=[(3,[],.pointer (some ⟨b3,0,none⟩)),(5,[],.pointer (some ⟨b5,0,none⟩)),(6,[],.pointer (some ⟨b6,0,none⟩)),(15,[],.pointer (some ⟨b15,0,none⟩)),(104,[],.int .i64 ws.length),(105,[],.int .i64 i),(112,[],.int .i64 (q.r.length+1:Nat)),(113,[],.int .i64 j)]
        /\ L'=.obj b6 (.cells ⟨[.int .i64 0]⟩ 36 (0,0))::Ds.map ce/\μ=q.r.length+1-j) (h_8 3 5 6 15 104 105 112 113) ⟨0,_,⟨Nat.zero_le _,fun _ h=>absurd h (Nat.not_lt_zero _)⟩,rfl,rfl,rfl,rfl⟩ (fun dd fr C0' L0' m4 hle4 hI=>?_)
       obtain ⟨j,Ds,⟨hj,hfallj⟩,rfl,rfl,rfl,rfl⟩:=hI
       refine G.z9 1 3 5 6 15 104 105 112 113 114 ?_
       refine G.cd (fun h114=>?_) fun h114=>?_
       ·have hjl:j<=q.r.length:=by have:=of_decide_eq_true h114;omega
        refine G.rp 1 fun R hR=>?_
        refine D.aj (fun b16=>?_)
        refine D.ac (j:=0) ?_
        refine D.e9 3 5 6 15 16 104 105 112 113 hR ?_
        refine G.freeze 0 rfl (fun C16 hle16 hb16=>?_)
        refine G.rg fun R hR=>?_
        refine D.aa (bkT hb3 6) ?_
        refine D.aa (bkT hb15 1) ?_
        refine D.aa (bkT hb16 1) ?_
        refine D.aJ (steps_fn _ _ _ q i j) (fun v119 C119 hle119 hq119=>?_)
        obtain ⟨ca,cj,cq,rfl,hci,hcj,hcq⟩:=hq119
        refine D.e10 3 5 6 15 16 104 105 112 113 119 hR ?_
        have hit:=d9 C119 (hT.mono mup) _ _ q i j ca cj cq (hq.mono mup) ok.ok hil hjl hci hcj hcq
        refine G.cW (ps:=[120,121]) rfl rfl kr_ hit (fun v hv=>?_) (fun c L'=>L'=.obj b6 (.cells ⟨[.int .i64 0]⟩ 36 (0,0))::Ds.map ce/\∀ k∈(q.al.kinds i j).take c,valM P (nx k i j).1 (nx k i j).2<=valM P i j+q.al.co k i j) (fun cd _ L'=>cd=.ret/\L'=.obj b6 (.cells ⟨[.int .i64 23]⟩ 36 (0,0))::Ds.map ce/\q.al.fallsB (P.map (·.map aK))=false) ⟨rfl,fun k hk=>by simp at hk⟩ (fun v hv=>?_)
         (fun c L' frA LA=>∃ b17 k,(q.al.kinds i j)[c]?=some k/\frA=[(5,[],.pointer (some ⟨b5,0,none⟩)),(6,[],.pointer (some ⟨b6,0,none⟩)),(15,[],.pointer (some ⟨b15,0,none⟩)),(16,[],.pointer (some ⟨b16,0,none⟩)),(17,[],.pointer (some ⟨b17,0,none⟩)),(18,[],strV (qtx (q.cost k i j)))]/\LA=.obj b17 (.cells ⟨stepC k i j⟩ 50 (0,0))::L')
         ?_ ?_ ?_ ?_
        ·obtain ⟨c,hc⟩:=List.getElem?_of_mem hv
         obtain ⟨k,_,rfl⟩:=bp hc
         rfl
        ·obtain ⟨c,hc⟩:=List.getElem?_of_mem hv
         obtain ⟨k,_,rfl⟩:=bp hc
         rfl
        ·intro l2 c v L' W1 hI hv
         obtain ⟨k,hk,rfl⟩:=bp hv
         refine G.rg fun R hR=>?_
         refine D.aj (fun b17=>?_)
         refine D.ac (j:=0) ?_
         refine D.e6 5 6 15 16 17 121 hR ?_
         refine G.z6 1 5 6 15 16 17 18 ?_
         exact G.eT [(5,[],_),(6,[],_),(15,[],_),(16,[],_),(17,[],_),(18,[],_)] ⟨rfl,rfl,rfl,rfl,rfl,rfl,trivial⟩ ⟨b17,k,hk,rfl,rfl⟩
        ·intro l2 c v L' frA LA W1 hI hv hA
         obtain ⟨rfl,hIk⟩:=hI
         obtain ⟨b17,k,hk,rfl,rfl⟩:=hA
         have hok:=Al.mem_kinds.1 (List.mem_of_getElem? hk)
         have hcs:=ok.ok.small.q hok
         have qc:QB 1 (q.cost k i j):=hcs.1.qb2 (by have:=hcs.2;grind) (by have:=hcs.2;grind)
         obtain ⟨⟨hna,hnb⟩,hnc⟩:=Al.ok_nx (A:=q.al) hil hjl hok
         have hna':(nx k i j).1<=q.l.length:=hna
         have hnb':(nx k i j).2<=q.r.length:=hnb
         have hvn:=(hvq _ _ hna' hnb').1
         have hvi2:=(hvq _ _ hil hjl).1
         have hv47:QB (23+23+1) (valM P (nx k i j).1 (nx k i j).2):=hvn.le (by decide)
         have qc23:QB 23 (q.cost k i j):=qc.le (by decide)
         have hs47:QB (23+23+1) (valM P i j+q.cost k i j):=QB_add hvi2 qc23
         obtain ⟨wa,hwa,hwa2⟩:=ws_at hwtl hna'
         have hwar:=hwtr _ _ hwa
         refine G.freeze 0 rfl (fun C17 hle17 hb17=>?_)
         refine G.rg fun R hR=>?_
         refine D.aa (bkT hb17 3) ?_
         refine D.au (next_fn _ k i j om_ om_) rfl rfl rfl rfl rfl rfl rfl fl_ ?_
         refine D.q7 5 5 6 15 16 18 19 20 hR ?_
         refine G.aI [0,1,2,3,4,5,6,7,8,9,10,11,12,13,14,15,16,17] [(15,1),(16,1)] rfl kr_ (fun R hB hR=>?_)
         refine D.aa (bkT hb5 1) ?_
         refine D.ae ?_
         refine D.ai (hwt.mono mup) rfl rfl rfl rfl rfl rfl rfl rfl rfl rfl om_ hwa2 fl_ (fun p129 hpp129=>?_)
         refine D.aa hpp129 ?_
         refine D.ae ?_
         refine D.ai (hwar.mono mup) rfl rfl rfl rfl rfl rfl rfl rfl rfl rfl om_ (bS hnb) fl_ (fun p132 hpp132=>?_)
         refine D.aa hpp132 ?_
         refine D.aa (bkT hb5 1) ?_
         refine D.aa (bkT hb15 1) ?_
         refine D.ai (hwt.mono mup) rfl rfl rfl rfl rfl rfl rfl rfl rfl rfl om_ hwi2 fl_ (fun p136 hpp136=>?_)
         refine D.aa hpp136 ?_
         refine D.aa (bkT hb16 1) ?_
         refine D.ai (hwir.mono mup) rfl rfl rfl rfl rfl rfl rfl rfl rfl rfl om_ (bS hjl) fl_ (fun p139 hpp139=>?_)
         refine D.aa hpp139 ?_
         refine D.ae ?_
         refine D.aU (fun _=>ee _ (hT.mono mup) (valM P i j) (q.cost k i j) 23 (by decide) (by decide) hvi2 qc23) rfl rfl rfl rfl rfl rfl rfl rfl rfl ?_
         refine D.aU (fun _=>ed _ (hT.mono mup) (valM P (nx k i j).1 (nx k i j).2) (valM P i j+q.cost k i j) (23+23+1) (by decide) (by decide) hv47 hs47) rfl rfl rfl rfl rfl rfl rfl rfl rfl ?_
         refine D.q2 1 6 144 hR ?_
         refine G.cd (fun h144=>?_) fun h144=>?_
         ·have hgt:¬ valM P (nx k i j).1 (nx k i j).2<=valM P i j+q.cost k i j:=by
           intro h
           have h1:=of_decide_eq_true h144
           unfold cmpQ at h1
           have h2:¬ (valM P i j+q.cost k i j<valM P (nx k i j).1 (nx k i j).2):=by grind
           rw [if_neg h2] at h1
           split at h1 <;> omega
          refine G.rg fun R hR=>?_
          refine D.ac (j:=0) ?_
          refine D.e1 6 hR ?_
          exact G.aA (G.eQ (e:=.ret) (c:=.ret) (X:=fun cd L'=>cd=.ret/\L'=.obj b6 (.cells ⟨[.int .i64 23]⟩ 36 (0,0))::Ds.map ce/\q.al.fallsB (P.map (·.map aK))=false) rfl ⟨rfl,rfl,Al.falls_not hil hjl hok hgt⟩)
         ·have hle:valM P (nx k i j).1 (nx k i j).2<=valM P i j+q.cost k i j:=by
           have h1:=of_decide_eq_false h144
           unfold cmpQ at h1
           by_cases h2:valM P i j+q.cost k i j<valM P (nx k i j).1 (nx k i j).2
           ·rw [if_neg (by grind),if_pos h2] at h1
            exact absurd (by decide) h1
           ·grind
          refine G.eI ⟨rfl,fun k' hk'=>?_⟩
          rw [List.take_add_one,hk] at hk'
          rcases List.mem_append.1 hk' with h | h
          ·exact hIk k' h
          ·simp at h
           subst h
           exact hle
        ·intro D0 L' hI
         obtain ⟨rfl,hIk⟩:=hI
         have hln2:(de q i j).length=(q.al.kinds i j).length:=by simp [de]
         rw [hln2,List.take_length] at hIk
         refine G.rg fun R hR=>?_
         refine D.ax ((j+1:Nat):Int) ?_
         refine D.q8 1 3 5 6 15 104 105 112 113 hR ?_
         refine G.perm (L':=.obj b6 (.cells ⟨[.int .i64 0]⟩ 36 (0,0))::(D0::Ds).map ce) (List.Perm.swap _ _ _) ?_
         refine G.eB (dd:=(D0::Ds).map d4) (m':=q.r.length+1-(j+1)) om_ mup (h_8 3 5 6 15 104 105 112 113) ⟨j+1,D0::Ds,⟨by omega,fun j' hj'=>?_⟩,rfl,rfl,rfl,rfl⟩
         rcases Nat.lt_or_ge j' j with h | h
         ·exact hfallj j' h
         ·obtain rfl:j'=j:=by omega
          exact fun k hk=>hIk k (Al.mem_kinds.2 hk)
        ·intro D0 c cd L' hc hX
         obtain ⟨rfl,rfl,hf⟩:=hX
         refine G.aA ?_
         refine G.perm (L':=(D0::Ds).map ce++[.obj b6 (.cells ⟨[.int .i64 23]⟩ 36 (0,0))]) (.cons _ (List.perm_append_comm (l₁:=[_]))) ?_
         refine G.eG (Ds:=D0::Ds) (.inl rfl) (res_c1 (.head _) rfl rfl rfl rfl) ?_
         exact ⟨rfl,23,rfl,fun h=>absurd h (by decide),fun h=>by have:=(hvi.1 h).2.2.2.2.2.2;rw [hf] at this;cases this⟩
       ·obtain rfl:j=q.r.length+1:=by have:=of_decide_eq_false h114;omega
        refine G.rg fun R hR=>?_
        refine D.ax ((i+1:Nat):Int) ?_
        refine D.q5 1 3 5 6 104 105 hR ?_
        refine G.eB (dd:=Ds.map d4) (m':=ws.length-(i+1)) om_ mup (h_5 3 5 6 104 105) ⟨i+1,Ds,⟨by omega,fun i' hi'=>?_⟩,rfl,rfl,rfl,rfl⟩
        rcases Nat.lt_or_ge i' i with h | h
        ·exact hfall i' h
        ·obtain rfl:i'=i:=by omega
         exact hfallj
      ·obtain rfl:i=ws.length:=by have:=of_decide_eq_false h106;omega
       refine G.rg fun R hR=>?_
       refine D.ac (j:=0) ?_
       refine D.e1 6 hR ?_
       refine G.aA ?_
       refine G.perm (L':=Ds.map ce++[.obj b6 (.cells ⟨[.int .i64 0]⟩ 36 (0,0))]) (List.perm_append_comm (l₁:=[_])) ?_
       refine G.eG (.inl rfl) (res_c1 (.head _) rfl rfl rfl rfl) ?_
       refine ⟨rfl,0,rfl,fun _=>hvi.2 ?_,fun _=>rfl⟩
       exact ⟨by rw [List.length_map];exact hPn,fun l hl=>by obtain ⟨l0,h0,rfl⟩:=List.mem_map.1 hl;rw [List.length_map];exact hPm l0 h0,fun l hl x hx=>by obtain ⟨l0,h0,rfl⟩:=List.mem_map.1 hl;obtain ⟨s0,h1,rfl⟩:=List.mem_map.1 hx;exact hPs l0 h0 s0 h1,by rw [(hvq 0 0 (Nat.zero_le _) (Nat.zero_le _)).2,hyes.1],by rw [ht',hyes.2.1],by show atP _ (q.l.length,q.r.length)=_;rw [(hvq _ _ (Nat.le_refl _) (Nat.le_refl _)).2,hyes.2.2,ht'],Al.falls_of fun i' hi' j' hj'=>hfall i' (by have e1:q.al.n=q.l.length:=rfl;omega) j' hj'⟩
end Go.Proofs.YtjhmlnebikbdbaaGreatDoor
