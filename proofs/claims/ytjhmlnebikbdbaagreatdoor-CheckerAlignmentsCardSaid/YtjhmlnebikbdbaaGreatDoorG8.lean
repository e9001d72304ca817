/- Laws that the proofs of this seat share, part 8. -/
import Derived.Test.YtjhmlnebikbdbaaGreatDoorG7
import Derived.Test.YtjhmlnebikbdbaaGreatDoorShelf
import Derived.RangeFuncSeq
set_option maxHeartbeats 4000000
namespace Go.Proofs.YtjhmlnebikbdbaaGreatDoor
open Go Go.Jog Go.Jog.Dp
set_option maxRecDepth 100000

theorem bu {l:List Iv}{i:Nat}(hi:i<l.length):(l.map ivC)[((i:Nat):Int).toNat]?=some (ivC (ivAt l i)):=by
 rw [Int.toNat_natCast,List.getElem?_map,List.getElem?_eq_getElem hi,db (List.getElem?_eq_getElem hi)];rfl
theorem iv_ok {l:List Iv}(h:∀ x∈l,x.Ok){i:Nat}(hi:i<l.length):(ivAt l i).Ok:=by
 rw [db (List.getElem?_eq_getElem hi)];exact h _ (List.getElem_mem hi)
theorem cost_fn (C:Mem)(hT:Tabs C)(vL vR:Value)(q:Qn)(k i j:Nat)(hq:QIn C vL vR q)(ok:q.Ok)(hk:i<=q.l.length/\j<=q.r.length/\q.al.ok k i j=true) :
  Gives cx.P 77 [.agg ⟨qC vL vR q⟩,stepV k i j] C (strV (qtx (q.cost k i j))):=by
 obtain ⟨AL,cL,rfl,_,_,_⟩:=id hq.l
 obtain ⟨AR,cR,rfl,_,_,_⟩:=id hq.r
 simp only [List.length_map] at hq ⊢
 obtain ⟨hi,hj,hko⟩:=hk
 have hln:=ok.ln
 have hrn:=ok.rn
 have hko':=hko
 unfold Al.ok Qn.al at hko'
 simp only [Bool.or_eq_true,Bool.and_eq_true,beq_iff_eq,decide_eq_true_eq] at hko'
 refine Fn.it kr_ Tryz.func77 101 fun w0=>?_
 refine G.rg fun R hR=>?_
 refine D.aM (fun b2=>?_)
 refine D.aM (fun b3=>?_)
 refine D.q2 1 2 3 hR ?_;clear hR R
 refine G.freeze 1 rfl (fun C2 hle2 hb2=>?_)
 refine G.freeze 0 rfl (fun C3 hle3 hb3=>?_)
 refine G.rp 1 fun R hR=>?_
 refine D.aa (bkT hb3 1) ?_
 refine D.e3 2 3 9 hR ?_;clear hR R
 refine G.z4 2 2 3 9 10 ?_
 refine G.cd (fun h10=>?_) fun h10=>?_
 ·obtain rfl:k=1:=by simp only [beq_iff_eq] at h10;omega
  have hil:i<q.l.length:=by omega
  have hjl:j<q.r.length:=by omega
  have hx:=iv_ok ok.l hil
  have hy:=iv_ok ok.r hjl
  have hd:=(hx.th.1.sub hy.th.1)
  have hd3:=abs_le3 hx.th.2 hy.th.2
  have hab:=abs_hf hd
  have hs:=hx.th.1.add hy.th.1
  have m1:=eu ok.c0 hab hd3.1 (by have:=hd3.2;grind)
  have m2:=eu ok.c1 hs (by have:=hx.th.2.1;have:=hy.th.2.1;grind) (by have:=hx.th.2.2;have:=hy.th.2.2;grind)
  have qd:QB 1 ((ivAt q.l i).thick-(ivAt q.r j).thick):=hd.qu.qb2 (by have:=hx.th.2;have:=hy.th.2;grind) (by have:=hx.th.2;have:=hy.th.2;grind)
  have qa:QB 1 (absQ ((ivAt q.l i).thick-(ivAt q.r j).thick)):=hab.qu.qb2 (by have:=hd3;grind) (by have:=hd3;grind)
  have qs:QB 1 ((ivAt q.l i).thick+(ivAt q.r j).thick):=hs.qu.qb2 (by have:=hx.th.2;have:=hy.th.2;grind) (by have:=hx.th.2;have:=hy.th.2;grind)
  refine G.eA (.cut [0,1,2,3,4,5,6,8] (.alt 7 (.cut [] (.alt 9 (.cut [10] (.alt 11 (.cut [] (.alt 12 (.fin [13,14,15]) (.alt 13 (.fin [12,14,15]) .stop))) (.alt 12 (.cut [] (.alt 11 (.fin [13,14,15]) (.alt 13 (.cut [] (.alt 11 (.fin [14,15]) (.alt 14 (.fin [11,15]) .stop))) .stop))) (.alt 13 (.cut [] (.alt 11 (.fin [12,14,15]) (.alt 12 (.cut [] (.alt 11 (.fin [14,15]) (.alt 14 (.fin [11,15]) .stop))) .stop))) .stop)))) (.alt 12 (.cut [] (.alt 9 (.cut [10] (.alt 11 (.fin [13,14,15]) (.alt 13 (.cut [] (.alt 11 (.fin [14,15]) (.alt 14 (.fin [11,15]) .stop))) .stop))) (.alt 13 (.cut [] (.alt 9 (.cut [10] (.alt 11 (.fin [14,15]) (.alt 14 (.fin [11,15]) .stop))) (.alt 14 (.fin [9,10,11,15]) .stop))) .stop))) (.alt 13 (.cut [] (.alt 9 (.cut [10] (.alt 11 (.fin [12,14,15]) (.alt 12 (.cut [] (.alt 11 (.fin [14,15]) (.alt 14 (.fin [11,15]) .stop))) .stop))) (.alt 12 (.cut [] (.alt 9 (.cut [10] (.alt 11 (.fin [14,15]) (.alt 14 (.fin [11,15]) .stop))) (.alt 14 (.fin [9,10,11,15]) .stop))) .stop))) .stop)))) (.alt 9 (.cut [] (.alt 7 (.cut [10] (.alt 11 (.cut [] (.alt 12 (.fin [13,14,15]) (.alt 13 (.fin [12,14,15]) .stop))) (.alt 12 (.cut [] (.alt 11 (.fin [13,14,15]) (.alt 13 (.cut [] (.alt 11 (.fin [14,15]) (.alt 14 (.fin [11,15]) .stop))) .stop))) (.alt 13 (.cut [] (.alt 11 (.fin [12,14,15]) (.alt 12 (.cut [] (.alt 11 (.fin [14,15]) (.alt 14 (.fin [11,15]) .stop))) .stop))) .stop)))) (.alt 12 (.cut [] (.alt 7 (.cut [10] (.alt 11 (.fin [13,14,15]) (.alt 13 (.cut [] (.alt 11 (.fin [14,15]) (.alt 14 (.fin [11,15]) .stop))) .stop))) (.alt 13 (.cut [] (.alt 7 (.cut [10] (.alt 11 (.fin [14,15]) (.alt 14 (.fin [11,15]) .stop))) (.alt 14 (.fin [7,10,11,15]) .stop))) .stop))) (.alt 13 (.cut [] (.alt 7 (.cut [10] (.alt 11 (.fin [12,14,15]) (.alt 12 (.cut [] (.alt 11 (.fin [14,15]) (.alt 14 (.fin [11,15]) .stop))) .stop))) (.alt 12 (.cut [] (.alt 7 (.cut [10] (.alt 11 (.fin [14,15]) (.alt 14 (.fin [11,15]) .stop))) (.alt 14 (.fin [7,10,11,15]) .stop))) .stop))) .stop)))) (.alt 12 (.cut [] (.alt 7 (.cut [] (.alt 9 (.cut [10] (.alt 11 (.fin [13,14,15]) (.alt 13 (.cut [] (.alt 11 (.fin [14,15]) (.alt 14 (.fin [11,15]) .stop))) .stop))) (.alt 13 (.cut [] (.alt 9 (.cut [10] (.alt 11 (.fin [14,15]) (.alt 14 (.fin [11,15]) .stop))) (.alt 14 (.fin [9,10,11,15]) .stop))) .stop))) (.alt 9 (.cut [] (.alt 7 (.cut [10] (.alt 11 (.fin [13,14,15]) (.alt 13 (.cut [] (.alt 11 (.fin [14,15]) (.alt 14 (.fin [11,15]) .stop))) .stop))) (.alt 13 (.cut [] (.alt 7 (.cut [10] (.alt 11 (.fin [14,15]) (.alt 14 (.fin [11,15]) .stop))) (.alt 14 (.fin [7,10,11,15]) .stop))) .stop))) (.alt 13 (.cut [] (.alt 7 (.cut [] (.alt 9 (.cut [10] (.alt 11 (.fin [14,15]) (.alt 14 (.fin [11,15]) .stop))) (.alt 14 (.fin [9,10,11,15]) .stop))) (.alt 9 (.cut [] (.alt 7 (.cut [10] (.alt 11 (.fin [14,15]) (.alt 14 (.fin [11,15]) .stop))) (.alt 14 (.fin [7,10,11,15]) .stop))) (.alt 14 (.fin [7,9,10,11,15]) .stop)))) .stop)))) (.alt 13 (.cut [] (.alt 7 (.cut [] (.alt 9 (.cut [10] (.alt 11 (.fin [12,14,15]) (.alt 12 (.cut [] (.alt 11 (.fin [14,15]) (.alt 14 (.fin [11,15]) .stop))) .stop))) (.alt 12 (.cut [] (.alt 9 (.cut [10] (.alt 11 (.fin [14,15]) (.alt 14 (.fin [11,15]) .stop))) (.alt 14 (.fin [9,10,11,15]) .stop))) .stop))) (.alt 9 (.cut [] (.alt 7 (.cut [10] (.alt 11 (.fin [12,14,15]) (.alt 12 (.cut [] (.alt 11 (.fin [14,15]) (.alt 14 (.fin [11,15]) .stop))) .stop))) (.alt 12 (.cut [] (.alt 7 (.cut [10] (.alt 11 (.fin [14,15]) (.alt 14 (.fin [11,15]) .stop))) (.alt 14 (.fin [7,10,11,15]) .stop))) .stop))) (.alt 12 (.cut [] (.alt 7 (.cut [] (.alt 9 (.cut [10] (.alt 11 (.fin [14,15]) (.alt 14 (.fin [11,15]) .stop))) (.alt 14 (.fin [9,10,11,15]) .stop))) (.alt 9 (.cut [] (.alt 7 (.cut [10] (.alt 11 (.fin [14,15]) (.alt 14 (.fin [11,15]) .stop))) (.alt 14 (.fin [7,10,11,15]) .stop))) (.alt 14 (.fin [7,9,10,11,15]) .stop)))) .stop)))) .stop))))) [] rfl rfl kr_ (fun R hB hR hH=>?_)
  refine G.share2 hR (fun b5 b6=>[(2,[],.pointer (some ⟨b2,0,none⟩)),(5,[],.pointer (some ⟨b5,0,none⟩)),(6,[],.pointer (some ⟨b6,0,none⟩))]) (fun b5 b6=>[.obj b5 (.cells ⟨ivC (ivAt q.l i)⟩ 156 (0,0)),.obj b6 (.cells ⟨ivC (ivAt q.r j)⟩ 156 (0,0))]) (fun hc=>?_) (fun b5 b6=>?_)
  ·refine D.ae ?_
   refine D.aa (bkT hb2 1) ?_
   refine D.ae ?_
   refine D.aa (bkT hb3 1) ?_
   refine D.ai (hq.l.mono mup) rfl rfl rfl rfl rfl rfl rfl rfl rfl rfl om_ (bu hil) fl_ (fun p16 hp16=>?_)
   refine D.aa hp16 ?_
   refine D.ps 2 ?_
   refine D.az hH rfl ⟨?_, ?_, ?_, ?_,trivial⟩
   ·refine D.aa (bkT hb2 1) ?_
    refine D.az hH rfl ⟨?_, ?_, ?_,trivial⟩
    ·refine D.aa (bkT hb3 1) ?_
     refine D.ai (hq.r.mono mup) rfl rfl rfl rfl rfl rfl rfl rfl rfl rfl om_ (bu hjl) fl_ (fun p22 hp22=>?_)
     refine D.az hH rfl ⟨?_, ?_, ?_,trivial⟩
     ·refine D.aa hp22 ?_
      refine D.az hH rfl ⟨?_, ?_,trivial⟩
      ·refine D.aj (fun b5=>?_)
       refine D.aj (fun b6=>?_)
       refine D.ac (j:=1) ?_
       refine D.ac (j:=1) ?_
       exact D.done [(2,[],_),(5,[],_),(6,[],_)] ⟨rfl,rfl,rfl,trivial⟩ (hR _ _ _ rfl (G.perm _ ((af (j:=1) rfl).trans (List.Perm.cons _ (List.Perm.refl _))) (hc b5 b6)))
      ·refine D.aj (fun b6=>?_)
       refine D.aj (fun b5=>?_)
       refine D.ac (j:=0) ?_
       refine D.ac (j:=1) ?_
       exact D.done [(2,[],_),(5,[],_),(6,[],_)] ⟨rfl,rfl,rfl,trivial⟩ (hR _ _ _ rfl (G.perm _ ((af (j:=1) rfl).trans (List.Perm.cons _ (List.Perm.refl _))) (hc b5 b6)))
     ·refine D.aj (fun b5=>?_)
      refine D.az hH rfl ⟨?_, ?_,trivial⟩
      ·refine D.aa hp22 ?_
       refine D.aj (fun b6=>?_)
       refine D.ac (j:=1) ?_
       refine D.ac (j:=1) ?_
       exact D.done [(2,[],_),(5,[],_),(6,[],_)] ⟨rfl,rfl,rfl,trivial⟩ (hR _ _ _ rfl (G.perm _ ((af (j:=1) rfl).trans (List.Perm.cons _ (List.Perm.refl _))) (hc b5 b6)))
      ·refine D.aj (fun b6=>?_)
       refine D.az hH rfl ⟨?_, ?_,trivial⟩
       ·refine D.aa hp22 ?_
        refine D.ac (j:=1) ?_
        refine D.ac (j:=1) ?_
        exact D.done [(2,[],_),(5,[],_),(6,[],_)] ⟨rfl,rfl,rfl,trivial⟩ (hR _ _ _ rfl (G.perm _ ((af (j:=1) rfl).trans (List.Perm.cons _ (List.Perm.refl _))) (hc b5 b6)))
       ·refine D.ac (j:=1) ?_
        refine D.aa hp22 ?_
        refine D.ac (j:=1) ?_
        exact D.done [(2,[],_),(5,[],_),(6,[],_)] ⟨rfl,rfl,rfl,trivial⟩ (hR _ _ _ rfl (G.perm _ ((af (j:=1) rfl).trans (List.Perm.cons _ (List.Perm.refl _))) (hc b5 b6)))
     ·refine D.aj (fun b6=>?_)
      refine D.az hH rfl ⟨?_, ?_,trivial⟩
      ·refine D.aa hp22 ?_
       refine D.aj (fun b5=>?_)
       refine D.ac (j:=0) ?_
       refine D.ac (j:=1) ?_
       exact D.done [(2,[],_),(5,[],_),(6,[],_)] ⟨rfl,rfl,rfl,trivial⟩ (hR _ _ _ rfl (G.perm _ ((af (j:=1) rfl).trans (List.Perm.cons _ (List.Perm.refl _))) (hc b5 b6)))
      ·refine D.aj (fun b5=>?_)
       refine D.az hH rfl ⟨?_, ?_,trivial⟩
       ·refine D.aa hp22 ?_
        refine D.ac (j:=0) ?_
        refine D.ac (j:=1) ?_
        exact D.done [(2,[],_),(5,[],_),(6,[],_)] ⟨rfl,rfl,rfl,trivial⟩ (hR _ _ _ rfl (G.perm _ ((af (j:=1) rfl).trans (List.Perm.cons _ (List.Perm.refl _))) (hc b5 b6)))
       ·refine D.ac (j:=0) ?_
        refine D.aa hp22 ?_
        refine D.ac (j:=1) ?_
        exact D.done [(2,[],_),(5,[],_),(6,[],_)] ⟨rfl,rfl,rfl,trivial⟩ (hR _ _ _ rfl (G.perm _ ((af (j:=1) rfl).trans (List.Perm.cons _ (List.Perm.refl _))) (hc b5 b6)))
    ·refine D.aj (fun b5=>?_)
     refine D.az hH rfl ⟨?_, ?_,trivial⟩
     ·refine D.aa (bkT hb3 1) ?_
      refine D.ai (hq.r.mono mup) rfl rfl rfl rfl rfl rfl rfl rfl rfl rfl om_ (bu hjl) fl_ (fun p22 hp22=>?_)
      refine D.az hH rfl ⟨?_, ?_,trivial⟩
      ·refine D.aa hp22 ?_
       refine D.aj (fun b6=>?_)
       refine D.ac (j:=1) ?_
       refine D.ac (j:=1) ?_
       exact D.done [(2,[],_),(5,[],_),(6,[],_)] ⟨rfl,rfl,rfl,trivial⟩ (hR _ _ _ rfl (G.perm _ ((af (j:=1) rfl).trans (List.Perm.cons _ (List.Perm.refl _))) (hc b5 b6)))
      ·refine D.aj (fun b6=>?_)
       refine D.az hH rfl ⟨?_, ?_,trivial⟩
       ·refine D.aa hp22 ?_
        refine D.ac (j:=1) ?_
        refine D.ac (j:=1) ?_
        exact D.done [(2,[],_),(5,[],_),(6,[],_)] ⟨rfl,rfl,rfl,trivial⟩ (hR _ _ _ rfl (G.perm _ ((af (j:=1) rfl).trans (List.Perm.cons _ (List.Perm.refl _))) (hc b5 b6)))
       ·refine D.ac (j:=1) ?_
        refine D.aa hp22 ?_
        refine D.ac (j:=1) ?_
        exact D.done [(2,[],_),(5,[],_),(6,[],_)] ⟨rfl,rfl,rfl,trivial⟩ (hR _ _ _ rfl (G.perm _ ((af (j:=1) rfl).trans (List.Perm.cons _ (List.Perm.refl _))) (hc b5 b6)))
     ·refine D.aj (fun b6=>?_)
      refine D.az hH rfl ⟨?_, ?_,trivial⟩
      ·refine D.aa (bkT hb3 1) ?_
       refine D.ai (hq.r.mono mup) rfl rfl rfl rfl rfl rfl rfl rfl rfl rfl om_ (bu hjl) fl_ (fun p22 hp22=>?_)
       refine D.az hH rfl ⟨?_, ?_,trivial⟩
       ·refine D.aa hp22 ?_
        refine D.ac (j:=1) ?_
        refine D.ac (j:=1) ?_
        exact D.done [(2,[],_),(5,[],_),(6,[],_)] ⟨rfl,rfl,rfl,trivial⟩ (hR _ _ _ rfl (G.perm _ ((af (j:=1) rfl).trans (List.Perm.cons _ (List.Perm.refl _))) (hc b5 b6)))
       ·refine D.ac (j:=1) ?_
        refine D.aa hp22 ?_
        refine D.ac (j:=1) ?_
        exact D.done [(2,[],_),(5,[],_),(6,[],_)] ⟨rfl,rfl,rfl,trivial⟩ (hR _ _ _ rfl (G.perm _ ((af (j:=1) rfl).trans (List.Perm.cons _ (List.Perm.refl _))) (hc b5 b6)))
      ·refine D.ac (j:=1) ?_
       refine D.aa (bkT hb3 1) ?_
       refine D.ai (hq.r.mono mup) rfl rfl rfl rfl rfl rfl rfl rfl rfl rfl om_ (bu hjl) fl_ (fun p22 hp22=>?_)
       refine D.aa hp22 ?_
       refine D.ac (j:=1) ?_
       exact D.done [(2,[],_),(5,[],_),(6,[],_)] ⟨rfl,rfl,rfl,trivial⟩ (hR _ _ _ rfl (G.perm _ ((af (j:=1) rfl).trans (List.Perm.cons _ (List.Perm.refl _))) (hc b5 b6)))
    ·refine D.aj (fun b6=>?_)
     refine D.az hH rfl ⟨?_, ?_,trivial⟩
     ·refine D.aa (bkT hb3 1) ?_
      refine D.ai (hq.r.mono mup) rfl rfl rfl rfl rfl rfl rfl rfl rfl rfl om_ (bu hjl) fl_ (fun p22 hp22=>?_)
      refine D.az hH rfl ⟨?_, ?_,trivial⟩
      ·refine D.aa hp22 ?_
       refine D.aj (fun b5=>?_)
       refine D.ac (j:=0) ?_
       refine D.ac (j:=1) ?_
       exact D.done [(2,[],_),(5,[],_),(6,[],_)] ⟨rfl,rfl,rfl,trivial⟩ (hR _ _ _ rfl (G.perm _ ((af (j:=1) rfl).trans (List.Perm.cons _ (List.Perm.refl _))) (hc b5 b6)))
      ·refine D.aj (fun b5=>?_)
       refine D.az hH rfl ⟨?_, ?_,trivial⟩
       ·refine D.aa hp22 ?_
        refine D.ac (j:=0) ?_
        refine D.ac (j:=1) ?_
        exact D.done [(2,[],_),(5,[],_),(6,[],_)] ⟨rfl,rfl,rfl,trivial⟩ (hR _ _ _ rfl (G.perm _ ((af (j:=1) rfl).trans (List.Perm.cons _ (List.Perm.refl _))) (hc b5 b6)))
       ·refine D.ac (j:=0) ?_
        refine D.aa hp22 ?_
        refine D.ac (j:=1) ?_
        exact D.done [(2,[],_),(5,[],_),(6,[],_)] ⟨rfl,rfl,rfl,trivial⟩ (hR _ _ _ rfl (G.perm _ ((af (j:=1) rfl).trans (List.Perm.cons _ (List.Perm.refl _))) (hc b5 b6)))
     ·refine D.aj (fun b5=>?_)
      refine D.az hH rfl ⟨?_, ?_,trivial⟩
      ·refine D.aa (bkT hb3 1) ?_
       refine D.ai (hq.r.mono mup) rfl rfl rfl rfl rfl rfl rfl rfl rfl rfl om_ (bu hjl) fl_ (fun p22 hp22=>?_)
       refine D.az hH rfl ⟨?_, ?_,trivial⟩
       ·refine D.aa hp22 ?_
        refine D.ac (j:=0) ?_
        refine D.ac (j:=1) ?_
        exact D.done [(2,[],_),(5,[],_),(6,[],_)] ⟨rfl,rfl,rfl,trivial⟩ (hR _ _ _ rfl (G.perm _ ((af (j:=1) rfl).trans (List.Perm.cons _ (List.Perm.refl _))) (hc b5 b6)))
       ·refine D.ac (j:=0) ?_
        refine D.aa hp22 ?_
        refine D.ac (j:=1) ?_
        exact D.done [(2,[],_),(5,[],_),(6,[],_)] ⟨rfl,rfl,rfl,trivial⟩ (hR _ _ _ rfl (G.perm _ ((af (j:=1) rfl).trans (List.Perm.cons _ (List.Perm.refl _))) (hc b5 b6)))
      ·refine D.ac (j:=0) ?_
       refine D.aa (bkT hb3 1) ?_
       refine D.ai (hq.r.mono mup) rfl rfl rfl rfl rfl rfl rfl rfl rfl rfl om_ (bu hjl) fl_ (fun p22 hp22=>?_)
       refine D.aa hp22 ?_
       refine D.ac (j:=1) ?_
       exact D.done [(2,[],_),(5,[],_),(6,[],_)] ⟨rfl,rfl,rfl,trivial⟩ (hR _ _ _ rfl (G.perm _ ((af (j:=1) rfl).trans (List.Perm.cons _ (List.Perm.refl _))) (hc b5 b6)))
   ·refine D.aa (bkT hb3 1) ?_
    refine D.az hH rfl ⟨?_, ?_, ?_,trivial⟩
    ·refine D.aa (bkT hb2 1) ?_
     refine D.ai (hq.r.mono mup) rfl rfl rfl rfl rfl rfl rfl rfl rfl rfl om_ (bu hjl) fl_ (fun p22 hp22=>?_)
     refine D.az hH rfl ⟨?_, ?_, ?_,trivial⟩
     ·refine D.aa hp22 ?_
      refine D.az hH rfl ⟨?_, ?_,trivial⟩
      ·refine D.aj (fun b5=>?_)
       refine D.aj (fun b6=>?_)
       refine D.ac (j:=1) ?_
       refine D.ac (j:=1) ?_
       exact D.done [(2,[],_),(5,[],_),(6,[],_)] ⟨rfl,rfl,rfl,trivial⟩ (hR _ _ _ rfl (G.perm _ ((af (j:=1) rfl).trans (List.Perm.cons _ (List.Perm.refl _))) (hc b5 b6)))
      ·refine D.aj (fun b6=>?_)
       refine D.aj (fun b5=>?_)
       refine D.ac (j:=0) ?_
       refine D.ac (j:=1) ?_
       exact D.done [(2,[],_),(5,[],_),(6,[],_)] ⟨rfl,rfl,rfl,trivial⟩ (hR _ _ _ rfl (G.perm _ ((af (j:=1) rfl).trans (List.Perm.cons _ (List.Perm.refl _))) (hc b5 b6)))
     ·refine D.aj (fun b5=>?_)
      refine D.az hH rfl ⟨?_, ?_,trivial⟩
      ·refine D.aa hp22 ?_
       refine D.aj (fun b6=>?_)
       refine D.ac (j:=1) ?_
       refine D.ac (j:=1) ?_
       exact D.done [(2,[],_),(5,[],_),(6,[],_)] ⟨rfl,rfl,rfl,trivial⟩ (hR _ _ _ rfl (G.perm _ ((af (j:=1) rfl).trans (List.Perm.cons _ (List.Perm.refl _))) (hc b5 b6)))
      ·refine D.aj (fun b6=>?_)
       refine D.az hH rfl ⟨?_, ?_,trivial⟩
       ·refine D.aa hp22 ?_
        refine D.ac (j:=1) ?_
        refine D.ac (j:=1) ?_
        exact D.done [(2,[],_),(5,[],_),(6,[],_)] ⟨rfl,rfl,rfl,trivial⟩ (hR _ _ _ rfl (G.perm _ ((af (j:=1) rfl).trans (List.Perm.cons _ (List.Perm.refl _))) (hc b5 b6)))
       ·refine D.ac (j:=1) ?_
        refine D.aa hp22 ?_
        refine D.ac (j:=1) ?_
        exact D.done [(2,[],_),(5,[],_),(6,[],_)] ⟨rfl,rfl,rfl,trivial⟩ (hR _ _ _ rfl (G.perm _ ((af (j:=1) rfl).trans (List.Perm.cons _ (List.Perm.refl _))) (hc b5 b6)))
     ·refine D.aj (fun b6=>?_)
      refine D.az hH rfl ⟨?_, ?_,trivial⟩
      ·refine D.aa hp22 ?_
       refine D.aj (fun b5=>?_)
       refine D.ac (j:=0) ?_
       refine D.ac (j:=1) ?_
       exact D.done [(2,[],_),(5,[],_),(6,[],_)] ⟨rfl,rfl,rfl,trivial⟩ (hR _ _ _ rfl (G.perm _ ((af (j:=1) rfl).trans (List.Perm.cons _ (List.Perm.refl _))) (hc b5 b6)))
      ·refine D.aj (fun b5=>?_)
       refine D.az hH rfl ⟨?_, ?_,trivial⟩
       ·refine D.aa hp22 ?_
        refine D.ac (j:=0) ?_
        refine D.ac (j:=1) ?_
        exact D.done [(2,[],_),(5,[],_),(6,[],_)] ⟨rfl,rfl,rfl,trivial⟩ (hR _ _ _ rfl (G.perm _ ((af (j:=1) rfl).trans (List.Perm.cons _ (List.Perm.refl _))) (hc b5 b6)))
       ·refine D.ac (j:=0) ?_
        refine D.aa hp22 ?_
        refine D.ac (j:=1) ?_
        exact D.done [(2,[],_),(5,[],_),(6,[],_)] ⟨rfl,rfl,rfl,trivial⟩ (hR _ _ _ rfl (G.perm _ ((af (j:=1) rfl).trans (List.Perm.cons _ (List.Perm.refl _))) (hc b5 b6)))
    ·refine D.aj (fun b5=>?_)
     refine D.az hH rfl ⟨?_, ?_,trivial⟩
     ·refine D.aa (bkT hb2 1) ?_
      refine D.ai (hq.r.mono mup) rfl rfl rfl rfl rfl rfl rfl rfl rfl rfl om_ (bu hjl) fl_ (fun p22 hp22=>?_)
      refine D.az hH rfl ⟨?_, ?_,trivial⟩
      ·refine D.aa hp22 ?_
       refine D.aj (fun b6=>?_)
       refine D.ac (j:=1) ?_
       refine D.ac (j:=1) ?_
       exact D.done [(2,[],_),(5,[],_),(6,[],_)] ⟨rfl,rfl,rfl,trivial⟩ (hR _ _ _ rfl (G.perm _ ((af (j:=1) rfl).trans (List.Perm.cons _ (List.Perm.refl _))) (hc b5 b6)))
      ·refine D.aj (fun b6=>?_)
       refine D.az hH rfl ⟨?_, ?_,trivial⟩
       ·refine D.aa hp22 ?_
        refine D.ac (j:=1) ?_
        refine D.ac (j:=1) ?_
        exact D.done [(2,[],_),(5,[],_),(6,[],_)] ⟨rfl,rfl,rfl,trivial⟩ (hR _ _ _ rfl (G.perm _ ((af (j:=1) rfl).trans (List.Perm.cons _ (List.Perm.refl _))) (hc b5 b6)))
       ·refine D.ac (j:=1) ?_
        refine D.aa hp22 ?_
        refine D.ac (j:=1) ?_
        exact D.done [(2,[],_),(5,[],_),(6,[],_)] ⟨rfl,rfl,rfl,trivial⟩ (hR _ _ _ rfl (G.perm _ ((af (j:=1) rfl).trans (List.Perm.cons _ (List.Perm.refl _))) (hc b5 b6)))
     ·refine D.aj (fun b6=>?_)
      refine D.az hH rfl ⟨?_, ?_,trivial⟩
      ·refine D.aa (bkT hb2 1) ?_
       refine D.ai (hq.r.mono mup) rfl rfl rfl rfl rfl rfl rfl rfl rfl rfl om_ (bu hjl) fl_ (fun p22 hp22=>?_)
       refine D.az hH rfl ⟨?_, ?_,trivial⟩
       ·refine D.aa hp22 ?_
        refine D.ac (j:=1) ?_
        refine D.ac (j:=1) ?_
        exact D.done [(2,[],_),(5,[],_),(6,[],_)] ⟨rfl,rfl,rfl,trivial⟩ (hR _ _ _ rfl (G.perm _ ((af (j:=1) rfl).trans (List.Perm.cons _ (List.Perm.refl _))) (hc b5 b6)))
       ·refine D.ac (j:=1) ?_
        refine D.aa hp22 ?_
        refine D.ac (j:=1) ?_
        exact D.done [(2,[],_),(5,[],_),(6,[],_)] ⟨rfl,rfl,rfl,trivial⟩ (hR _ _ _ rfl (G.perm _ ((af (j:=1) rfl).trans (List.Perm.cons _ (List.Perm.refl _))) (hc b5 b6)))
      ·refine D.ac (j:=1) ?_
       refine D.aa (bkT hb2 1) ?_
       refine D.ai (hq.r.mono mup) rfl rfl rfl rfl rfl rfl rfl rfl rfl rfl om_ (bu hjl) fl_ (fun p22 hp22=>?_)
       refine D.aa hp22 ?_
       refine D.ac (j:=1) ?_
       exact D.done [(2,[],_),(5,[],_),(6,[],_)] ⟨rfl,rfl,rfl,trivial⟩ (hR _ _ _ rfl (G.perm _ ((af (j:=1) rfl).trans (List.Perm.cons _ (List.Perm.refl _))) (hc b5 b6)))
    ·refine D.aj (fun b6=>?_)
     refine D.az hH rfl ⟨?_, ?_,trivial⟩
     ·refine D.aa (bkT hb2 1) ?_
      refine D.ai (hq.r.mono mup) rfl rfl rfl rfl rfl rfl rfl rfl rfl rfl om_ (bu hjl) fl_ (fun p22 hp22=>?_)
      refine D.az hH rfl ⟨?_, ?_,trivial⟩
      ·refine D.aa hp22 ?_
       refine D.aj (fun b5=>?_)
       refine D.ac (j:=0) ?_
       refine D.ac (j:=1) ?_
       exact D.done [(2,[],_),(5,[],_),(6,[],_)] ⟨rfl,rfl,rfl,trivial⟩ (hR _ _ _ rfl (G.perm _ ((af (j:=1) rfl).trans (List.Perm.cons _ (List.Perm.refl _))) (hc b5 b6)))
      ·refine D.aj (fun b5=>?_)
       refine D.az hH rfl ⟨?_, ?_,trivial⟩
       ·refine D.aa hp22 ?_
        refine D.ac (j:=0) ?_
        refine D.ac (j:=1) ?_
        exact D.done [(2,[],_),(5,[],_),(6,[],_)] ⟨rfl,rfl,rfl,trivial⟩ (hR _ _ _ rfl (G.perm _ ((af (j:=1) rfl).trans (List.Perm.cons _ (List.Perm.refl _))) (hc b5 b6)))
       ·refine D.ac (j:=0) ?_
        refine D.aa hp22 ?_
        refine D.ac (j:=1) ?_
        exact D.done [(2,[],_),(5,[],_),(6,[],_)] ⟨rfl,rfl,rfl,trivial⟩ (hR _ _ _ rfl (G.perm _ ((af (j:=1) rfl).trans (List.Perm.cons _ (List.Perm.refl _))) (hc b5 b6)))
     ·refine D.aj (fun b5=>?_)
      refine D.az hH rfl ⟨?_, ?_,trivial⟩
      ·refine D.aa (bkT hb2 1) ?_
       refine D.ai (hq.r.mono mup) rfl rfl rfl rfl rfl rfl rfl rfl rfl rfl om_ (bu hjl) fl_ (fun p22 hp22=>?_)
       refine D.az hH rfl ⟨?_, ?_,trivial⟩
       ·refine D.aa hp22 ?_
        refine D.ac (j:=0) ?_
        refine D.ac (j:=1) ?_
        exact D.done [(2,[],_),(5,[],_),(6,[],_)] ⟨rfl,rfl,rfl,trivial⟩ (hR _ _ _ rfl (G.perm _ ((af (j:=1) rfl).trans (List.Perm.cons _ (List.Perm.refl _))) (hc b5 b6)))
       ·refine D.ac (j:=0) ?_
        refine D.aa hp22 ?_
        refine D.ac (j:=1) ?_
        exact D.done [(2,[],_),(5,[],_),(6,[],_)] ⟨rfl,rfl,rfl,trivial⟩ (hR _ _ _ rfl (G.perm _ ((af (j:=1) rfl).trans (List.Perm.cons _ (List.Perm.refl _))) (hc b5 b6)))
      ·refine D.ac (j:=0) ?_
       refine D.aa (bkT hb2 1) ?_
       refine D.ai (hq.r.mono mup) rfl rfl rfl rfl rfl rfl rfl rfl rfl rfl om_ (bu hjl) fl_ (fun p22 hp22=>?_)
       refine D.aa hp22 ?_
       refine D.ac (j:=1) ?_
       exact D.done [(2,[],_),(5,[],_),(6,[],_)] ⟨rfl,rfl,rfl,trivial⟩ (hR _ _ _ rfl (G.perm _ ((af (j:=1) rfl).trans (List.Perm.cons _ (List.Perm.refl _))) (hc b5 b6)))
   ·refine D.aj (fun b5=>?_)
    refine D.az hH rfl ⟨?_, ?_, ?_,trivial⟩
    ·refine D.aa (bkT hb2 1) ?_
     refine D.az hH rfl ⟨?_, ?_,trivial⟩
     ·refine D.aa (bkT hb3 1) ?_
      refine D.ai (hq.r.mono mup) rfl rfl rfl rfl rfl rfl rfl rfl rfl rfl om_ (bu hjl) fl_ (fun p22 hp22=>?_)
      refine D.az hH rfl ⟨?_, ?_,trivial⟩
      ·refine D.aa hp22 ?_
       refine D.aj (fun b6=>?_)
       refine D.ac (j:=1) ?_
       refine D.ac (j:=1) ?_
       exact D.done [(2,[],_),(5,[],_),(6,[],_)] ⟨rfl,rfl,rfl,trivial⟩ (hR _ _ _ rfl (G.perm _ ((af (j:=1) rfl).trans (List.Perm.cons _ (List.Perm.refl _))) (hc b5 b6)))
      ·refine D.aj (fun b6=>?_)
       refine D.az hH rfl ⟨?_, ?_,trivial⟩
       ·refine D.aa hp22 ?_
        refine D.ac (j:=1) ?_
        refine D.ac (j:=1) ?_
        exact D.done [(2,[],_),(5,[],_),(6,[],_)] ⟨rfl,rfl,rfl,trivial⟩ (hR _ _ _ rfl (G.perm _ ((af (j:=1) rfl).trans (List.Perm.cons _ (List.Perm.refl _))) (hc b5 b6)))
       ·refine D.ac (j:=1) ?_
        refine D.aa hp22 ?_
        refine D.ac (j:=1) ?_
        exact D.done [(2,[],_),(5,[],_),(6,[],_)] ⟨rfl,rfl,rfl,trivial⟩ (hR _ _ _ rfl (G.perm _ ((af (j:=1) rfl).trans (List.Perm.cons _ (List.Perm.refl _))) (hc b5 b6)))
     ·refine D.aj (fun b6=>?_)
      refine D.az hH rfl ⟨?_, ?_,trivial⟩
      ·refine D.aa (bkT hb3 1) ?_
       refine D.ai (hq.r.mono mup) rfl rfl rfl rfl rfl rfl rfl rfl rfl rfl om_ (bu hjl) fl_ (fun p22 hp22=>?_)
       refine D.az hH rfl ⟨?_, ?_,trivial⟩
       ·refine D.aa hp22 ?_
        refine D.ac (j:=1) ?_
        refine D.ac (j:=1) ?_
        exact D.done [(2,[],_),(5,[],_),(6,[],_)] ⟨rfl,rfl,rfl,trivial⟩ (hR _ _ _ rfl (G.perm _ ((af (j:=1) rfl).trans (List.Perm.cons _ (List.Perm.refl _))) (hc b5 b6)))
       ·refine D.ac (j:=1) ?_
        refine D.aa hp22 ?_
        refine D.ac (j:=1) ?_
        exact D.done [(2,[],_),(5,[],_),(6,[],_)] ⟨rfl,rfl,rfl,trivial⟩ (hR _ _ _ rfl (G.perm _ ((af (j:=1) rfl).trans (List.Perm.cons _ (List.Perm.refl _))) (hc b5 b6)))
      ·refine D.ac (j:=1) ?_
       refine D.aa (bkT hb3 1) ?_
       refine D.ai (hq.r.mono mup) rfl rfl rfl rfl rfl rfl rfl rfl rfl rfl om_ (bu hjl) fl_ (fun p22 hp22=>?_)
       refine D.aa hp22 ?_
       refine D.ac (j:=1) ?_
       exact D.done [(2,[],_),(5,[],_),(6,[],_)] ⟨rfl,rfl,rfl,trivial⟩ (hR _ _ _ rfl (G.perm _ ((af (j:=1) rfl).trans (List.Perm.cons _ (List.Perm.refl _))) (hc b5 b6)))
    ·refine D.aa (bkT hb3 1) ?_
     refine D.az hH rfl ⟨?_, ?_,trivial⟩
     ·refine D.aa (bkT hb2 1) ?_
      refine D.ai (hq.r.mono mup) rfl rfl rfl rfl rfl rfl rfl rfl rfl rfl om_ (bu hjl) fl_ (fun p22 hp22=>?_)
      refine D.az hH rfl ⟨?_, ?_,trivial⟩
      ·refine D.aa hp22 ?_
       refine D.aj (fun b6=>?_)
       refine D.ac (j:=1) ?_
       refine D.ac (j:=1) ?_
       exact D.done [(2,[],_),(5,[],_),(6,[],_)] ⟨rfl,rfl,rfl,trivial⟩ (hR _ _ _ rfl (G.perm _ ((af (j:=1) rfl).trans (List.Perm.cons _ (List.Perm.refl _))) (hc b5 b6)))
      ·refine D.aj (fun b6=>?_)
       refine D.az hH rfl ⟨?_, ?_,trivial⟩
       ·refine D.aa hp22 ?_
        refine D.ac (j:=1) ?_
        refine D.ac (j:=1) ?_
        exact D.done [(2,[],_),(5,[],_),(6,[],_)] ⟨rfl,rfl,rfl,trivial⟩ (hR _ _ _ rfl (G.perm _ ((af (j:=1) rfl).trans (List.Perm.cons _ (List.Perm.refl _))) (hc b5 b6)))
       ·refine D.ac (j:=1) ?_
        refine D.aa hp22 ?_
        refine D.ac (j:=1) ?_
        exact D.done [(2,[],_),(5,[],_),(6,[],_)] ⟨rfl,rfl,rfl,trivial⟩ (hR _ _ _ rfl (G.perm _ ((af (j:=1) rfl).trans (List.Perm.cons _ (List.Perm.refl _))) (hc b5 b6)))
     ·refine D.aj (fun b6=>?_)
      refine D.az hH rfl ⟨?_, ?_,trivial⟩
      ·refine D.aa (bkT hb2 1) ?_
       refine D.ai (hq.r.mono mup) rfl rfl rfl rfl rfl rfl rfl rfl rfl rfl om_ (bu hjl) fl_ (fun p22 hp22=>?_)
       refine D.az hH rfl ⟨?_, ?_,trivial⟩
       ·refine D.aa hp22 ?_
        refine D.ac (j:=1) ?_
        refine D.ac (j:=1) ?_
        exact D.done [(2,[],_),(5,[],_),(6,[],_)] ⟨rfl,rfl,rfl,trivial⟩ (hR _ _ _ rfl (G.perm _ ((af (j:=1) rfl).trans (List.Perm.cons _ (List.Perm.refl _))) (hc b5 b6)))
       ·refine D.ac (j:=1) ?_
        refine D.aa hp22 ?_
        refine D.ac (j:=1) ?_
        exact D.done [(2,[],_),(5,[],_),(6,[],_)] ⟨rfl,rfl,rfl,trivial⟩ (hR _ _ _ rfl (G.perm _ ((af (j:=1) rfl).trans (List.Perm.cons _ (List.Perm.refl _))) (hc b5 b6)))
      ·refine D.ac (j:=1) ?_
       refine D.aa (bkT hb2 1) ?_
       refine D.ai (hq.r.mono mup) rfl rfl rfl rfl rfl rfl rfl rfl rfl rfl om_ (bu hjl) fl_ (fun p22 hp22=>?_)
       refine D.aa hp22 ?_
       refine D.ac (j:=1) ?_
       exact D.done [(2,[],_),(5,[],_),(6,[],_)] ⟨rfl,rfl,rfl,trivial⟩ (hR _ _ _ rfl (G.perm _ ((af (j:=1) rfl).trans (List.Perm.cons _ (List.Perm.refl _))) (hc b5 b6)))
    ·refine D.aj (fun b6=>?_)
     refine D.az hH rfl ⟨?_, ?_, ?_,trivial⟩
     ·refine D.aa (bkT hb2 1) ?_
      refine D.az hH rfl ⟨?_, ?_,trivial⟩
      ·refine D.aa (bkT hb3 1) ?_
       refine D.ai (hq.r.mono mup) rfl rfl rfl rfl rfl rfl rfl rfl rfl rfl om_ (bu hjl) fl_ (fun p22 hp22=>?_)
       refine D.az hH rfl ⟨?_, ?_,trivial⟩
       ·refine D.aa hp22 ?_
        refine D.ac (j:=1) ?_
        refine D.ac (j:=1) ?_
        exact D.done [(2,[],_),(5,[],_),(6,[],_)] ⟨rfl,rfl,rfl,trivial⟩ (hR _ _ _ rfl (G.perm _ ((af (j:=1) rfl).trans (List.Perm.cons _ (List.Perm.refl _))) (hc b5 b6)))
       ·refine D.ac (j:=1) ?_
        refine D.aa hp22 ?_
        refine D.ac (j:=1) ?_
        exact D.done [(2,[],_),(5,[],_),(6,[],_)] ⟨rfl,rfl,rfl,trivial⟩ (hR _ _ _ rfl (G.perm _ ((af (j:=1) rfl).trans (List.Perm.cons _ (List.Perm.refl _))) (hc b5 b6)))
      ·refine D.ac (j:=1) ?_
       refine D.aa (bkT hb3 1) ?_
       refine D.ai (hq.r.mono mup) rfl rfl rfl rfl rfl rfl rfl rfl rfl rfl om_ (bu hjl) fl_ (fun p22 hp22=>?_)
       refine D.aa hp22 ?_
       refine D.ac (j:=1) ?_
       exact D.done [(2,[],_),(5,[],_),(6,[],_)] ⟨rfl,rfl,rfl,trivial⟩ (hR _ _ _ rfl (G.perm _ ((af (j:=1) rfl).trans (List.Perm.cons _ (List.Perm.refl _))) (hc b5 b6)))
     ·refine D.aa (bkT hb3 1) ?_
      refine D.az hH rfl ⟨?_, ?_,trivial⟩
      ·refine D.aa (bkT hb2 1) ?_
       refine D.ai (hq.r.mono mup) rfl rfl rfl rfl rfl rfl rfl rfl rfl rfl om_ (bu hjl) fl_ (fun p22 hp22=>?_)
       refine D.az hH rfl ⟨?_, ?_,trivial⟩
       ·refine D.aa hp22 ?_
        refine D.ac (j:=1) ?_
        refine D.ac (j:=1) ?_
        exact D.done [(2,[],_),(5,[],_),(6,[],_)] ⟨rfl,rfl,rfl,trivial⟩ (hR _ _ _ rfl (G.perm _ ((af (j:=1) rfl).trans (List.Perm.cons _ (List.Perm.refl _))) (hc b5 b6)))
       ·refine D.ac (j:=1) ?_
        refine D.aa hp22 ?_
        refine D.ac (j:=1) ?_
        exact D.done [(2,[],_),(5,[],_),(6,[],_)] ⟨rfl,rfl,rfl,trivial⟩ (hR _ _ _ rfl (G.perm _ ((af (j:=1) rfl).trans (List.Perm.cons _ (List.Perm.refl _))) (hc b5 b6)))
      ·refine D.ac (j:=1) ?_
       refine D.aa (bkT hb2 1) ?_
       refine D.ai (hq.r.mono mup) rfl rfl rfl rfl rfl rfl rfl rfl rfl rfl om_ (bu hjl) fl_ (fun p22 hp22=>?_)
       refine D.aa hp22 ?_
       refine D.ac (j:=1) ?_
       exact D.done [(2,[],_),(5,[],_),(6,[],_)] ⟨rfl,rfl,rfl,trivial⟩ (hR _ _ _ rfl (G.perm _ ((af (j:=1) rfl).trans (List.Perm.cons _ (List.Perm.refl _))) (hc b5 b6)))
     ·refine D.ac (j:=1) ?_
      refine D.aa (bkT hb2 1) ?_
      refine D.aa (bkT hb3 1) ?_
      refine D.ai (hq.r.mono mup) rfl rfl rfl rfl rfl rfl rfl rfl rfl rfl om_ (bu hjl) fl_ (fun p22 hp22=>?_)
      refine D.aa hp22 ?_
      refine D.ac (j:=1) ?_
      exact D.done [(2,[],_),(5,[],_),(6,[],_)] ⟨rfl,rfl,rfl,trivial⟩ (hR _ _ _ rfl (G.perm _ ((af (j:=1) rfl).trans (List.Perm.cons _ (List.Perm.refl _))) (hc b5 b6)))
   ·refine D.aj (fun b6=>?_)
    refine D.az hH rfl ⟨?_, ?_, ?_,trivial⟩
    ·refine D.aa (bkT hb2 1) ?_
     refine D.az hH rfl ⟨?_, ?_,trivial⟩
     ·refine D.aa (bkT hb3 1) ?_
      refine D.ai (hq.r.mono mup) rfl rfl rfl rfl rfl rfl rfl rfl rfl rfl om_ (bu hjl) fl_ (fun p22 hp22=>?_)
      refine D.az hH rfl ⟨?_, ?_,trivial⟩
      ·refine D.aa hp22 ?_
       refine D.aj (fun b5=>?_)
       refine D.ac (j:=0) ?_
       refine D.ac (j:=1) ?_
       exact D.done [(2,[],_),(5,[],_),(6,[],_)] ⟨rfl,rfl,rfl,trivial⟩ (hR _ _ _ rfl (G.perm _ ((af (j:=1) rfl).trans (List.Perm.cons _ (List.Perm.refl _))) (hc b5 b6)))
      ·refine D.aj (fun b5=>?_)
       refine D.az hH rfl ⟨?_, ?_,trivial⟩
       ·refine D.aa hp22 ?_
        refine D.ac (j:=0) ?_
        refine D.ac (j:=1) ?_
        exact D.done [(2,[],_),(5,[],_),(6,[],_)] ⟨rfl,rfl,rfl,trivial⟩ (hR _ _ _ rfl (G.perm _ ((af (j:=1) rfl).trans (List.Perm.cons _ (List.Perm.refl _))) (hc b5 b6)))
       ·refine D.ac (j:=0) ?_
        refine D.aa hp22 ?_
        refine D.ac (j:=1) ?_
        exact D.done [(2,[],_),(5,[],_),(6,[],_)] ⟨rfl,rfl,rfl,trivial⟩ (hR _ _ _ rfl (G.perm _ ((af (j:=1) rfl).trans (List.Perm.cons _ (List.Perm.refl _))) (hc b5 b6)))
     ·refine D.aj (fun b5=>?_)
      refine D.az hH rfl ⟨?_, ?_,trivial⟩
      ·refine D.aa (bkT hb3 1) ?_
       refine D.ai (hq.r.mono mup) rfl rfl rfl rfl rfl rfl rfl rfl rfl rfl om_ (bu hjl) fl_ (fun p22 hp22=>?_)
       refine D.az hH rfl ⟨?_, ?_,trivial⟩
       ·refine D.aa hp22 ?_
        refine D.ac (j:=0) ?_
        refine D.ac (j:=1) ?_
        exact D.done [(2,[],_),(5,[],_),(6,[],_)] ⟨rfl,rfl,rfl,trivial⟩ (hR _ _ _ rfl (G.perm _ ((af (j:=1) rfl).trans (List.Perm.cons _ (List.Perm.refl _))) (hc b5 b6)))
       ·refine D.ac (j:=0) ?_
        refine D.aa hp22 ?_
        refine D.ac (j:=1) ?_
        exact D.done [(2,[],_),(5,[],_),(6,[],_)] ⟨rfl,rfl,rfl,trivial⟩ (hR _ _ _ rfl (G.perm _ ((af (j:=1) rfl).trans (List.Perm.cons _ (List.Perm.refl _))) (hc b5 b6)))
      ·refine D.ac (j:=0) ?_
       refine D.aa (bkT hb3 1) ?_
       refine D.ai (hq.r.mono mup) rfl rfl rfl rfl rfl rfl rfl rfl rfl rfl om_ (bu hjl) fl_ (fun p22 hp22=>?_)
       refine D.aa hp22 ?_
       refine D.ac (j:=1) ?_
       exact D.done [(2,[],_),(5,[],_),(6,[],_)] ⟨rfl,rfl,rfl,trivial⟩ (hR _ _ _ rfl (G.perm _ ((af (j:=1) rfl).trans (List.Perm.cons _ (List.Perm.refl _))) (hc b5 b6)))
    ·refine D.aa (bkT hb3 1) ?_
     refine D.az hH rfl ⟨?_, ?_,trivial⟩
     ·refine D.aa (bkT hb2 1) ?_
      refine D.ai (hq.r.mono mup) rfl rfl rfl rfl rfl rfl rfl rfl rfl rfl om_ (bu hjl) fl_ (fun p22 hp22=>?_)
      refine D.az hH rfl ⟨?_, ?_,trivial⟩
      ·refine D.aa hp22 ?_
       refine D.aj (fun b5=>?_)
       refine D.ac (j:=0) ?_
       refine D.ac (j:=1) ?_
       exact D.done [(2,[],_),(5,[],_),(6,[],_)] ⟨rfl,rfl,rfl,trivial⟩ (hR _ _ _ rfl (G.perm _ ((af (j:=1) rfl).trans (List.Perm.cons _ (List.Perm.refl _))) (hc b5 b6)))
      ·refine D.aj (fun b5=>?_)
       refine D.az hH rfl ⟨?_, ?_,trivial⟩
       ·refine D.aa hp22 ?_
        refine D.ac (j:=0) ?_
        refine D.ac (j:=1) ?_
        exact D.done [(2,[],_),(5,[],_),(6,[],_)] ⟨rfl,rfl,rfl,trivial⟩ (hR _ _ _ rfl (G.perm _ ((af (j:=1) rfl).trans (List.Perm.cons _ (List.Perm.refl _))) (hc b5 b6)))
       ·refine D.ac (j:=0) ?_
        refine D.aa hp22 ?_
        refine D.ac (j:=1) ?_
        exact D.done [(2,[],_),(5,[],_),(6,[],_)] ⟨rfl,rfl,rfl,trivial⟩ (hR _ _ _ rfl (G.perm _ ((af (j:=1) rfl).trans (List.Perm.cons _ (List.Perm.refl _))) (hc b5 b6)))
     ·refine D.aj (fun b5=>?_)
      refine D.az hH rfl ⟨?_, ?_,trivial⟩
      ·refine D.aa (bkT hb2 1) ?_
       refine D.ai (hq.r.mono mup) rfl rfl rfl rfl rfl rfl rfl rfl rfl rfl om_ (bu hjl) fl_ (fun p22 hp22=>?_)
       refine D.az hH rfl ⟨?_, ?_,trivial⟩
       ·refine D.aa hp22 ?_
        refine D.ac (j:=0) ?_
        refine D.ac (j:=1) ?_
        exact D.done [(2,[],_),(5,[],_),(6,[],_)] ⟨rfl,rfl,rfl,trivial⟩ (hR _ _ _ rfl (G.perm _ ((af (j:=1) rfl).trans (List.Perm.cons _ (List.Perm.refl _))) (hc b5 b6)))
       ·refine D.ac (j:=0) ?_
        refine D.aa hp22 ?_
        refine D.ac (j:=1) ?_
        exact D.done [(2,[],_),(5,[],_),(6,[],_)] ⟨rfl,rfl,rfl,trivial⟩ (hR _ _ _ rfl (G.perm _ ((af (j:=1) rfl).trans (List.Perm.cons _ (List.Perm.refl _))) (hc b5 b6)))
      ·refine D.ac (j:=0) ?_
       refine D.aa (bkT hb2 1) ?_
       refine D.ai (hq.r.mono mup) rfl rfl rfl rfl rfl rfl rfl rfl rfl rfl om_ (bu hjl) fl_ (fun p22 hp22=>?_)
       refine D.aa hp22 ?_
       refine D.ac (j:=1) ?_
       exact D.done [(2,[],_),(5,[],_),(6,[],_)] ⟨rfl,rfl,rfl,trivial⟩ (hR _ _ _ rfl (G.perm _ ((af (j:=1) rfl).trans (List.Perm.cons _ (List.Perm.refl _))) (hc b5 b6)))
    ·refine D.aj (fun b5=>?_)
     refine D.az hH rfl ⟨?_, ?_, ?_,trivial⟩
     ·refine D.aa (bkT hb2 1) ?_
      refine D.az hH rfl ⟨?_, ?_,trivial⟩
      ·refine D.aa (bkT hb3 1) ?_
       refine D.ai (hq.r.mono mup) rfl rfl rfl rfl rfl rfl rfl rfl rfl rfl om_ (bu hjl) fl_ (fun p22 hp22=>?_)
       refine D.az hH rfl ⟨?_, ?_,trivial⟩
       ·refine D.aa hp22 ?_
        refine D.ac (j:=0) ?_
        refine D.ac (j:=1) ?_
        exact D.done [(2,[],_),(5,[],_),(6,[],_)] ⟨rfl,rfl,rfl,trivial⟩ (hR _ _ _ rfl (G.perm _ ((af (j:=1) rfl).trans (List.Perm.cons _ (List.Perm.refl _))) (hc b5 b6)))
       ·refine D.ac (j:=0) ?_
        refine D.aa hp22 ?_
        refine D.ac (j:=1) ?_
        exact D.done [(2,[],_),(5,[],_),(6,[],_)] ⟨rfl,rfl,rfl,trivial⟩ (hR _ _ _ rfl (G.perm _ ((af (j:=1) rfl).trans (List.Perm.cons _ (List.Perm.refl _))) (hc b5 b6)))
      ·refine D.ac (j:=0) ?_
       refine D.aa (bkT hb3 1) ?_
       refine D.ai (hq.r.mono mup) rfl rfl rfl rfl rfl rfl rfl rfl rfl rfl om_ (bu hjl) fl_ (fun p22 hp22=>?_)
       refine D.aa hp22 ?_
       refine D.ac (j:=1) ?_
       exact D.done [(2,[],_),(5,[],_),(6,[],_)] ⟨rfl,rfl,rfl,trivial⟩ (hR _ _ _ rfl (G.perm _ ((af (j:=1) rfl).trans (List.Perm.cons _ (List.Perm.refl _))) (hc b5 b6)))
     ·refine D.aa (bkT hb3 1) ?_
      refine D.az hH rfl ⟨?_, ?_,trivial⟩
      ·refine D.aa (bkT hb2 1) ?_
       refine D.ai (hq.r.mono mup) rfl rfl rfl rfl rfl rfl rfl rfl rfl rfl om_ (bu hjl) fl_ (fun p22 hp22=>?_)
       refine D.az hH rfl ⟨?_, ?_,trivial⟩
       ·refine D.aa hp22 ?_
        refine D.ac (j:=0) ?_
        refine D.ac (j:=1) ?_
        exact D.done [(2,[],_),(5,[],_),(6,[],_)] ⟨rfl,rfl,rfl,trivial⟩ (hR _ _ _ rfl (G.perm _ ((af (j:=1) rfl).trans (List.Perm.cons _ (List.Perm.refl _))) (hc b5 b6)))
       ·refine D.ac (j:=0) ?_
        refine D.aa hp22 ?_
        refine D.ac (j:=1) ?_
        exact D.done [(2,[],_),(5,[],_),(6,[],_)] ⟨rfl,rfl,rfl,trivial⟩ (hR _ _ _ rfl (G.perm _ ((af (j:=1) rfl).trans (List.Perm.cons _ (List.Perm.refl _))) (hc b5 b6)))
      ·refine D.ac (j:=0) ?_
       refine D.aa (bkT hb2 1) ?_
       refine D.ai (hq.r.mono mup) rfl rfl rfl rfl rfl rfl rfl rfl rfl rfl om_ (bu hjl) fl_ (fun p22 hp22=>?_)
       refine D.aa hp22 ?_
       refine D.ac (j:=1) ?_
       exact D.done [(2,[],_),(5,[],_),(6,[],_)] ⟨rfl,rfl,rfl,trivial⟩ (hR _ _ _ rfl (G.perm _ ((af (j:=1) rfl).trans (List.Perm.cons _ (List.Perm.refl _))) (hc b5 b6)))
     ·refine D.ac (j:=0) ?_
      refine D.aa (bkT hb2 1) ?_
      refine D.aa (bkT hb3 1) ?_
      refine D.ai (hq.r.mono mup) rfl rfl rfl rfl rfl rfl rfl rfl rfl rfl om_ (bu hjl) fl_ (fun p22 hp22=>?_)
      refine D.aa hp22 ?_
      refine D.ac (j:=1) ?_
      exact D.done [(2,[],_),(5,[],_),(6,[],_)] ⟨rfl,rfl,rfl,trivial⟩ (hR _ _ _ rfl (G.perm _ ((af (j:=1) rfl).trans (List.Perm.cons _ (List.Perm.refl _))) (hc b5 b6)))
  clear hR hH hB R
  refine G.freeze 1 rfl (fun C6 hle6 hb6=>?_)
  refine G.freeze 0 rfl (fun C5 hle5 hb5=>?_)
  refine G.aI [0,1,2,3,4,5,6,7,8,9,10] [(4,1),(6,1),(7,1),(8,1),(9,1)] rfl kr_ (fun R hB hR=>?_)
  refine D.ps 2 ?_
  refine D.aa (bkT hb2 1) ?_
  refine D.aa (bkT hb5 3) ?_
  refine D.aP (fun _=>(dD _ (hT.mono mup) _ hx)) ?_
  refine D.aa (bkT hb6 3) ?_
  refine D.aP (fun _=>(dD _ (hT.mono mup) _ hy)) ?_
  refine D.aU (fun _=>(rsub_fn _ (hT.mono mup) _ _ 1 (by decide) (by decide) hx.qt hy.qt)) rfl rfl rfl rfl rfl rfl rfl rfl rfl ?_
  refine D.aU (fun _=>(rabs_fn _ _ (Nat.le_trans (bf qd (by decide)) (by decide)))) rfl rfl rfl rfl rfl rfl rfl rfl rfl ?_
  refine D.aU (fun _=>(rmul_fn _ (hT.mono mup) _ _ 1 (by decide) (by decide) ok.c0.qb qa)) rfl rfl rfl rfl rfl rfl rfl rfl rfl ?_
  refine D.ae ?_
  refine D.e4 2 5 6 7 hR ?_;clear hR hB R
  refine G.rp 1 fun R hR=>?_
  refine D.aa (bkT hb5 1) ?_
  refine D.ae ?_
  refine D.aa (bkT hb6 1) ?_
  refine D.q5 1 2 5 6 7 38 hR ?_;clear hR R
  refine G.cd (fun h38=>?_) fun h38=>?_
  ·refine G.aI [0,1,2,3,4,5,6,7,8,9,10,11] [(5,1),(7,1),(8,1),(9,1),(10,1)] rfl kr_ (fun R hB hR=>?_)
   refine D.ps 3 ?_
   refine D.aa (bkT hb2 1) ?_
   refine D.aa (bkT hb5 3) ?_
   refine D.aP (fun _=>(dD _ (hT.mono mup) _ hx)) ?_
   refine D.aa (bkT hb6 3) ?_
   refine D.aP (fun _=>(dD _ (hT.mono mup) _ hy)) ?_
   refine D.aU (fun _=>(ee _ (hT.mono mup) _ _ 1 (by decide) (by decide) hx.qt hy.qt)) rfl rfl rfl rfl rfl rfl rfl rfl rfl ?_
   refine D.aU (fun _=>(rmul_fn _ (hT.mono mup) _ _ 1 (by decide) (by decide) ok.c1.qb qs)) rfl rfl rfl rfl rfl rfl rfl rfl rfl ?_
   refine D.aU (fun _=>(ee _ (hT.mono mup) _ _ 1 (by decide) (by decide) (m1.1.qb2 (by have:=m1.2;grind) (by have:=m1.2;grind)) (m2.1.qb2 (by have:=m2.2;grind) (by have:=m2.2;grind)))) rfl rfl rfl rfl rfl rfl rfl rfl rfl ?_
   refine D.ae ?_
   refine D.e1 7 hR ?_;clear hR hB R
   refine G.z1 2 4 ?_
   refine G.rf ?_
   refine ⟨?_,rfl⟩
   have hu:¬ (ivAt q.l i).u=(ivAt q.r j).u:=by simpa using h38
   unfold Qn.cost
   rw [if_pos rfl,if_neg hu]
  ·refine G.z1 2 4 ?_
   refine G.rf ?_
   refine ⟨?_,rfl⟩
   have hu:(ivAt q.l i).u=(ivAt q.r j).u:=by simpa using h38
   unfold Qn.cost
   rw [if_pos rfl,if_pos hu,Rat.add_zero]
 ·have hk1:k≠1:=by simp only [beq_eq_false_iff_ne] at h10;omega
  refine G.z4 2 2 3 9 51 ?_
  refine G.cd (fun h51=>?_) fun h51=>?_
  ·obtain rfl:k=2:=by simp only [beq_iff_eq] at h51;omega
   have hil:i<q.l.length:=by omega
   have hx:=iv_ok ok.l hil
   refine G.aI [0,1,2,3,4,5,6,7,8,9,10,11] [(9,1),(10,1)] rfl kr_ (fun R hB hR=>?_)
   refine D.ps 2 ?_
   refine D.aa (bkT hb2 1) ?_
   refine D.ae ?_
   refine D.aa (bkT hb2 1) ?_
   refine D.ae ?_
   refine D.aa (bkT hb3 1) ?_
   refine D.ai (hq.l.mono mup) rfl rfl rfl rfl rfl rfl rfl rfl rfl rfl om_ (bu hil) fl_ (fun p60 hp60=>?_)
   refine D.aa hp60 ?_
   refine D.aP (fun _=>(dD _ (hT.mono mup) _ hx)) ?_
   refine D.aU (fun _=>(rmul_fn _ (hT.mono mup) _ _ 1 (by decide) (by decide) ok.c2.qb hx.qt)) rfl rfl rfl rfl rfl rfl rfl rfl rfl ?_
   refine D.ae ?_
   refine D.e1 4 hR ?_;clear hR hB R
   refine G.rf ?_
   refine ⟨?_,rfl⟩
   unfold Qn.cost
   rfl
  ·have hk2:k≠2:=by simp only [beq_eq_false_iff_ne] at h51;omega
   refine G.z4 2 2 3 9 64 ?_
   refine G.cd (fun h64=>?_) fun h64=>?_
   ·obtain rfl:k=3:=by simp only [beq_iff_eq] at h64;omega
    have hjl:j<q.r.length:=by omega
    have hx:=iv_ok ok.r hjl
    refine G.aI [0,1,2,3,4,5,6,7,8,9,10,11] [(9,1),(10,1)] rfl kr_ (fun R hB hR=>?_)
    refine D.ps 2 ?_
    refine D.aa (bkT hb2 1) ?_
    refine D.ae ?_
    refine D.aa (bkT hb2 1) ?_
    refine D.ae ?_
    refine D.aa (bkT hb3 1) ?_
    refine D.ai (hq.r.mono mup) rfl rfl rfl rfl rfl rfl rfl rfl rfl rfl om_ (bu hjl) fl_ (fun p73 hp73=>?_)
    refine D.aa hp73 ?_
    refine D.aP (fun _=>(dD _ (hT.mono mup) _ hx)) ?_
    refine D.aU (fun _=>(rmul_fn _ (hT.mono mup) _ _ 1 (by decide) (by decide) ok.c2.qb hx.qt)) rfl rfl rfl rfl rfl rfl rfl rfl rfl ?_
    refine D.ae ?_
    refine D.e1 4 hR ?_;clear hR hB R
    refine G.rf ?_
    refine ⟨?_,rfl⟩
    unfold Qn.cost
    rfl
   ·have hk3:k≠3:=by simp only [beq_eq_false_iff_ne] at h64;omega
    refine G.z3 2 2 3 77 ?_
    refine G.cd (fun h77=>?_) fun h77=>?_
    ·obtain rfl:k=4:=by simp only [beq_iff_eq] at h77;omega
     have hil:i<q.l.length:=by omega
     have hx:=iv_ok ok.l hil
     refine G.aI [0,1,2,3,4,5,6,7,8,9,10,11] [(9,1),(10,1)] rfl kr_ (fun R hB hR=>?_)
     refine D.ps 2 ?_
     refine D.aa (bkT hb2 1) ?_
     refine D.ae ?_
     refine D.aa (bkT hb2 1) ?_
     refine D.ae ?_
     refine D.aa (bkT hb3 1) ?_
     refine D.ai (hq.l.mono mup) rfl rfl rfl rfl rfl rfl rfl rfl rfl rfl om_ (bu hil) fl_ (fun p86 hp86=>?_)
     refine D.aa hp86 ?_
     refine D.aP (fun _=>(dD _ (hT.mono mup) _ hx)) ?_
     refine D.aU (fun _=>(rmul_fn _ (hT.mono mup) _ _ 1 (by decide) (by decide) ok.c3.qb hx.qt)) rfl rfl rfl rfl rfl rfl rfl rfl rfl ?_
     refine D.ae ?_
     refine D.e1 4 hR ?_;clear hR hB R
     refine G.rf ?_
     refine ⟨?_,rfl⟩
     unfold Qn.cost
     rfl
    ·obtain rfl:k=5:=by simp only [beq_eq_false_iff_ne] at h77;omega
     have hjl:j<q.r.length:=by omega
     have hx:=iv_ok ok.r hjl
     refine G.aI [0,1,2,3,4,5,6,7,8,9,10,11] [(9,1),(10,1)] rfl kr_ (fun R hB hR=>?_)
     refine D.ps 2 ?_
     refine D.aa (bkT hb2 1) ?_
     refine D.ae ?_
     refine D.aa (bkT hb2 1) ?_
     refine D.ae ?_
     refine D.aa (bkT hb3 1) ?_
     refine D.ai (hq.r.mono mup) rfl rfl rfl rfl rfl rfl rfl rfl rfl rfl om_ (bu hjl) fl_ (fun p97 hp97=>?_)
     refine D.aa hp97 ?_
     refine D.aP (fun _=>(dD _ (hT.mono mup) _ hx)) ?_
     refine D.aU (fun _=>(rmul_fn _ (hT.mono mup) _ _ 1 (by decide) (by decide) ok.c3.qb hx.qt)) rfl rfl rfl rfl rfl rfl rfl rfl rfl ?_
     refine D.ae ?_
     refine D.e1 4 hR ?_;clear hR hB R
     refine G.rf ?_
     refine ⟨?_,rfl⟩
     unfold Qn.cost
     rfl
end Go.Proofs.YtjhmlnebikbdbaaGreatDoor
namespace Go.Jog
open Go

def Fo (o:Option Nat):Fence:={ Fence.wide with round:=o }

theorem oper_inO {P:Program}{o:Oper}{a:Act}{w:World}{next:Act->World->Prop}{Q:Exit->Act->World->Prop}{r:Option Nat}{n:Nat}(hd:∀ c,o.op≠.defer c)(h:o.wp P a w next Q):o.wpIn (Fo r) n P a w next Q:=by
 refine ⟨fun _ _=>trivial, ?_⟩
 show o.uponIn (Fo r) n P a next Q ((o.semAt r a.eval).run P w)
 rw [Oper.semAt_eq r a.eval o hd]
 unfold Oper.wp at h
 revert h
 generalize (execOp a.eval o).run P w=r
 intro h
 cases r with
 | ok x w' =>
  cases x with
  | value v=>exact h
  | skip=>exact h
  | defer d=>exact h
  | enter f args=>exact ⟨(fun h=>(by cases h)),callsIn_wide.2 h⟩
  | row row args =>
   refine ⟨(fun h=>(by cases h)),fun c cs _=>?_⟩
   obtain ⟨v,w2,h1,h2⟩:=h c cs
   exact ⟨v,w2,h1,stepsIn_wide.2 h2⟩
  | _=>exact h.elim
 | halt x w' =>
  cases x <;> exact h

theorem wpOp_inO {P:Program}{ops:Array Oper}{N:Act->World->Prop}{r:Option Nat}{n i:Nat}{K K':Act->World->Prop}{a:Act}{w:World}(hd:dK ops=true)(hk:∀ a w,K a w->K' a w)
  (h:wpOp P ops (QN N) i K a w):wpOpIn (Fo r) n P ops (QN N) i K' a w:=by
 unfold wpOp at h
 unfold wpOpIn
 cases ho:ops[i]? with
 | none=>rw [ho] at h;exact hk _ _ h
 | some o =>
  rw [ho] at h
  simp only at h ⊢
  split
  ·rename_i hw
   rw [if_pos hw] at h
   rcases h with h | ⟨_,a',w',h⟩
   ·exact oper_inO (noDefer_at hd ho) (Oper.wp_mono hk h)
   ·exact h.elim
  ·rename_i hw
   rw [if_neg hw] at h
   exact ⟨fun _ _=>trivial,hk _ _ h⟩

theorem uponIn_Q {P:Program}{o:Oper}{a:Act}{next:Act->World->Prop}{N:Act->World->Prop}{F:Fence}{n:Nat}{x:Result Next}(h:o.uponIn F n P a next (QN fun _ _=>False) x):o.uponIn F n P a next (QN N) x:=by
 cases x with
 | ok x w' =>
  cases x with
  | value v=>exact h
  | skip=>exact h
  | defer d=>exact h
  | enter f args =>
   refine ⟨h.1,CallsIn.mono h.2 fun e w'' he=>?_⟩
   cases e with
   | returned v=>exact he
   | panicked c=>exact he.elim
   | outgrown=>obtain ⟨_,_,he⟩:=he;exact he.elim
  | row row args=>exact h
  | round l f tmps assign body =>
   refine ⟨h.1,RoundIn.mono h.2 fun e w'' he=>?_⟩
   cases e with
   | returned v=>exact he
   | panicked c=>exact he.elim
   | outgrown=>obtain ⟨_,_,he⟩:=he;exact he.elim
  | _=>exact h.elim
 | halt x w' =>
  cases x <;> exact h
theorem wpOpIn_Q {P:Program}{ops:Array Oper}{N:Act->World->Prop}{F:Fence}{n i:Nat}{K:Act->World->Prop}{a:Act}{w:World}(h:wpOpIn F n P ops (QN fun _ _=>False) i K a w):wpOpIn F n P ops (QN N) i K a w:=by
 unfold wpOpIn at *
 cases ho:ops[i]? with
 | none=>rw [ho] at h;exact h
 | some o =>
  rw [ho] at h
  simp only at h ⊢
  split
  ·rename_i hw;rw [if_pos hw] at h;exact ⟨h.1,uponIn_Q h.2⟩
  ·rename_i hw;rw [if_neg hw] at h;exact h

section
variable {P:Program} {ops:Array Oper} {ι:Type} {cls:ι->World->Prop} {le:ι->ι->Prop} {md:Region.Mode} {r:Option Nat} {n y:Nat}

def stepY (r:Option Nat)(n y:Nat)(P:Program)(ops:Array Oper)(cls:ι->World->Prop)(le:ι->ι->Prop)(kd i:Nat)(K:Act->ι->Prop)(a:Act)(κ:ι):Prop :=
 if i=y then ∀ w,cls κ w->wpOpIn (Fo r) n P ops (QN fun _ _=>False) i (fun a' w'=>∃ κ',cls κ' w'/\K a' κ') a w
 else cI P ops cls le kd i K a κ
theorem stepY_mono {kd i:Nat}{K K':Act->ι->Prop}{a:Act}{κ:ι}(hk:∀ a κ,K a κ->K' a κ)(h:stepY r n y P ops cls le kd i K a κ):stepY r n y P ops cls le kd i K' a κ:=by
 unfold stepY at *
 split
 ·rename_i hi
  rw [if_pos hi] at h
  exact fun w hw=>wpOpIn_mono (fun a' w' ⟨κ',h1,h2⟩=>⟨κ',h1,hk _ _ h2⟩) (h w hw)
 ·rename_i hi
  rw [if_neg hi] at h
  exact cH hk h
theorem wpOpIn_of_stepY (hd:dK ops=true)(hrefl:∀ κ,le κ κ){kd i:Nat}{K:Act->ι->Prop}{K' N:Act->World->Prop}{a:Act}{κ:ι}{w:World}(hw:cls κ w)
  (hk:∀ a κ w,K a κ->cls κ w->K' a w) (h:stepY r n y P ops cls le kd i K a κ):wpOpIn (Fo r) n P ops (QN N) i K' a w:=by
 unfold stepY at h
 split at h
 ·exact wpOpIn_Q (wpOpIn_mono (fun a' w' ⟨κ',h1,h2⟩=>hk _ _ _ h2 h1) (h w hw))
 ·exact wpOp_inO hd (fun _ _ h=>h) (d8 (Q:=QN N) hrefl hw hk h)

def wpAnyY (r:Option Nat)(n y:Nat)(P:Program)(md:Region.Mode)(ops:Array Oper)(cls:ι->World->Prop)(le:ι->ι->Prop)(kd:Nat->Nat)(Post:Act->ι->Prop):Nat->Array Bool->Act->ι->Prop
 | 0,listed,a,κ=>Region.ready md ops listed=[]/\Post a κ
 | f+1,listed,a,κ=>(Region.ready md ops listed=[]->Post a κ) /\
   ∀ i∈Region.ready md ops listed,stepY r n y P ops cls le (kd i) i (wpAnyY r n y P md ops cls le kd Post f (listed.setIfInBounds i true)) a κ

theorem wpAnyIn_of_Y (hd:dK ops=true)(hrefl:∀ κ,le κ κ){kd:Nat->Nat}{Post:Act->ι->Prop}{N:Act->World->Prop}(hN:∀ a κ w,Post a κ->cls κ w->N a w) :
  ∀ (f:Nat)(listed:Array Bool)(a:Act)(κ:ι)(w:World),cls κ w->wpAnyY r n y P md ops cls le kd Post f listed a κ->wpAnyIn (Fo r) n P md ops (QN N) f listed a w
 | 0,_,_,_,_,hw,h=>⟨h.1,hN _ _ _ h.2 hw⟩
 | f+1,_,_,_,_,hw,h=>⟨fun h0=>hN _ _ _ (h.1 h0) hw,fun i hi =>
   wpOpIn_of_stepY hd hrefl hw (fun a' κ' w' h' hw'=>wpAnyIn_of_Y hd hrefl hN f _ a' κ' w' hw' h') (h.2 i hi)⟩

theorem wpAnyY_first (htrans:∀ a b c,le a b->le b c->le a c){kd:Nat->Nat}{Post:Act->ι->Prop}{i F:Nat}{oi:Oper}{v:Value}(hi:ops[i]?=some oi)(hki:kd i<=1)(hiy:i≠y)
  (hsel:∀ (j:Nat)(o:Oper) cs b,ops[j]?=some o->o.op≠.select cs b) :
  ∀ (f:Nat)(listed:Array Bool)(a:Act)(κ:ι),Closed md ops listed ->
   (∀ j oj,ops[j]?=some oj->j≠i->listed.getD j true=false->waitsT md ops F j i=true∨(j≠y/\oi.apart ops oj=true/\(kd i=0∨kd j<=2))) ->
   i∈Region.ready md ops listed->(∀ κ',(kd i=1->le κ κ')->YieldsIn P ops (cls κ') oi v a) ->
   wpAnyY r n y P md ops cls le kd Post f (listed.setIfInBounds i true) (a.put oi.dst v) κ->wpAnyY r n y P md ops cls le kd Post (f+1) listed a κ:=by
 intro f
 have self:∀ (K:Act->ι->Prop)(a:Act)(κ:ι),(∀ κ',(kd i=1->le κ κ')->YieldsIn P ops (cls κ') oi v a)->K (a.put oi.dst v) κ->stepY r n y P ops cls le (kd i) i K a κ:=fun K a κ hy hK=>by
  unfold stepY
  rw [if_neg hiy]
  unfold cI
  simp only [hi,hki,if_true]
  exact ⟨v,hy,hK⟩
 induction f with
 | zero =>
  intro listed a κ _ _ hr hy H
  refine ⟨fun h=>(by rw [h] at hr;cases hr),fun j hj=>?_⟩
  by_cases hji:j=i
  ·subst hji;exact self _ _ _ hy H
  ·have:=ready_mono hj hji
   rw [H.1] at this
   cases this
 | succ f ih =>
  intro listed a κ hcl hfree hr hy H
  refine ⟨fun h=>(by rw [h] at hr;cases hr),fun j hj=>?_⟩
  by_cases hji:j=i
  ·subst hji;exact self _ _ _ hy H
  ·have h1:=H.2 j (ready_mono hj hji)
   obtain ⟨hjun,oj,hoj,hall⟩:=mem_ready.1 hj
   have hiun:=(mem_ready.1 hr).1
   have hap:j≠y/\oi.apart ops oj=true/\(kd i=0∨kd j<=2):=by
    rcases hfree j oj hoj hji hjun with h | h
    ·have:=da hcl F j oj hoj hall h
     rw [getD_tf hiun] at this
     cases this
    ·exact h
   unfold stepY at h1 ⊢
   rw [if_neg hap.1] at h1 ⊢
   have h2:=stepU_swap htrans hoj hap.2.1 hap.2.2 (fun cs b=>hsel i oi cs b hi) (fun cs b=>hsel j oj cs b hoj) hy h1
   refine cH (fun a' κ' h3=>ih (listed.setIfInBounds j true) a' κ' (hcl.set hj) (fun k ok hk hne hun=>?_) (ready_mono hr (Ne.symm hji)) h3.1 ?_) h2
   ·refine hfree k ok hk hne ?_
    by_cases hjk:j=k
    ·subst hjk;exact hjun
    ·rw [getD_set_ne true hjk] at hun;exact hun
   ·rw [Array.setIfInBounds_comm _ _ hji]
    exact h3.2

def DY (r:Option Nat)(n y:Nat)(P:Program)(ops:Array Oper)(cls:ι->World->Prop)(le:ι->ι->Prop)(kd:Nat->Nat)(Post:Act->ι->Prop):List Nat->Act->ι->Prop
 | [],a,κ=>Post a κ
 | i::π,a,κ=>stepY r n y P ops cls le (kd i) i (DY r n y P ops cls le kd Post π) a κ

def freeY (y:Nat)(md:Region.Mode)(ops:Array Oper)(kd:Nat->Nat)(listed:Array Bool)(i:Nat):Bool :=
 match ops[i]? with
 | none=>false
 | some oi=>(List.range ops.size).all fun j=>j == i || listed.getD j true || match ops[j]? with
   | some oj=>(!(j == y) && oi.apart ops oj && (kd i == 0 || Nat.ble (kd j) 2)) || waitsT md ops ops.size j i
   | none=>true
def simY (y:Nat)(md:Region.Mode)(ops:Array Oper)(kd:Nat->Nat):List Nat->Array Bool->Bool
 | [],listed=>(Region.ready md ops listed).isEmpty
 | i::π,listed=>(bif Nat.ble (kd i) 1 then !(i == y) && (Region.ready md ops listed).contains i && freeY y md ops kd listed i else (Region.ready md ops listed == [i])) && simY y md ops kd π (listed.setIfInBounds i true)

theorem wpAnyY_of_DY (htrans:∀ a b c,le a b->le b c->le a c){kd:Nat->Nat}{Post:Act->ι->Prop}(hsel:Region.noSelect ops=true) :
  ∀ (π:List Nat)(listed:Array Bool)(a:Act)(κ:ι),Closed md ops listed->simY y md ops kd π listed=true->DY r n y P ops cls le kd Post π a κ->wpAnyY r n y P md ops cls le kd Post π.length listed a κ
 | [],listed,a,κ,_,hB,h=>⟨by simpa [simY] using hB,h⟩
 | i::π,listed,a,κ,hcl,hB,h=>by
  simp only [simY,Bool.and_eq_true] at hB
  obtain ⟨hB1,hB2⟩:=hB
  by_cases hk:kd i<=1
  ·have hb:Nat.ble (kd i) 1=true:=by rw [Nat.ble_eq];exact hk
   rw [hb] at hB1
   simp only [cond_true,Bool.and_eq_true,List.contains_iff_mem,Bool.not_eq_true',beq_eq_false_iff_ne] at hB1
   obtain ⟨⟨hiy,hr⟩,hf⟩:=hB1
   simp only [DY] at h
   unfold stepY at h
   rw [if_neg hiy] at h
   unfold cI at h
   cases ho:ops[i]? with
   | none=>simp only [ho] at h
   | some o =>
    simp only [ho,hk,if_true] at h
    obtain ⟨v,hy,hK⟩:=h
    refine wpAnyY_first (F:=ops.size) htrans ho hk hiy (fun j o cs b=>Region.noSelect_spec hsel j o cs b) π.length listed a κ hcl (fun j oj hj hne hun=>?_) hr hy
     (wpAnyY_of_DY htrans hsel π _ _ κ (hcl.set hr) hB2 hK)
    simp only [freeY,ho,List.all_eq_true,List.mem_range] at hf
    have:=hf j (Array.getElem?_eq_some_iff.1 hj).1
    simp only [hj,Bool.or_eq_true,beq_iff_eq,hne,false_or,hun,Bool.false_eq_true,Bool.and_eq_true,Nat.ble_eq,Bool.not_eq_true',beq_eq_false_iff_ne] at this
    rcases this with h1 | h1
    ·exact .inr ⟨h1.1.1,h1.1.2,h1.2⟩
    ·exact .inl h1
  ·have hb:Nat.ble (kd i) 1=false:=by
    cases hx:Nat.ble (kd i) 1 with
    | false=>rfl
    | true=>exact absurd (by rw [Nat.ble_eq] at hx;exact hx) hk
   rw [hb] at hB1
   simp only [cond_false,beq_iff_eq] at hB1
   have hmem:i∈Region.ready md ops listed:=by rw [hB1];simp
   refine ⟨fun h0=>(by rw [h0] at hB1;cases hB1),fun j hj=>?_⟩
   rw [hB1] at hj
   obtain rfl:j=i:=by simpa using hj
   exact stepY_mono (fun a' κ' h'=>wpAnyY_of_DY htrans hsel π _ a' κ' (hcl.set hmem) hB2 h') h

theorem DY_of_DU {kd:Nat->Nat}{Post Mid:Act->ι->Prop}{ρ:List Nat}(hM:∀ a κ,Mid a κ->DY r n y P ops cls le kd Post ρ a κ):∀ (π:List Nat)(a:Act)(κ:ι),y ∉ π->DU P ops cls le kd Mid π a κ->DY r n y P ops cls le kd Post (π++ρ) a κ
 | [],_,_,_,h=>hM _ _ h
 | i::π,a,κ,hy,h=>by
  show stepY r n y P ops cls le (kd i) i (DY r n y P ops cls le kd Post (π++ρ)) a κ
  unfold stepY
  rw [if_neg (fun e=>hy (by rw [e];exact List.mem_cons_self ..))]
  exact cH (fun a κ h=>DY_of_DU hM π a κ (fun hh=>hy (List.mem_cons_of_mem _ hh)) h) h

theorem wpIn_region_simY (hd:dK ops=true)(hrefl:∀ κ,le κ κ)(htrans:∀ a b c,le a b->le b c->le a c){kd:Nat->Nat}{Post:Act->ι->Prop}{id:Nat}{Q:Exit->Act->World->Prop}{a:Act}{w:World}{κ:ι}
  (hm:P.follows .mixedOrders=true) (hw:cls κ { w with drawn:=w.drawn+1 }) (π:List Nat)
  (hB:(Region.noSelect ops && (π.length == ops.size) && simY y .any ops kd π (Array.replicate ops.size false))=true) (h:DY r n y P ops cls le kd Post π a κ)
  (hN:∀ a κ w,Post a κ->cls κ w->Q .normal a w):(Code.region id ops true).wpIn (Fo r) n P Q a w:=by
 simp only [Bool.and_eq_true,beq_iff_eq] at hB
 obtain ⟨⟨hs,hl⟩,hsim⟩:=hB
 have h0:Closed .any ops (Array.replicate ops.size false):=fun j oj _ hl=>by
  rcases Nat.lt_or_ge j ops.size with h | h <;> simp [h] at hl
 have:=wpAnyY_of_DY htrans hs π _ a κ h0 hsim h
 rw [hl] at this
 exact wpIn_mono (wpIn_region_any hm (wpAnyIn_of_Y hd hrefl (N:=fun a w=>Q .normal a w) hN _ _ _ _ _ hw this)) (fun e a w q=>by cases e <;> first | exact q | exact q.elim)
end
end Go.Jog
namespace Go.Jog
open Go

section
variable {F:Fx} {k:List KI} {fr:Fr} {C:Mem} {L:List Ent}
end
end Go.Jog
namespace Go.Jog
open Go

section
variable {F:Fx} {k:List KI} {fr:Fr} {C:Mem} {L:List Ent}
def IAD (F:Fx)(I:List Deferred->Fr->Mem->List Ent->Nat->Prop)(C:Mem)(m:Nat)(a:Act)(w:World):Prop :=
 ∃ dd fr C' L',C.le C'/\I dd fr C' L' m/\FrOk F.n [] dd fr a/\F.b.cls (C',L') w
theorem G.eO {c:Code}(I:List Deferred->Fr->Mem->List Ent->Nat->Prop){m:Nat}{fr':Fr}(hs:Has fr fr')(hI:I F.dd fr' C L m)
  (hr:∀ dd fr C' L' m,C.le C'->I dd fr C' L' m->G { F with dd:=dd } (norm 64 (.code c::.inv (fun a w=>∃ m',m'<m/\IAD F I C m' a w)::k)) .normal fr C' L'):G F (.code (.loop c)::k) .normal fr C L:=fun h0 a w ha hw=>by
 simp only [Kq]
 refine wp_loop_ex F.W (IAD F I C) ⟨F.dd,fr',C,L,Mem.le.refl _,hI,ha.weaken hs.sub,hw⟩ (fun m a w ⟨dd1,fr1,C1,L1,hle,hI1,ha1,hw1⟩=>?_)
 have h1:=G.bm 64 (hr dd1 fr1 C1 L1 m hle hI1) (h0.trans hle) a w ha1 hw1
 rw [Kq_dd] at h1
 refine F.W.mono (fun e a w q=>?_) h1
 cases e <;> exact q
theorem G.eB {dd:List Deferred}{I:List Deferred->Fr->Mem->List Ent->Nat->Prop}{C0:Mem}{m m':Nat}{fr':Fr}(hlt:m'<m)(hle:C0.le C)(hs:Has fr fr')(hI:I dd fr' C L m') :
  G { F with dd:=dd } (.inv (fun a w=>∃ m',m'<m/\IAD F I C0 m' a w)::k) .normal fr C L:=fun _ _a _w ha hw =>
 ⟨m',hlt,dd,fr',C,L,hle,hI,ha.weaken hs.sub,hw⟩
def d4 (D:Nat):Deferred:={ target:=.collected D,args:=#[] }
def ce (D:Nat):Ent:=.obj D (.deferred (some []))
end
end Go.Jog
namespace Go.Jog
open Go

theorem Sep.lessC {C C1:Mem}{L:List Ent}{w:World}(h:Sep C1 L w)(hl:C.le C1):Sep C L w :=
 ⟨fun b o hb=>h.c b o (hl b o hb),h.e,h.d,fun k hk=>by
  cases hc:C k with
  | none=>rfl
  | some o=>have:=hl k o hc;rw [h.n k hk] at this;cases this⟩
theorem St.up {C C1 C':Mem}{L L':List Ent}{W W':World}(hs:Sep C1 L W)(k:St W C L C' L' W'):St W C1 L C1 L' W':=by
 refine ⟨⟨fun b o hb=>?_,k.sep.e,k.sep.d,fun i hi=>?_⟩,k.ev,Mem.le.refl _,fun _ _ h=>.inl h,k.ln⟩
 ·rw [k.ev.block b (bG (hs.c b o hb)) (fun ho=>by have:=hs.n b ho;rw [hb] at this;cases this)]
  exact hs.c b o hb
 ·cases hc:C1 i with
  | none=>rfl
  | some o =>
   rcases k.ln i hi with h | h
   ·have:=bG (hs.c i o hc);omega
   ·have:=hs.n i h;rw [hc] at this;cases this
theorem Sep.front {C:Mem}{Lp Lr:List Ent}{w:World}(h:Sep C (Lp++Lr) w):Sep C Lp w :=
 ⟨h.c,fun x hx=>h.e x (List.mem_append_left _ hx),(List.pairwise_append.1 h.d).1,fun k ⟨x,hx,hk⟩=>h.n k ⟨x,List.mem_append_left _ hx,hk⟩⟩

def YC (P:Program)(l:Nat)(vs:List Value)(C:Mem)(L:List Ent)(R:Bool->List Ent->Prop):Prop :=
 ∀ W,Sep C L W->YieldAt Fence.wide 1 P l vs.toArray W fun e W'=>∃ b L1,e=.returned (.bool b)/\R b L1/\St W C L C L1 W'

theorem roundIn_any {P:Program}{l fn:Nat}{tmps:Array Value}{assign body:Code}{W:World}{R:Ending->World->Prop}{m n:Nat}{r:Option Nat}(h:RoundIn Fence.wide m P l fn tmps assign body W R):RoundIn (Fo r) n P l fn tmps assign body W R :=
 ⟨trivial,fun c cs _=>h.2 c cs (room_wide _)⟩

theorem run_callY {P:Program}{a:Act}{o:Oper}{f:Operand}{args:Array Operand}{ts:Array TypeId}{l:Nat}{vs:List Value}{fn:Nat}{tmps:Array Value}{assign body:Code}{w:World}
  (hop:o.op=.call ⟨.value f,args,ts⟩) (hf:a.eval f=.func (.yield l) #[] #[]) (hargs:args.toList.map a.eval=vs) (hy:(Instr.yield l vs.toArray).run P w=.ok (.round l fn tmps assign body) w) :
  (execOp a.eval o).run P w=.ok (.round l fn tmps assign body) w:=by
 have e1:execOp a.eval o=(do let dd <- resolve a.eval ⟨.value f,args,ts⟩ o.type;invoke dd.target dd.args:Sem Next):=by unfold execOp;rw [hop]
 have e2:args.map a.eval=vs.toArray:=by apply Array.ext';rw [<- hargs];simp
 rw [e1]
 simp only [resolve,hf,Deferred.ofValue,e2,Sem.run_bind,Sem.run_pure,Result.andThen_ok,invoke]
 simpa using hy

def YW (P:Program)(W:Cw P)(r:Option Nat)(n:Nat):Prop:=∀ {c:Code}{Q:Exit->Act->World->Prop}{a:Act}{w:World},c.wpIn (Fo r) n P Q a w->W.wp c Q a w
theorem YW.plain (P:Program):YW P (Cw.plain P) none 3:=fun h=>(wpIn_wide (n:=3)).1 h
theorem YW.round (P:Program)(l n:Nat):YW P (Cw.round P l n) (some l) n:=fun h=>h

section
variable {F:Fx} {k:List KI} {fr:Fr} {C:Mem} {L:List Ent}
theorem G.drawY {id:Nat}{l:List Oper}(y:Nat)(π ρ:List Nat)(ov:List (Nat × Nat)){r:Option Nat}{n:Nat}(hYW:YW F.cx.P F.W r n)(hp:fr.all (fun x=>x.2.1.isEmpty)=true)(hnd:dK l.toArray=true)
  (hB:(Region.noSelect l.toArray && ((π++y::ρ).length == l.toArray.size) && simY y .any l.toArray (fun i=>ovr ov i (dy (opAt l i))) (π++y::ρ) (Array.replicate l.toArray.size false))=true)
  (hb:((π++y::ρ).all (fun i=>Nat.blt i l.length) && (!π.contains y && !ρ.contains y))=true)
  {f:Operand} {args:Array Operand} {ts:Array TypeId} {d:Nat} (hop:(opAt l y).op=.call ⟨.value f,args,ts⟩) (hd:(opAt l y).dst=some d)
  (h:∀ R:Rg F.n (l.map (·.dst)),C.le R.b.C0 ->
   (∀ {lp:Nat}{vs:List Value}{Lk Lo:List Ent}{Cy:Mem}{Rl:Bool->List Ent->Prop}{fr1:Fr}{C1:Mem}{L1:List Ent},YC F.cx.P lp vs Cy Lk Rl->Cy.le C1->gOn (l.map (·.dst)) fr1 (opAt l y).guard=true->∀ {g:GL},gOf (l.map (·.dst)) fr1 (opAt l y).guard=some g->ev fr1 g f=some (.func (.yield lp) #[] #[]) ->
    listO (ev fr1 g) args.toList=some vs->L1.Perm (Lk++Lo)->(∀ v,aH F.n (l.map (·.dst)) ((d,[],v)::fr1) d=true) ->
    (∀ b L2,Rl b L2->∀ R2:Rg F.n (l.map (·.dst)),C.le R2.b.C0->(∀ fr C L,fr.all (fun x=>x.2.1.isEmpty)=true->G F (norm 64 k) .normal fr C L->D F.cx R2 [] fr C L)->D F.cx R2 (bW l ov ρ) ((d,[],.bool b)::fr1) C1 (L2++Lo)) ->
    D F.cx R [] fr1 C1 L1) ->
   D F.cx R (bW l ov π) fr C L) :
  G F (.code (.region id l.toArray true)::k) .normal fr C L:=fun h0 a w ha hw=>by
 simp only [Kq]
 simp only [Bool.and_eq_true,List.all_append,List.all_cons,Bool.not_eq_true',List.contains_eq_mem,decide_eq_false_iff_not] at hb
 obtain ⟨⟨hbπ,hby,hbρ⟩,hyπ,hyρ⟩:=hb
 let kd:=fun i=>ovr ov i (dy (opAt l i))
 let b:Bs:=⟨F.b.w0,C,F.b.L0⟩
 let Post:Act->Mem × List Ent->Prop:=fun a κ=>∀ w,b.cls κ w->Kq F k .normal a w
 let R2:Rg F.n (l.map (·.dst)):=⟨b,l.toArray,kd,Post,fun tmps=>bY l tmps,F.dd⟩
 let Mid:Act->Mem × List Ent->Prop:=fun a κ=>DY r n y F.cx.P l.toArray b.cls kle kd Post (y::ρ) a κ
 let R1:Rg F.n (l.map (·.dst)):=⟨b,l.toArray,kd,Mid,fun tmps=>bY l tmps,F.dd⟩
 have un:∀ κ w,b.cls κ w->F.b.cls κ w:=fun κ w hc=>St.unbase h0 hw.cn hc
 have hR2:∀ fr C L,fr.all (fun x=>x.2.1.isEmpty)=true->G F (norm 64 k) .normal fr C L->D F.cx R2 [] fr C L:=fun fr C' L hp hG h0' _ a ha w hw=>G.bm 64 hG (h0.trans h0') a w ⟨ha.size,ha.defers,fun s g v hg=>by
  have hm:=List.all_eq_true.1 hp _ (Fr.get_mem hg)
  simp only [List.isEmpty_iff] at hm
  subst hm
  exact ⟨fun _=>(ha.ent s [] v hg).1 (fun p hp=>by cases hp),fun hn=>absurd (fun p hp=>by cases hp) hn⟩⟩ (un _ _ hw)
 have hits:∀ (R:Rg F.n (l.map (·.dst)))(σ:List Nat),R.ops=l.toArray->R.kd=kd->σ.all (fun i=>Nat.blt i l.length)=true->∀ x∈bW l ov σ,R.kd x.1=x.2.1/\R.ops[x.1]?=some x.2.2:=fun R σ ho hk hσ x hx=>by
  obtain ⟨h1,h2,h3⟩:=dX hx
  refine ⟨by rw [hk];exact h2.symm, ?_⟩
  have hlt:=List.all_eq_true.1 hσ x.1 h1
  rw [Nat.blt_eq] at hlt
  rw [ho,List.getElem?_toArray,dw hlt,h3]
 rw [Nat.blt_eq] at hby
 have hoy:l.toArray[y]?=some (opAt l y):=by rw [List.getElem?_toArray,dw hby]
 have hD:=h R1 (Mem.le.refl _) (fun {lp vs Lk Lo Cy Rl fr1 C1 L1} hY hle hg g hgo hf hargs hL hok hrest h0' _ a1 ha1=>by
  show stepY r n y F.cx.P l.toArray b.cls kle (kd y) y (DY r n y F.cx.P l.toArray b.cls kle kd Post ρ) a1 (C1,L1)
  unfold stepY
  rw [if_pos rfl]
  intro w1 hw1
  unfold wpOpIn
  rw [hoy]
  simp only
  have hwt:Region.wanted (opAt l y) (yielded l.toArray a1.tmps)=true:=wanted_on (fun tmps=>bY l tmps) ha1 hg
  rw [if_pos hwt]
  refine ⟨fun _ _=>trivial, ?_⟩
  have hst:=St.perm hw1 hL
  have hsep:=hst.sep.front
  obtain ⟨fn,tmps,assign,body,hy,hR⟩:=hY w1 (hsep.lessC hle)
  have hsees:∀ x u,ev fr1 g x=some u->a1.eval x=u:=fun x u hx=>aT ha1 ((dP (fun tmps=>bY l tmps) ha1 hgo).1 hwt) hx
  show Oper.uponIn (Fo r) n F.cx.P (opAt l y) a1 _ _ (((opAt l y).semAt r a1.eval).run F.cx.P w1)
  rw [Oper.semAt_eq r a1.eval (opAt l y) (fun c hc=>by rw [hop] at hc;cases hc),run_callY hop (hsees _ _ hf) (b0 hsees hargs) hy]
  rw [Oper.uponIn_round]
  refine ⟨(fun h=>(by cases h)),(roundIn_any hR).mono fun e W' ⟨bb,L2,he,hRl,hs⟩=>?_⟩
  subst he
  refine ⟨(C1,L2++Lo),St.call hst (St.up hsep hs), ?_⟩
  have hD2:=hrest bb L2 hRl R2 (Mem.le.refl _) hR2 h0' (hits R2 ρ rfl rfl hbρ) _ (ha1.put (hok (.bool bb)) ⟨fun _=>rfl,fun hn=>absurd (fun p hp=>by cases hp) hn⟩)
  rw [bQ] at hD2
  have:=DY_of_DU (r:=r) (n:=n) (y:=y) (ρ:=[]) (Post:=Post) (fun _ _ h=>h) ρ _ _ hyρ hD2
  rw [List.append_nil] at this
  rw [hd]
  exact this) (Mem.le.refl _) (hits R1 π rfl rfl hbπ) a (ha.enter _ hp)
 rw [bQ] at hD
 have hDY:=DY_of_DU (r:=r) (n:=n) (y:=y) (ρ:=y::ρ) (Post:=Post) (fun _ _ h=>h) π _ _ hyπ hD
 exact hYW (wpIn_region_simY hnd (cls:=b.cls) (le:=kle) kle.refl kle.trans F.cx.mixed (St.rebase (St.drew hw)) _ hB hDY (fun a κ w hP hw=>hP w hw))
end

def IterS (P:Program)(gf:FuncId)(lb:Array Value)(C:Mem)(vss:List (List Value)):Prop :=
 ∀ (l:Nat)(I X:Nat->List Ent->Prop)(L:List Ent),(∀ k v L',vss[k]?=some v->I k L'->YC P l v C L' (fun b L1=>(b=true/\I (k+1) L1)∨(b=false/\X k L1)))->I 0 L ->
  ∀ W,Sep C L W->CallsIn Fence.wide 2 P gf (#[.func (.yield l) #[] #[]]++lb) W fun e W'=>(∃ v,e=.returned v)/\∃ L',(I vss.length L'∨∃ k,k<vss.length/\X k L')/\St W C L C L' W'
theorem IterS.intro {cx:Cx}{f:FuncId}{fn:Func}{c:Code}{lb:List Value}{C:Mem}{vss:List (List Value)}(hen:Enters cx.P f=true)(hf:cx.P.funcs[f]?=some fn)(hb:fn.body=some c)
  (n:Nat) (hnt:fn.ntmps=n) (hn:Nat.ble (lb.length+1) n=true)
  (h:∀ (l:Nat)(I X:Nat->List Ent->Prop)(L:List Ent),(∀ k v L',vss[k]?=some v->I k L'->YC cx.P l v C L' (fun b L1=>(b=true/\I (k+1) L1)∨(b=false/\X k L1)))->I 0 L ->
   ∀ w0,G ⟨cx,fn,n,⟨w0,C,L⟩,fun _ _ L'=>I vss.length L'∨∃ k,k<vss.length/\X k L',Cw.plain cx.P,[],bodyPost cx.P fn (finOf ⟨w0,C,L⟩ fun _ _ L'=>I vss.length L'∨∃ k,k<vss.length/\X k L')⟩
    (norm 64 [.code c]) .normal (args0 (.func (.yield l) #[] #[]::lb) 0) C L):IterS cx.P f lb.toArray C vss:=fun l I X L hy h0 W hW=>by
 have hF:=Fn.intro (args:=.func (.yield l) #[] #[]::lb) hen hf hb n hnt hn (h l I X L hy h0)
 have e:(#[Value.func (.yield l) #[] #[]]++lb.toArray)=(Value.func (.yield l) #[] #[]::lb).toArray:=by simp
 rw [e]
 refine callsIn_wide.2 ((hF.2 W hW).mono fun e w' ⟨v,C',L',he,hs,hq⟩=>⟨⟨v,he⟩,L',hq,St.less hs (Mem.le.refl _) hs.c0⟩)
end Go.Jog
namespace Go.Jog
open Go

def putsF:List (Nat × Value)->Fr->Fr
 | [],fr=>fr
 | (p,v)::l,fr=>putsF l ((p,[],v)::fr)
def okPuts (n:Nat):List (Nat × Value)->Fr->Bool
 | [],_=>true
 | (p,v)::l,fr=>aH n [] ((p,[],v)::fr) p && okPuts n l ((p,[],v)::fr)
theorem FrOk.puts {n:Nat}:∀ {l:List (Nat × Value)}{fr:Fr}{t:Array Value},FrOk n [] [] fr { tmps:=t,defers:=[] }->okPuts n l fr=true->FrOk n [] [] (putsF l fr) { tmps:=l.foldl (fun t x=>t.setIfInBounds x.1 x.2) t,defers:=[] }
 | [],_,_,h,_=>h
 | (p,v)::l,fr,t,h,hk=>by
  simp only [okPuts,Bool.and_eq_true] at hk
  have h1:=FrOk.put (u:=v) h hk.1 ⟨fun _=>rfl,fun hn=>absurd (fun p hp=>by cases hp) hn⟩
  exact FrOk.puts (l:=l) ⟨h1.size,rfl,h1.ent⟩ hk.2

def xcode:Exit->Option Code
 | .ret=>some .ret
 | .exit id=>some (.exit id)
 | _=>none

section
variable {F:Fx} {k:List KI} {fr:Fr} {C:Mem} {L:List Ent}
theorem G.cW {g:Operand}{ps:List Nat}{assign body:Code}{gf:FuncId}{lb:Array Value}{vss:List (List Value)}(hW:F.W=Cw.plain F.cx.P)
  (hg:ev fr [] g=some (.func (.func gf) #[] lb)) (hen:Enters F.cx.P gf=true) (hseq:IterS F.cx.P gf lb C vss) (hps:∀ v∈vss,v.length=ps.length)
  (I:Nat->List Ent->Prop) (X:Code->Nat->List Ent->Prop) (h0:I 0 L)
  (hok:∀ v∈vss,okPuts F.n (ps.zip v) fr=true) (A:Nat->List Ent->Fr->List Ent->Prop)
  (hassign:∀ l j v L' W1,I j L'->vss[j]?=some v->G ⟨F.cx,F.fn,F.n,⟨W1,C,L'⟩,F.post,Cw.round F.cx.P l 1,[],fun e a w'=>e=.normal/\∃ frA LA,A j L' frA LA/\FrOk F.n [] [] frA a/\St W1 C L' C LA w'⟩ (norm 64 [.code assign]) .normal (putsF (ps.zip v) fr) C L')
  (hbody:∀ l j v L' frA LA W1,I j L'->vss[j]?=some v->A j L' frA LA ->
   G ⟨F.cx,F.fn,F.n,⟨W1,C,LA⟩,F.post,Cw.round F.cx.P l 1,[],fun e _ w'=>(e=.normal/\∃ L1,I (j+1) L1/\St W1 C LA C L1 w')∨(∃ c L1,xcode e=some c/\X c j L1/\St W1 C LA C L1 w')⟩ (norm 64 [.code body]) .normal frA C LA)
  (hdone:∀ D L',I vss.length L'->G { F with dd:={ target:=.collected D,args:=#[] }::F.dd } (norm 64 k) .normal fr C (.obj D (.deferred (some []))::L'))
  (hstop:∀ D j c L',j<vss.length->X c j L'->G { F with dd:={ target:=.collected D,args:=#[] }::F.dd } (.code c::k) .normal fr C (.obj D (.deferred (some []))::L')) :
  G F (.code (.rangeFunc g ps.toArray assign body)::k) .normal fr C L:=fun hle a w ha hw=>by
 simp only [Kq,hW]
 show (Code.rangeFunc g ps.toArray assign body).wp F.cx.P (Kq F k) a w
 refine (wpIn_wide (n:=3)).1 (wpIn_rangeFunc fun fn _=>?_)
 have hga:a.eval g=.func (.func gf) #[] lb:=aT ha (fun p hp=>by cases hp) hg
 obtain ⟨rec,hrec⟩:∃ rec:LoopState->Option Code->Loop,rec=fun st pe=>{ state:=st,pending:=pe,fn,tmps:=a.tmps,params:=ps.toArray,assign,body,defers:=w.heap.size }:=⟨_,rfl⟩
 obtain ⟨z,hz⟩:∃ z,w.heap.size=z:=⟨_,rfl⟩
 obtain ⟨W1,hW1⟩:∃ W1,(w.alloc (.deferred (some []))).alloc (.loop (rec .ready none))=W1:=⟨_,rfl⟩
 have hS1:St F.b.w0 F.b.C0 F.b.L0 C (.obj (z+1) (.loop (rec .ready none))::.obj z (.deferred (some []))::L) W1:=by
  have:=St.alloc (St.alloc hw (.deferred (some []))) (.loop (rec .ready none))
  rw [World.size_alloc,hz] at this
  rw [<- hW1];exact this
 refine ⟨z+1,[{ target:=.collected z,args:=#[] }],W1,{ target:=.fn (.func gf) lb,args:=#[.func (.yield (z+1)) #[] #[]] },W1,gf,
  #[.func (.yield (z+1)) #[] #[]]++lb,W1, ?_, ?_,fun _ _=>trivial, ?_,fun _=>by decide, ?_⟩
 ·rw [<- hW1,hrec,<- hz];exact run_enterLoop_outer _ _ _ _ _
 ·simp only [resolve,hga]
  simp [go_sem]
 ·simp [invoke,go_sem,run_callFunc hen]
 ·refine (hseq (z+1) (fun j L2=>∃ L',I j L'/\L2=.obj (z+1) (.loop (rec .ready none))::.obj z (.deferred (some []))::L')
   (fun j L2=>∃ c L',X c j L'/\L2=.obj (z+1) (.loop (rec .done (some c)))::.obj z (.deferred (some []))::L') _ ?_ ⟨L,h0,rfl⟩ W1 hS1.sep).mono ?_
  ·rintro j v L2 hj ⟨L',hi,rfl⟩ W hW0
   have hmem:v∈vss:=List.mem_of_getElem? hj
   have hs:=St.start hW0
   have hl:W.heap[z+1]?=some (.loop (rec .ready none)):=hs.sep.e _ (List.mem_cons_self ..)
   have hy:=run_yield (P:=F.cx.P) (args:=v.toArray) hl (by rw [hrec];simp [hps v hmem])
   rw [hrec] at hy
   have hzz:(ps.toArray.zip v.toArray).foldl (fun tmps (x:Nat × Value)=>match x with | (t,a)=>tmps.setIfInBounds t a) a.tmps=(ps.zip v).foldl (fun t x=>t.setIfInBounds x.1 x.2) a.tmps:=by simp
   dsimp only at hy
   rw [hzz] at hy
   refine ⟨fn,_,assign,body,hy,roundIn_of_wpIn trivial ?_⟩
   have hfr:FrOk F.n [] [] (putsF (ps.zip v) fr) { tmps:=(ps.zip v).foldl (fun t x=>t.setIfInBounds x.1 x.2) a.tmps,defers:=[] } :=
    FrOk.puts ⟨ha.size,rfl,ha.ent⟩ (hok v hmem)
   have hA:=G.asIn (hassign (z+1) j v L' W hi hj) (Mem.le.refl _) hfr (St.start hs.drop.drop.sep)
   refine wpIn_mono hA (fun e a1 W2 q=>?_)
   obtain ⟨rfl,frA,LA,hAA,hfr1,hs1⟩:=q
   have hs2a:=St.call (Lp:=L') (Lr:=[.obj (z+1) (.loop (rec .ready none)),.obj z (.deferred (some []))]) (St.perm hs (List.perm_append_comm (l₁:=[_,_]))) hs1
   have hs2:St W C (.obj (z+1) (.loop (rec .ready none))::.obj z (.deferred (some []))::L') C (.obj (z+1) (.loop (rec .ready none))::.obj z (.deferred (some []))::LA) W2:=St.perm hs2a (List.perm_append_comm (l₂:=[_,_]))
   have hl2:W2.heap[z+1]?=some (.loop (rec .ready none)):=hs2.sep.e _ (List.mem_cons_self ..)
   refine ⟨_,run_beginRound hl2 (by rw [hrec]), ?_⟩
   have hs3:St W C (.obj (z+1) (.loop (rec .ready none))::.obj z (.deferred (some []))::L') C (.obj (z+1) (.loop (rec .busy none))::.obj z (.deferred (some []))::LA) (W2.putObj (z+1) (.loop { rec .ready none with state:=.busy })):=by
    have:=St.putObj (o':=.loop { rec .ready none with state:=.busy }) hs2
    rw [hrec] at this ⊢
    exact this
   have hB:=G.asIn (hbody (z+1) j v L' frA LA (W2.putObj (z+1) (.loop { rec .ready none with state:=.busy })) hi hj hAA) (Mem.le.refl _) hfr1 (St.start hs3.drop.drop.sep)
   refine wpIn_mono hB (fun e a2 W4 q=>?_)
   have back:∀ L1,St (W2.putObj (z+1) (.loop { rec .ready none with state:=.busy })) C LA C L1 W4->St W C (.obj (z+1) (.loop (rec .ready none))::.obj z (.deferred (some []))::L') C (.obj (z+1) (.loop (rec .busy none))::.obj z (.deferred (some []))::L1) W4:=fun L1 hs4=>by
    have hs5:=St.call (Lp:=LA) (Lr:=[.obj (z+1) (.loop (rec .busy none)),.obj z (.deferred (some []))]) (St.perm hs3 (List.perm_append_comm (l₁:=[_,_]))) hs4
    exact St.perm hs5 (List.perm_append_comm (l₂:=[_,_]))
   have leave:∀ (c:Code) L1,X c j L1->St (W2.putObj (z+1) (.loop { rec .ready none with state:=.busy })) C LA C L1 W4->∃ v W5,(Instr.endRound (z+1) (some c)).run F.cx.P W4=.ok v W5/\∃ b L2,Ending.returned v=.returned (.bool b) /\
     ((b=true/\∃ L',I (j+1) L'/\L2=.obj (z+1) (.loop (rec .ready none))::.obj z (.deferred (some []))::L')∨(b=false/\∃ c L',X c j L'/\L2=.obj (z+1) (.loop (rec .done (some c)))::.obj z (.deferred (some []))::L')) /\
     St W C (.obj (z+1) (.loop (rec .ready none))::.obj z (.deferred (some []))::L') C L2 W5:=fun c L1 hX hs4=>by
    have hs6:=back L1 hs4
    have hl4:W4.heap[z+1]?=some (.loop (rec .busy none)):=hs6.sep.e _ (List.mem_cons_self ..)
    refine ⟨_,_,run_endRound (some c) hl4,false,_,rfl,.inr ⟨rfl,c,L1,hX,rfl⟩, ?_⟩
    have:=St.putObj (o':=.loop { rec .busy none with state:=if (some c).isNone then .ready else .done,pending:=some c }) hs6
    rw [hrec] at this ⊢
    exact this
   rcases q with ⟨rfl,L1,hi1,hs4⟩ | ⟨c,L1,hc,hX,hs4⟩
   ·have hs6:=back L1 hs4
    have hl4:W4.heap[z+1]?=some (.loop (rec .busy none)):=hs6.sep.e _ (List.mem_cons_self ..)
    refine ⟨_,_,run_endRound none hl4,true,_,rfl,.inl ⟨rfl,L1,hi1,rfl⟩, ?_⟩
    have:=St.putObj (o':=.loop { rec .busy none with state:=if (none:Option Code).isNone then .ready else .done,pending:=none }) hs6
    rw [hrec] at this ⊢
    exact this
   ·cases e <;> simp only [xcode] at hc <;> cases hc
    ·exact leave _ L1 hX hs4
    ·exact leave _ L1 hX hs4
  ·rintro e W2 ⟨⟨v,rfl⟩,L2,hL2,hs⟩
   have hs':St F.b.w0 F.b.C0 F.b.L0 C L2 W2:=by
    have:=St.call (Lr:=[]) (by rw [List.append_nil];exact hS1) hs
    rwa [List.append_nil] at this
   have hfr:FrOk F.n [] ({ target:=.collected z,args:=#[] }::F.dd) fr { a with defers:=[{ target:=.collected z,args:=#[] }]++a.defers }:=⟨ha.size,by rw [ha.defers];rfl,ha.ent⟩
   rcases hL2 with ⟨L',hi,rfl⟩ | ⟨j,hj,c,L',hX,rfl⟩
   ·have hl:W2.heap[z+1]?=some (.loop (rec .ready none)):=hs'.sep.e _ (List.mem_cons_self ..)
    refine ⟨none,_,by have:=run_endLoop (P:=F.cx.P) hl (by rw [hrec];simp);rw [hrec] at this;exact this, ?_⟩
    have hs2:St F.b.w0 F.b.C0 F.b.L0 C (.obj z (.deferred (some []))::L') (W2.putObj (z+1) (.loop { rec .ready none with state:=.exhausted })):=(St.putObj hs').drop
    have:=G.bm 64 (hdone z L' hi) hle _ _ hfr hs2
    rw [Kq_dd] at this
    rw [hrec] at this
    exact this
   ·have hl:W2.heap[z+1]?=some (.loop (rec .done (some c))):=hs'.sep.e _ (List.mem_cons_self ..)
    refine ⟨some c,_,by have:=run_endLoop (P:=F.cx.P) hl (by rw [hrec];simp);rw [hrec] at this;exact this, ?_⟩
    have hs2:St F.b.w0 F.b.C0 F.b.L0 C (.obj z (.deferred (some []))::L') (W2.putObj (z+1) (.loop { rec .done (some c) with state:=.exhausted })):=(St.putObj hs').drop
    have:=hstop z j c L' hj hX hle _ _ hfr hs2
    rw [Kq_dd] at this
    simp only [Kq,hW] at this
    rw [hrec] at this
    exact (wpIn_wide (n:=3)).2 this
end
end Go.Jog
namespace Go.Proofs.YtjhmlnebikbdbaaGreatDoor
open Go Go.Jog Go.Jog.Dp
set_option maxRecDepth 100000

theorem steps_fn (C:Mem)(vL vR:Value)(q:Qn)(i j:Nat):Pur cx.P 39 [.agg ⟨qC vL vR q⟩,.int .i64 i,.int .i64 j] C fun r C' =>
  ∃ bi bj bq,r=.func (.func 78) #[] #[.pointer (some ⟨bi,0,none⟩),.pointer (some ⟨bj,0,none⟩),.pointer (some ⟨bq,0,none⟩)]/\C' bi=some (.cells ⟨[.int .i64 i]⟩ 3 (0,0))/\C' bj=some (.cells ⟨[.int .i64 j]⟩ 3 (0,0))/\C' bq=some (.cells ⟨qC vL vR q⟩ 34 (0,0)):=by
 refine Fn.it kr_ Tryz.func39 8 fun w0=>?_
 refine G.rg fun R hR=>?_
 refine D.aM (fun b3=>?_)
 refine D.aM (fun b4=>?_)
 refine D.aM (fun b5=>?_)
 refine D.q3 1 3 4 5 hR ?_
 refine G.z1 2 6 ?_
 refine G.freeze 2 rfl (fun C3 hle3 hb3=>?_)
 refine G.freeze 1 rfl (fun C4 hle4 hb4=>?_)
 refine G.freeze 0 rfl (fun C5 hle5 hb5=>?_)
 refine G.rf ?_
 exact ⟨rfl,_,_,_,rfl,Mem.get hb4 mup,hb5,Mem.get hb3 mup⟩
def de (q:Qn)(i j:Nat):List (List Value):=(q.al.kinds i j).map fun k=>[stepV k i j,strV (qtx (q.cost k i j))]
def cntK (q:Qn)(i j k:Nat):Nat:=(([1,2,3,4,5].take k).filter fun x=>q.al.ok x i j).length
theorem cnt_end (q:Qn)(i j:Nat):cntK q i j 5=(de q i j).length:=by simp [cntK,de,Al.kinds]
theorem cnt_succ {q:Qn}{i j k:Nat}(hk:k<5):cntK q i j (k+1)=cntK q i j k+(if q.al.ok (k+1) i j=true then 1 else 0):=by
 unfold cntK
 have:([1,2,3,4,5]:List Nat).take (k+1)=[1,2,3,4,5].take k++[k+1]:=by
  rcases (by omega:k=0∨k=1∨k=2∨k=3∨k=4) with rfl | rfl | rfl | rfl | rfl <;> rfl
 rw [this,List.filter_append,List.length_append]
 congr 1
 split
 ·next h=>simp [h]
 ·next h=>simp [h]
theorem stepsV_at {q:Qn}{i j k:Nat}(hk:k<5)(h:q.al.ok (k+1) i j=true):(de q i j)[cntK q i j k]?=some [stepV (k+1) i j,strV (qtx (q.cost (k+1) i j))]:=by
 unfold de Al.kinds cntK
 rw [List.getElem?_map]
 have:([1,2,3,4,5]:List Nat)=[1,2,3,4,5].take k++(k+1)::[1,2,3,4,5].drop (k+1):=by
  rcases (by omega:k=0∨k=1∨k=2∨k=3∨k=4) with rfl | rfl | rfl | rfl | rfl <;> rfl
 conv=>lhs;arg 2;arg 1;rw [this]
 rw [List.filter_append,List.getElem?_append_right (Nat.le_refl _),Nat.sub_self,List.filter_cons,if_pos h]
 rfl
theorem errS_ne {q:Qn}{k i j:Nat}(h:errS q k i j≠0):errS q k i j=12∨errS q k i j=3∨errS q k i j=11∨errS q k i j=7:=by
 unfold errS at *
 split
 ·exact .inl rfl
 ·rename_i h1
  rw [if_neg h1] at h
  split
  ·exact .inr (.inl rfl)
  ·rename_i h2
   rw [if_neg h2] at h
   split
   ·exact .inr (.inr (.inl rfl))
   ·rename_i h3
    rw [if_neg h3] at h
    split
    ·exact .inr (.inr (.inr rfl))
    ·rename_i h4
     rw [if_neg h4] at h
     exact absurd rfl h
theorem d9 (C:Mem)(hT:Tabs C)(vL vR:Value)(q:Qn)(i j bi bj bq:Nat)(hq:QIn C vL vR q)(ok:q.Ok)(hi:i<=q.l.length)(hj:j<=q.r.length)(hbi:C bi=some (.cells ⟨[.int .i64 i]⟩ 3 (0,0)))(hbj:C bj=some (.cells ⟨[.int .i64 j]⟩ 3 (0,0)))
  (hbq:C bq=some (.cells ⟨qC vL vR q⟩ 34 (0,0))):IterS cx.P 78 #[.pointer (some ⟨bi,0,none⟩),.pointer (some ⟨bj,0,none⟩),.pointer (some ⟨bq,0,none⟩)] C (de q i j):=by
 have hln:=ok.ln
 have hrn:=ok.rn
 refine IterS.intro (lb:=[.pointer (some ⟨bi,0,none⟩),.pointer (some ⟨bj,0,none⟩),.pointer (some ⟨bq,0,none⟩)]) kr_ Tryz.func78 rfl 28 rfl rfl fun l I X L hY h0 w0=>?_
 refine G.z5 1 0 1 2 3 5 ?_
 refine G.loop (fun fr C' L' μ=>∃ (k:Nat),(k<=5/\I (cntK q i j k) L')/\fr=[(0,[],.func (.yield l) #[] #[]),(1,[],.pointer (some ⟨bi,0,none⟩)),(2,[],.pointer (some ⟨bj,0,none⟩)),(3,[],.pointer (some ⟨bq,0,none⟩)),(5,[],.int .i64 (k+1:Nat))]/\μ=5-k) (h_5 0 1 2 3 5) ⟨0,⟨by omega,h0⟩,rfl,rfl⟩ (fun fr C0 Lk μ hle0 hI=>?_)
 obtain ⟨k,⟨hk,hIk⟩,rfl,rfl⟩:=hI
 refine G.z6 2 0 1 2 3 5 8 ?_
 refine G.cd (fun h8=>?_) fun h8=>?_
 ·have hk5:k<5:=by have:=of_decide_eq_true h8;omega
  refine G.rp 1 fun R hR=>?_
  refine D.aa (bkT hbi 1) ?_
  refine D.aa (bkT hbj 1) ?_
  refine D.build (stepC (k+1) i j) rfl rfl rfl rfl rfl rfl rfl rfl ?_
  refine D.aj (fun b6=>?_)
  refine D.ac (j:=0) ?_
  refine D.e6 0 1 2 3 5 6 hR ?_;clear hR R
  refine G.freeze 0 rfl (fun C6 hle6 hb6=>?_)
  have hq6:QIn C6 vL vR q:=hq.mono mup
  have hc:=fun D (h:C6.le D)=>checkStep_fn D vL vR q (k+1) i j (hq6.mono h) hln hrn om_ om_ om_
  have hbq6:=Mem.get (D:=C6) hbq mup
  by_cases hok:q.al.ok (k+1) i j=true
  ·have he:errS q (k+1) i j=0:=errS_zero.2 ⟨hi,hj,hok⟩
   rw [he] at hc
   have hco:=fun D (h:C6.le D)=>cost_fn D (hT.mono mup) vL vR q (k+1) i j (hq6.mono h) ok ⟨hi,hj,hok⟩
   refine G.drawY 10 [0,1,2,3,4,5,6,7,8,9] [11,12] [(2,1),(9,1),(10,3)] (YW.plain _) rfl rfl kr_ kr_ rfl rfl (fun R hB hy=>?_)
   refine D.aa (PtrTo.blockT hbq6 _ 6) ?_
   refine D.aa (PtrTo.blockT hb6 _ 3) ?_
   refine D.aP (fun _=>hc _ mup) ?_
   refine D.ps 3 ?_
   refine D.aD rfl rfl rfl rfl rfl rfl (fun _=>PtrTo.blockT hb6 _ 3) rfl rfl rfl ?_
   refine D.aD rfl rfl rfl rfl rfl rfl (fun _=>PtrTo.blockT hbq6 _ 6) rfl rfl rfl ?_
   refine D.aD rfl rfl rfl rfl rfl rfl (fun _=>PtrTo.blockT hb6 _ 3) rfl rfl rfl ?_
   refine D.aP (fun _=>hco _ mup) ?_
   refine hy (hY _ _ _ (stepsV_at hk5 hok) hIk) mup rfl rfl rfl rfl (Lo:=[]) (by rw [List.append_nil];exact List.Perm.refl _) fl_ (fun b L2 hb R hB hR=>?_)
   rw [List.append_nil]
   rcases hb with ⟨rfl,hI1⟩ | ⟨rfl,hX1⟩
   ·refine D.ae ?_
    refine D.aC rfl rfl rfl rfl rfl rfl rfl rfl ?_
    refine D.e6 0 1 2 3 5 27 hR ?_;clear hR hB R
    refine G.cond rfl (fun h27=>absurd h27 (by decide)) (fun _=>?_)
    refine G.rp 1 fun R hR=>?_
    refine D.ax _ ?_
    refine D.q5 1 0 1 2 3 5 hR ?_;clear hR R
    refine G.aB (m':=5-(k+1)) om_ mup (h_5 0 1 2 3 5) ⟨k+1,⟨by omega,by rw [cnt_succ hk5,if_pos hok];exact hI1⟩,rfl,rfl⟩
   ·refine D.ae ?_
    refine D.aC rfl rfl rfl rfl rfl rfl rfl rfl ?_
    refine D.e6 0 1 2 3 5 27 hR ?_;clear hR hB R
    refine G.cond rfl (fun _=>?_) (fun h27=>absurd h27 (by decide))
    refine G.aA (G.fin0 rfl ?_)
    exact .inr ⟨_,(List.getElem?_eq_some_iff.1 (stepsV_at hk5 hok)).1,hX1⟩
  ·have he:errS q (k+1) i j≠0:=fun e=>hok (errS_zero.1 e).2.2
   have hIk':I (cntK q i j (k+1)) Lk:=by rw [cnt_succ hk5,if_neg hok];exact hIk
   rcases errS_ne he with e | e | e | e <;> rw [e] at hc
   all_goals
    refine G.aI [0,1,2,3,4,5,6,7,8,9,10,11,12] [(2,1)] rfl kr_ (fun R hB hR=>?_)
    refine D.aa (PtrTo.blockT hbq6 _ 6) ?_
    refine D.aa (PtrTo.blockT hb6 _ 3) ?_
    refine D.aP (fun _=>hc _ mup) ?_
    refine D.ps 2 ?_
    iterate 7 refine D.skip rfl rfl rfl ?_
    refine D.pickF rfl rfl rfl rfl rfl rfl rfl rfl ?_
    refine D.e6 0 1 2 3 5 27 hR ?_;clear hR hB R
    refine G.cond rfl (fun h27=>absurd h27 (by decide)) (fun _=>?_)
    refine G.rp 1 fun R hR=>?_
    refine D.ax _ ?_
    refine D.q5 1 0 1 2 3 5 hR ?_;clear hR R
    refine G.aB (m':=5-(k+1)) om_ mup (h_5 0 1 2 3 5) ⟨k+1,⟨by omega,hIk'⟩,rfl,rfl⟩
 ·obtain rfl:k=5:=by have:=of_decide_eq_false h8;omega
  refine G.end0 rfl ?_
  rw [cnt_end] at hIk
  exact .inl hIk
end Go.Proofs.YtjhmlnebikbdbaaGreatDoor
namespace Go.Jog
open Go

section
variable {cx:Cx} {fn:Func} {n:Nat} {fr:Fr} {C C':Mem} {L L1 LA:List Ent} {W1:World} {post:Value->Mem->List Ent->Prop} {W:Cw cx.P}
theorem G.eT {A:Fr->List Ent->Prop}(fr':Fr)(hs:Has fr fr')(hA:A fr' LA) :
  G ⟨cx,fn,n,⟨W1,C,L⟩,post,W,[],fun e a w'=>e=.normal/\∃ frA LA,A frA LA/\FrOk n [] [] frA a/\St W1 C L C LA w'⟩ [] .normal fr C' LA:=fun hle _ _ ha hw =>
 ⟨rfl,fr',LA,hA,ha.weaken hs.sub,St.less hw (Mem.le.refl _) hle⟩
theorem G.eI {I:List Ent->Prop}{X:Code->List Ent->Prop}(hI:I L1) :
  G ⟨cx,fn,n,⟨W1,C,L⟩,post,W,[],fun e _ w'=>(e=.normal/\∃ L1,I L1/\St W1 C L C L1 w')∨(∃ c L1,xcode e=some c/\X c L1/\St W1 C L C L1 w')⟩ [] .normal fr C' L1:=fun hle _ _ _ hw =>
 .inl ⟨rfl,L1,hI,St.less hw (Mem.le.refl _) hle⟩
theorem G.eQ {I:List Ent->Prop}{X:Code->List Ent->Prop}{e:Exit}{c:Code}(hc:xcode e=some c)(hX:X c L1) :
  G ⟨cx,fn,n,⟨W1,C,L⟩,post,W,[],fun e _ w'=>(e=.normal/\∃ L1,I L1/\St W1 C L C L1 w')∨(∃ c L1,xcode e=some c/\X c L1/\St W1 C L C L1 w')⟩ [] e fr C' L1:=fun hle _ _ _ hw =>
 .inr ⟨c,L1,hc,hX,St.less hw (Mem.le.refl _) hle⟩

theorem G.finMK {Ds:List Nat}{b:Bs}{e:Exit}(he:e=.ret∨e=.normal){v:Value}
  (hr:∀ a w,FrOk n [] (Ds.map d4) fr a->St b.w0 b.C0 b.L0 C L w->(results fn a.tmps).run cx.P w=.ok v w) (h:post v C L) (hne:Ds≠[]) :
  G ⟨cx,fn,n,b,post,Cw.plain cx.P,Ds.map d4,bodyPostM Fence.wide 3 cx.P fn (finOf b post)⟩ [] e fr C (Ds.map ce++L):=fun hle a w ha hw=>by
 have key0:LeavesInM Fence.wide 3 cx.P fn a.tmps (finOf b post) a.defers .returning w:=by
  have ha':=ha
  rw [ha.defers]
  have key:∀ (Es:List Nat)(w:World),Es≠[]->St b.w0 b.C0 b.L0 C (Es.map ce++L) w->LeavesInM Fence.wide 3 cx.P fn a.tmps (finOf b post) (Es.map d4) .returning w:=by
   intro Es
   induction Es with
   | nil=>exact fun _ h0=>absurd rfl h0
   | cons D Es ih =>
    intro w _ hw
    have hD:w.heap[D]?=some (.deferred (some [])):=hw.sep.e _ (List.mem_cons_self ..)
    have hs:=(St.putObj (o':=.deferred none) hw).drop
    cases Es with
    | nil=>exact ⟨by simp,.inl ⟨D,_,rfl,run_takeDeferred hD,v,hr a _ ha' hs,v,C,L,rfl,hs,h⟩⟩
    | cons E Es=>exact ⟨by simp,.inl ⟨D,_,rfl,run_takeDeferred hD,ih _ (by simp) hs⟩⟩
  exact key Ds w hne hw
 rcases he with rfl | rfl <;> exact key0
theorem res_tmp1 {r:Nat}{v:Value}(hres:fn.results=#[.tmp r])(hv:ev fr [] (.tmp r)=some v){dd:List Deferred}{w0:World}{C0:Mem}{L0:List Ent}:∀ a w,FrOk n [] dd fr a->St w0 C0 L0 C L w->(results fn a.tmps).run cx.P w=.ok v w:=fun a w ha _=>by
 have hv':=aT ha (fun p hp=>by cases hp) hv
 simp only [Act.eval] at hv'
 rw [results_tmp hres,hv']
theorem res_none (hres:fn.results=#[]){dd:List Deferred}{w0:World}{C0:Mem}{L0:List Ent}:∀ a w,FrOk n [] dd fr a->St w0 C0 L0 C L w->(results fn a.tmps).run cx.P w=.ok (.tuple #[]) w:=fun a w _ _=>by
 exact results_none hres _ _ _
end

theorem IterS.introM {cx:Cx}{f:FuncId}{fn:Func}{c:Code}{lb:List Value}{C:Mem}{vss:List (List Value)}(hen:Enters cx.P f=true)(hf:cx.P.funcs[f]?=some fn)(hb:fn.body=some c)
  (n:Nat) (hnt:fn.ntmps=n) (hn:Nat.ble (lb.length+1) n=true)
  (h:∀ (l:Nat)(I X:Nat->List Ent->Prop)(L:List Ent),(∀ k v L',vss[k]?=some v->I k L'->YC cx.P l v C L' (fun b L1=>(b=true/\I (k+1) L1)∨(b=false/\X k L1)))->I 0 L ->
   ∀ w0,G ⟨cx,fn,n,⟨w0,C,L⟩,fun _ _ L'=>I vss.length L'∨∃ k,k<vss.length/\X k L',Cw.plain cx.P,[],bodyPostM Fence.wide 3 cx.P fn (finOf ⟨w0,C,L⟩ fun _ _ L'=>I vss.length L'∨∃ k,k<vss.length/\X k L')⟩
    (norm 64 [.code c]) .normal (args0 (.func (.yield l) #[] #[]::lb) 0) C L):IterS cx.P f lb.toArray C vss:=fun l I X L hy h0 W hW=>by
 have hF:=Fn.introM (args:=.func (.yield l) #[] #[]::lb) hen hf hb n hnt hn (h l I X L hy h0)
 have e:(#[Value.func (.yield l) #[] #[]]++lb.toArray)=(Value.func (.yield l) #[] #[]::lb).toArray:=by simp
 rw [e]
 refine callsIn_wide.2 ((hF.2 W hW).mono fun e w' ⟨v,C',L',he,hs,hq⟩=>⟨⟨v,he⟩,L',hq,St.less hs (Mem.le.refl _) hs.c0⟩)
end Go.Jog
namespace Go.Proofs.YtjhmlnebikbdbaaGreatDoor
open Go Go.Jog Go.Jog.Dp
set_option maxRecDepth 100000

theorem filter_at {α:Type}{l:List α}{p:α->Bool}{c:Nat}{x:α}(h:l[c]?=some x)(hx:p x=true):(l.filter p)[((l.take c).filter p).length]?=some x:=by
 obtain ⟨h1,h2⟩:=List.getElem?_eq_some_iff.1 h
 have e:l=l.take c++x::l.drop (c+1):=by
  conv=>lhs;rw [<- List.take_append_drop c l]
  rw [List.drop_eq_getElem_cons h1,h2]
 conv=>lhs;arg 1;rw [e]
 rw [List.filter_append,List.getElem?_append_right (Nat.le_refl _),Nat.sub_self,List.filter_cons,if_pos hx];rfl
theorem filter_succ {α:Type}{l:List α}{p:α->Bool}{c:Nat}{x:α}(h:l[c]?=some x):((l.take (c+1)).filter p).length=((l.take c).filter p).length+(if p x=true then 1 else 0):=by
 rw [List.take_add_one,h,List.filter_append,List.length_append]
 congr 1
 by_cases hx:p x=true <;> simp [hx]
def d5 (T:Nat->Nat->Rat)(m i:Nat):List (List Value):=(List.range (m+1)).map fun j=>[strV (qtx (T i j))]
structure TabR (C:Mem)(v:Value)(n m:Nat)(T:Nat->Nat->Rat):Prop where
 ex:∃ ws:List Value,Sl C 1 v (ws.map fun w=>[w])/\ws.length=n+1/\∀ i w,ws[i]?=some w->Sl C 1 w (d5 T m i)
theorem TabR.mono {C D:Mem}{v:Value}{n m:Nat}{T:Nat->Nat->Rat}(h:TabR C v n m T)(hl:C.le D):TabR D v n m T:=by
 obtain ⟨ws,h1,h2,h3⟩:=h.ex
 exact ⟨ws,h1.mono hl,h2,fun i w e=>(h3 i w e).mono hl⟩
theorem bS {T:Nat->Nat->Rat}{m i j:Nat}(h:j<=m):(d5 T m i)[((j:Nat):Int).toNat]?=some [strV (qtx (T i j))]:=by
 rw [Int.toNat_natCast];unfold d5
 rw [List.getElem?_map,List.getElem?_range om_];rfl
theorem ws_at {ws:List Value}{n i:Nat}(h:ws.length=n+1)(hi:i<=n):∃ w,ws[i]?=some w/\(ws.map fun w=>[w])[((i:Nat):Int).toNat]?=some [w]:=by
 have hl:i<ws.length:=by omega
 exact ⟨ws[i],List.getElem?_eq_getElem hl,by rw [Int.toNat_natCast,List.getElem?_map,List.getElem?_eq_getElem hl];rfl⟩
theorem good_fn (C:Mem)(vL vR:Value)(AT:Option Addr)(nT cT:Nat)(q:Qn)(i j:Nat):Pur cx.P 25 [.agg ⟨qC vL vR q⟩,.slice AT nT cT,.int .i64 i,.int .i64 j] C fun r C' =>
  ∃ bq bi bj br,r=.func (.func 63) #[] #[.pointer (some ⟨bq,0,none⟩),.pointer (some ⟨bi,0,none⟩),.pointer (some ⟨bj,0,none⟩),.pointer (some ⟨br,0,none⟩)]/\C' bq=some (.cells ⟨qC vL vR q⟩ 34 (0,0))/\C' bi=some (.cells ⟨[.int .i64 i]⟩ 3 (0,0))/\C' bj=some (.cells ⟨[.int .i64 j]⟩ 3 (0,0))/\C' br=some (.cells ⟨[.slice AT nT cT]⟩ 81 (0,0)):=by
 refine Fn.it kr_ Tryz.func25 10 fun w0=>?_
 refine G.rg fun R hR=>?_
 refine D.aM (fun b4=>?_)
 refine D.aM (fun b5=>?_)
 refine D.aM (fun b6=>?_)
 refine D.aM (fun b7=>?_)
 refine D.q4 1 4 5 6 7 hR ?_
 refine G.z1 2 8 ?_
 refine G.freeze 3 rfl (fun C3 hle3 hb3=>?_)
 refine G.freeze 2 rfl (fun C4 hle4 hb4=>?_)
 refine G.freeze 1 rfl (fun C5 hle5 hb5=>?_)
 refine G.freeze 0 rfl (fun C6 hle6 hb6=>?_)
 refine G.rf ?_
 exact ⟨rfl,_,_,_,_,rfl,Mem.get hb3 mup,Mem.get hb5 mup,hb6,Mem.get hb4 mup⟩
def goodV (q:Qn)(i j:Nat):List (List Value):=(q.al.good i j).map fun k=>[stepV k i j]
def rvT (q:Qn):Nat->Nat->Rat:=fun i j=>q.al.rv (i,j)
def isGood (q:Qn)(i j k:Nat):Bool:=decide (q.al.co k i j+q.al.rv (nx k i j)=q.al.rv (i,j))
def cntG (q:Qn)(i j c:Nat):Nat:=(((q.al.kinds i j).take c).filter (isGood q i j)).length
theorem bp {q:Qn}{i j c:Nat}{v:List Value}(h:(de q i j)[c]?=some v):∃ k,(q.al.kinds i j)[c]?=some k/\v=[stepV k i j,strV (qtx (q.cost k i j))]:=by
 unfold de at h
 rw [List.getElem?_map] at h
 cases hk:(q.al.kinds i j)[c]? with
 | none=>rw [hk] at h;cases h
 | some k=>rw [hk] at h;cases h;exact ⟨k,rfl,rfl⟩
theorem goodV_at {q:Qn}{i j c k:Nat}(h:(q.al.kinds i j)[c]?=some k)(hg:isGood q i j k=true):(goodV q i j)[cntG q i j c]?=some [stepV k i j]:=by
 unfold goodV cntG
 rw [List.getElem?_map,show q.al.good i j=(q.al.kinds i j).filter (isGood q i j) from rfl,filter_at h hg];rfl
theorem cntG_end (q:Qn)(i j:Nat):cntG q i j (de q i j).length=(goodV q i j).length:=by
 unfold cntG de goodV
 rw [List.length_map,List.take_length,List.length_map];rfl
theorem good1_iter (C:Mem)(hT:Tabs C)(vL vR vT:Value)(q:Qn)(i j bq bi bj br:Nat)(hq:QIn C vL vR q)(ok:q.Ok)(hi:i<=q.l.length)(hj:j<=q.r.length)(hR:TabR C vT q.l.length q.r.length (rvT q))
  (hbq:C bq=some (.cells ⟨qC vL vR q⟩ 34 (0,0))) (hbi:C bi=some (.cells ⟨[.int .i64 i]⟩ 3 (0,0))) (hbj:C bj=some (.cells ⟨[.int .i64 j]⟩ 3 (0,0))) (hbr:C br=some (.cells ⟨[vT]⟩ 81 (0,0))) :
  IterS cx.P 63 #[.pointer (some ⟨bq,0,none⟩),.pointer (some ⟨bi,0,none⟩),.pointer (some ⟨bj,0,none⟩),.pointer (some ⟨br,0,none⟩)] C (goodV q i j):=by
 have hln:=ok.ln
 have hrn:=ok.rn
 obtain ⟨ws,hws,hwl,hwr⟩:=id hR.ex
 refine IterS.introM (lb:=[.pointer (some ⟨bq,0,none⟩),.pointer (some ⟨bi,0,none⟩),.pointer (some ⟨bj,0,none⟩),.pointer (some ⟨br,0,none⟩)]) kr_ Tryz.func63 rfl 44 rfl rfl fun l I X L hY h0 w0=>?_
 refine G.rg fun R hR=>?_
 refine D.aM (fun b5=>?_)
 refine D.e5 1 2 3 4 5 hR ?_;clear hR R
 refine G.freeze 0 rfl (fun C5 hle5 hb5=>?_)
 refine G.rg fun R hR=>?_
 refine D.aa (bkT hbq 6) ?_
 refine D.aa (bkT hbi 1) ?_
 refine D.aa (bkT hbj 1) ?_
 refine D.aJ (steps_fn _ vL vR q i j) (fun v13 C13 hle13 hq13=>?_)
 obtain ⟨ci,cj,cq,rfl,hci,hcj,hcq⟩:=hq13
 refine D.e5 2 3 4 5 13 hR ?_;clear hR R
 have hit:=d9 C13 (hT.mono mup) vL vR q i j ci cj cq (hq.mono mup) ok hi hj hci hcj hcq
 refine G.cW (ps:=[14,15]) rfl rfl kr_ hit (fun v hv=>?_) (fun c L'=>I (cntG q i j c) L') (fun c n L'=>c=.ret/\∃ d,d<(goodV q i j).length/\X d L') h0 (fun v hv=>?_)
  (fun c L' frA LA=>∃ b6 k,(q.al.kinds i j)[c]?=some k/\frA=[(2,[],.pointer (some ⟨bi,0,none⟩)),(3,[],.pointer (some ⟨bj,0,none⟩)),(4,[],.pointer (some ⟨br,0,none⟩)),(5,[],.pointer (some ⟨b5,0,none⟩)),(6,[],.pointer (some ⟨b6,0,none⟩)),(7,[],strV (qtx (q.cost k i j)))]/\LA=.obj b6 (.cells ⟨stepC k i j⟩ 50 (0,0))::L')
  ?_ ?_ ?_ ?_
 ·obtain ⟨c,hc⟩:=List.getElem?_of_mem hv
  obtain ⟨k,_,rfl⟩:=bp hc
  rfl
 ·obtain ⟨c,hc⟩:=List.getElem?_of_mem hv
  obtain ⟨k,_,rfl⟩:=bp hc
  rfl
 ·intro l2 c v L' W1 hI hv
  obtain ⟨k,hk,rfl⟩:=bp hv
  refine G.rg fun R hR=>?_
  refine D.aj (fun b6=>?_)
  refine D.ac (j:=0) ?_
  refine D.e6 2 3 4 5 6 15 hR ?_;clear hR R
  refine G.z6 1 2 3 4 5 6 7 ?_
  exact G.eT [(2,[],_),(3,[],_),(4,[],_),(5,[],_),(6,[],_),(7,[],_)] ⟨rfl,rfl,rfl,rfl,rfl,rfl,trivial⟩ ⟨b6,k,hk,rfl,rfl⟩
 ·intro l2 c v L' frA LA W1 hI hv hA
  obtain ⟨b6,k,hk,rfl,rfl⟩:=hA
  have hok:=Al.mem_kinds.1 (List.mem_of_getElem? hk)
  have hcs:=ok.small.q hok
  obtain ⟨⟨hna,hnb⟩,hnc⟩:=Al.ok_nx (A:=q.al) hi hj hok
  have hna':(nx k i j).1<=q.l.length:=hna
  have hnb':(nx k i j).2<=q.r.length:=hnb
  have hrv:=Al.qb_rv ok.small hna hnb
  obtain ⟨wa,hwa,hwa2⟩:=ws_at hwl hna'
  obtain ⟨wi,hwi,hwi2⟩:=ws_at hwl hi
  have hra:=hwr _ _ hwa
  have hri:=hwr _ _ hwi
  have qc:QB 1 (q.cost k i j):=hcs.1.qb2 (by have:=hcs.2;grind) (by have:=hcs.2;grind)
  have qr:QB 1 (rvT q (nx k i j).1 (nx k i j).2):=hrv.1.qb2 (by have:=hrv.2;grind) (by have:=hrv.2;grind)
  have h13:Unit->C.le C13:=fun _=>by (repeat (first | exact Mem.le.refl _ | assumption | (apply Mem.le.trans;rotate_left;assumption)))
  refine G.freeze 0 rfl (fun C6 hle6 hb6=>?_)
  refine G.rg fun R hR=>?_
  refine D.aa (bkT hb6 3) ?_
  refine D.au (next_fn _ k i j om_ om_) rfl rfl rfl rfl rfl rfl rfl fl_ ?_
  refine D.q8 5 2 3 4 5 6 7 8 9 hR ?_;clear hR R
  by_cases hg:isGood q i j k=true
  ·have hge:q.cost k i j+rvT q (nx k i j).1 (nx k i j).2=rvT q i j:=of_decide_eq_true hg
   refine G.drawY 20 [0,1,2,3,4,5,6,7,8,9,10,11,12,13,14,15,16,17,18,19] [21,22] [(8,1),(20,3)] (YW.round _ _ _) rfl rfl kr_ kr_ rfl rfl (fun R hB hy=>?_)
   refine D.ae ?_
   refine D.aa (bkT hbr 1) ?_
   refine D.ae ?_
   refine D.ai (hws.mono mup) rfl rfl rfl rfl rfl rfl rfl rfl rfl rfl om_ hwa2 fl_ (fun p24 hp24=>?_)
   refine D.aa hp24 ?_
   refine D.ae ?_
   refine D.ai (hra.mono mup) rfl rfl rfl rfl rfl rfl rfl rfl rfl rfl om_ (bS hnb') fl_ (fun p27 hp27=>?_)
   refine D.aa hp27 ?_
   refine D.aU (fun _=>ee _ (hT.mono mup) (q.cost k i j) (rvT q (nx k i j).1 (nx k i j).2) 1 (by decide) (by decide) qc qr) rfl rfl rfl rfl rfl rfl rfl rfl rfl ?_
   refine D.aa (bkT hbr 1) ?_
   refine D.aa (bkT hbi 1) ?_
   refine D.ai (hws.mono mup) rfl rfl rfl rfl rfl rfl rfl rfl rfl rfl om_ hwi2 fl_ (fun p32 hp32=>?_)
   refine D.aa hp32 ?_
   refine D.aa (bkT hbj 1) ?_
   refine D.ai (hri.mono mup) rfl rfl rfl rfl rfl rfl rfl rfl rfl rfl om_ (bS hj) fl_ (fun p35 hp35=>?_)
   refine D.aa hp35 ?_
   refine D.pure (v:=.bool true) rfl rfl rfl (by show some (Value.bool (((qtx (q.cost k i j+rvT q (nx k i j).1 (nx k i j).2)).toArray).toList == ((qtx (rvT q i j)).toArray).toList))=some (Value.bool true);rw [hge];simp) rfl rfl ?_
   refine D.ae ?_
   refine D.aD rfl rfl rfl rfl rfl rfl (fun _=>PtrTo.blockT (Mem.get hb5 mup) _ 1) rfl rfl rfl ?_
   refine D.aD rfl rfl rfl rfl rfl rfl (fun _=>PtrTo.blockT (Mem.get hb6 mup) _ 3) rfl rfl rfl ?_
   refine hy (hY _ _ _ (goodV_at hk hg) hI) ((h13 ()).trans hle6) rfl rfl rfl rfl (Lo:=[]) (by rw [List.append_nil];exact List.Perm.refl _) fl_ (fun b L2 hb R hB hR=>?_)
   rw [List.append_nil]
   rcases hb with ⟨rfl,hI1⟩ | ⟨rfl,hX1⟩
   ·refine D.ae ?_
    refine D.aC rfl rfl rfl rfl rfl rfl rfl rfl ?_
    refine D.e1 43 hR ?_;clear hR hB R
    refine G.cond rfl (fun h=>absurd h (by decide)) (fun _=>?_)
    refine G.eI ?_
    show I (cntG q i j (c+1)) L2
    unfold cntG
    rw [filter_succ hk,if_pos hg];exact hI1
   ·refine D.ae ?_
    refine D.aC rfl rfl rfl rfl rfl rfl rfl rfl ?_
    refine D.e1 43 hR ?_;clear hR hB R
    refine G.cond rfl (fun _=>?_) (fun h=>absurd h (by decide))
    refine G.aA (G.eQ (X:=fun c' L'=>c'=.ret/\∃ d,d<(goodV q i j).length/\X d L') (c:=.ret) rfl ⟨rfl,_,(List.getElem?_eq_some_iff.1 (goodV_at hk hg)).1,hX1⟩)
  ·have hge:q.cost k i j+rvT q (nx k i j).1 (nx k i j).2≠rvT q i j:=fun e=>hg (decide_eq_true e)
   refine G.aI [0,1,2,3,4,5,6,7,8,9,10,11,12,13,14,15,16,17,18,19,20,21,22] [(8,1)] rfl kr_ (fun R hB hR=>?_)
   refine D.ae ?_
   refine D.aa (bkT hbr 1) ?_
   refine D.ae ?_
   refine D.ai (hws.mono mup) rfl rfl rfl rfl rfl rfl rfl rfl rfl rfl om_ hwa2 fl_ (fun p24 hp24=>?_)
   refine D.aa hp24 ?_
   refine D.ae ?_
   refine D.ai (hra.mono mup) rfl rfl rfl rfl rfl rfl rfl rfl rfl rfl om_ (bS hnb') fl_ (fun p27 hp27=>?_)
   refine D.aa hp27 ?_
   refine D.aU (fun _=>ee _ (hT.mono mup) (q.cost k i j) (rvT q (nx k i j).1 (nx k i j).2) 1 (by decide) (by decide) qc qr) rfl rfl rfl rfl rfl rfl rfl rfl rfl ?_
   refine D.aa (bkT hbr 1) ?_
   refine D.aa (bkT hbi 1) ?_
   refine D.ai (hws.mono mup) rfl rfl rfl rfl rfl rfl rfl rfl rfl rfl om_ hwi2 fl_ (fun p32 hp32=>?_)
   refine D.aa hp32 ?_
   refine D.aa (bkT hbj 1) ?_
   refine D.ai (hri.mono mup) rfl rfl rfl rfl rfl rfl rfl rfl rfl rfl om_ (bS hj) fl_ (fun p35 hp35=>?_)
   refine D.aa hp35 ?_
   refine D.pure (v:=.bool false) rfl rfl rfl (by show some (Value.bool (((qtx (q.cost k i j+rvT q (nx k i j).1 (nx k i j).2)).toArray).toList == ((qtx (rvT q i j)).toArray).toList))=some (Value.bool false);congr 2;simp only [beq_eq_false_iff_ne];exact fun e=>hge (qtx_eq e)) rfl rfl ?_
   refine D.ae ?_
   iterate 4 refine D.skip rfl rfl rfl ?_
   refine D.pickF rfl rfl rfl rfl rfl rfl rfl rfl ?_
   refine D.e1 43 hR ?_;clear hR hB R
   refine G.cond rfl (fun h=>absurd h (by decide)) (fun _=>?_)
   refine G.eI ?_
   show I (cntG q i j (c+1)) L'
   unfold cntG
   rw [filter_succ hk,if_neg hg];exact hI
 ·intro D L' hI
  exact G.finMK (Ds:=[D]) (.inr rfl) (v:=.tuple #[]) (res_none rfl) (.inl (by rw [<- cntG_end];exact hI)) (by simp)
 ·intro D c cd L' hc hX
  obtain ⟨rfl,d,hd,hXd⟩:=hX
  exact G.aA (G.finMK (Ds:=[D]) (.inl rfl) (v:=.tuple #[]) (res_none rfl) (.inr ⟨d,hd,hXd⟩) (by simp))
end Go.Proofs.YtjhmlnebikbdbaaGreatDoor
namespace Go.Jog
open Go

section
variable {P:Program} {f:FuncId} {args:List Value} {C:Mem} {L:List Ent}
theorem Fn.lendArr {g0 cap e s m:Nat}{rows:List (List Value)}{post:Value->List Ent->Prop}(hen:Enters P f=true)(hr:∀ r∈rows,r.length=s)(hm:rows.length=m)
  (h:∀ C',C.le C'->Sl C' s (.slice (some ⟨g0,0,none⟩) m cap) rows->Fn P f args C' L fun u _ L'=>post u L') :
  Fn P f args C (.arr (.slice (some ⟨g0,0,none⟩) m cap) e s m rows.flatten::L) fun u _ L''=>∃ L',L''=.arr (.slice (some ⟨g0,0,none⟩) m cap) e s m rows.flatten::L'/\post u L':=by
 subst hm
 refine ⟨hen,fun w hw=>?_⟩
 obtain ⟨cs,h1,h2,h3,h4,hst⟩:=(St.start hw).arrObj
 have hb:C g0=none:=hst.sep.n g0 ⟨_,List.mem_cons_self ..,rfl⟩
 have ha:=hst.aside
 have hsl:Sl (C.set g0 (.cells ⟨cs⟩ e (0,0))) s (.slice (some ⟨g0,0,none⟩) rows.length cap) rows :=
  Sl.ofBlock (c:=cap) (Mem.set_self C g0 (.cells ⟨cs⟩ e (0,0))) hr (fun j v hj=>by
   rw [<- h2,List.getElem?_take] at hj
   split at hj
   ·simpa using hj
   ·cases hj) h3 h4
 refine ((h _ (Mem.le_set hb) hsl).2 w ha.sep).mono fun ex w' ⟨v,C',L',k1,k2,k3⟩=>?_
 exact ⟨v,_,_,k1,(St.back hst k2).objArr h2 h1 h3 h4,L',rfl,k3⟩
theorem Fn.lendRow {v:Value}{e s m:Nat}{rows:List (List Value)}{post:Value->List Ent->Prop}(hen:Enters P f=true)(hr:∀ r∈rows,r.length=s)(hm:rows.length=m)
  (h:∀ C',C.le C'->Sl C' s v rows->Fn P f args C' L fun u _ L'=>post u L') :
  Fn P f args C (.arr v e s m rows.flatten::L) fun u _ L''=>∃ L',L''=.arr v e s m rows.flatten::L'/\post u L':=by
 refine ⟨hen,fun w hw=>?_⟩
 have hown:w.ownsRow 0 e s v m rows.flatten:=hw.e _ (List.mem_cons_self ..)
 rcases hown.2 with ⟨h1,h2⟩ | ⟨g,cap,cur,h1,_,_,h3,h4,_⟩
 ·have h0:rows=[]:=List.eq_nil_of_length_eq_zero om_
  have hc:=h C (Mem.le.refl C) (by rw [h1,h0];exact Sl.nil C s)
  have hs:=St.perm (St.start hw) (List.perm_append_comm (l₁:=[Ent.arr v e s m rows.flatten]) (l₂:=L))
  refine (hc.callAt hs).mono fun ex w' ⟨u,C',L',k1,_,k2,k3⟩=>?_
  exact ⟨u,C',_,k1,St.perm k2 (List.perm_append_comm (l₁:=L') (l₂:=[Ent.arr v e s m rows.flatten])),L',rfl,k3⟩
 ·subst h1
  exact (Fn.lendArr (e:=e) hen hr hm h).2 w hw
end
inductive Lent where
 | obj (b:Nat) (cs:List Value) (t:TypeId)
 | arr (v:Value) (m s:Nat) (e:TypeId) (rows:List (List Value))
def Lent.ent:Lent->Ent
 | .obj b cs t=>.obj b (.cells ⟨cs⟩ t (0,0))
 | .arr v m s e rows=>.arr v e s m rows.flatten
def Lent.wf:Lent->Prop
 | .obj ..=>True
 | .arr _ m s _ rows=>rows.length=m/\∀ r∈rows,r.length=s
def Lent.seen (C:Mem):Lent->Prop
 | .obj b cs t=>C b=some (.cells ⟨cs⟩ t (0,0))
 | .arr v _ s _ rows=>Sl C s v rows
end Go.Jog
namespace Go.Jog
open Go

theorem Fn.form {P:Program}{f:FuncId}{args:List Value}{C:Mem}{L:List Ent}{post:Value->Mem->List Ent->Prop}{v:Value}{e s m:Nat}{xs:List Value}(hen:Enters P f=true)(hm:0<m)
  (h:∀ g c,v=.slice (some ⟨g,0,none⟩) m c->Fn P f args C (.arr v e s m xs::L) post):Fn P f args C (.arr v e s m xs::L) post:=by
 refine ⟨hen,fun w hw=>?_⟩
 have hown:w.ownsRow 0 e s v m xs:=hw.e _ (List.mem_cons_self ..)
 rcases hown.2 with ⟨h1,_⟩ | ⟨g,cap,cur,h1,_⟩
 ·omega
 ·exact (h g cap h1).2 w hw
theorem Fn.perm {P:Program}{f:FuncId}{args:List Value}{C:Mem}{L L2:List Ent}{post:Value->Mem->List Ent->Prop}(hp:L.Perm L2)(h:Fn P f args C L2 post):Fn P f args C L post:=by
 refine ⟨h.1,fun w hw=>?_⟩
 have hs:St w C L C (L2++[]) w:=by rw [List.append_nil];exact (St.start hw).perm hp
 refine (h.callAt hs).mono fun ex w' ⟨u,C',L',k1,_,k2,k3⟩=>?_
 rw [List.append_nil] at k2
 exact ⟨u,C',L',k1,k2,k3⟩
theorem G.rowPos {F:Fx}{k:List KI}{fr:Fr}{C:Mem}{L:List Ent}{e:Exit}(j:Nat){v:Value}{t s m:Nat}{xs:List Value}(hj:L[j]?=some (.arr v t s m xs))(hm:0<m)(h:∀ g c,v=.slice (some ⟨g,0,none⟩) m c->G F k e fr C L):G F k e fr C L:=by
 cases m with
 | zero=>exact absurd hm (Nat.lt_irrefl _)
 | succ m=>exact G.rowForm j hj h
end Go.Jog
namespace Go.Proofs.YtjhmlnebikbdbaaGreatDoor
open Go Go.Jog Go.Jog.Dp
set_option maxRecDepth 100000

def cellT:Option Rat->List UInt8
 | none=>[]
 | some q=>qtx q
def cellV (o:Option Rat):Value:=strV (cellT o)
def cmpO (x:Rat):Option Rat->Int
 | none=>0
 | some y=>cmpQ x y
theorem cmpO_fn (C:Mem)(hT:Tabs C)(x:Rat)(o:Option Rat)(qx:QB 1 x)(qo:∀ y,o=some y->QB 1 y)(h:o≠none):Gives cx.P 40 [strV (qtx x),cellV o] C (.int .i64 (cmpO x o)):=by
 cases o with
 | none=>exact absurd rfl h
 | some y=>exact ed C hT x y 1 (by decide) (by decide) qx (qo y rfl)
def impV (o:Option Rat)(x:Rat):Rat:=match o with
 | none=>x
 | some y=>if x<y then x else y
def encO (o:Option Rat):List Value:=[cellV o]
theorem cU:∀ o,(encO o).length=1:=fun _=>rfl
theorem cmpQ_lt0 (a b:Rat):decide (cmpQ a b<0)=decide (a<b):=by
 unfold cmpQ
 by_cases h1:a<b
 ·rw [if_pos h1,decide_eq_true h1];rfl
 ·rw [if_neg h1,decide_eq_false h1];split <;> rfl
theorem set_self' {α:Type}{l:List α}{i:Nat}{p:α}(h:l[i]?=some p):l.set i p=l:=by
 refine List.ext_getElem? fun j=>?_
 rw [List.getElem?_set]
 split
 ·next e=>subst e;rw [if_pos (List.getElem?_eq_some_iff.1 h).1,h]
 ·rfl
theorem ne_of {o:Option Rat}(h:((cellT o).toArray.toList == ([]:List UInt8))=false):o≠none:=fun e=>by subst e;exact absurd h (by decide)
theorem improve1_fn (C:Mem)(hT:Tabs C)(vT:Value)(ws:List Value)(a b bw m cw:Nat)(xs:List (Option Rat))(o:Option Rat)(x:Rat)(hs:Sl C 1 vT (ws.map fun w=>[w]))(_hm:m<=100)(_hws:ws.length<=100)
  (ha:ws[a]?=some (.slice (some ⟨bw,0,none⟩) m cw)) (hxl:xs.length=m) (hb:xs[b]?=some o) (qx:QB 1 x) (qo:∀ y,o=some y->QB 1 y) :
  Jog.Fn cx.P 62 [vT,.int .i64 a,.int .i64 b,strV (qtx x)] C [.arr (.slice (some ⟨bw,0,none⟩) m cw) 26 1 m (xs.map encO).flatten]
   fun u _ L'=>u=.tuple #[]/\L'=[.arr (.slice (some ⟨bw,0,none⟩) m cw) 26 1 m ((xs.set b (some (impV o x))).map encO).flatten]:=by
 have hwa:(ws.map fun w=>[w])[((a:Nat):Int).toNat]?=some [.slice (some ⟨bw,0,none⟩) m cw]:=by rw [Int.toNat_natCast,List.getElem?_map,ha];rfl
 have hal:=(List.getElem?_eq_some_iff.1 ha).1
 have hbl:=(List.getElem?_eq_some_iff.1 hb).1
 refine Fn.it kr_ Tryz.func62 35 fun w0=>?_
 refine G.rp 2 fun R hR=>?_
 refine D.ai (hs.mono mup) rfl rfl rfl rfl rfl rfl rfl rfl rfl rfl om_ hwa fl_ (fun p10 hp10=>?_)
 refine D.aa hp10 ?_
 refine D.ae ?_
 refine D.aO (b*1) rfl rfl rfl rfl rfl rfl rfl rfl rfl rfl (fun _=>⟨by omega,by omega,rfl⟩) rfl rfl ?_
 refine D.bh (.head _) rfl rfl rfl rfl rfl rfl (fun _=>(by rw [bB cU hb];rfl)) rfl rfl ?_
 refine D.ps 5 ?_
 refine D.index rfl rfl rfl rfl rfl rfl rfl rfl rfl rfl (fun hg=>⟨(hs.mono mup),by omega,hwa⟩) fl_ rfl (fun p20 hp20=>?_)
 refine D.aD rfl rfl rfl rfl rfl rfl hp20 rfl rfl rfl ?_
 refine D.ae ?_
 refine D.aO (b*1) rfl rfl rfl rfl rfl rfl rfl rfl rfl rfl (fun _=>⟨by omega,by omega,rfl⟩) rfl rfl ?_
 refine D.bh (.head _) rfl rfl rfl rfl rfl rfl (fun _=>(by rw [bB cU hb];rfl)) rfl rfl ?_
 refine D.aU (fun hg=>(cmpO_fn _ (hT.mono mup) x o qx qo (by exact ne_of (by exact hg.1)))) rfl rfl rfl rfl rfl rfl rfl rfl rfl ?_
 refine D.ae ?_
 refine D.ar ?_
 refine D.e5 0 1 2 3 27 hR ?_
 refine G.cd (fun h27=>?_) fun h27=>?_
 ·refine G.rp 2 fun R hR=>?_
  refine D.ai (hs.mono mup) rfl rfl rfl rfl rfl rfl rfl rfl rfl rfl om_ hwa fl_ (fun p30 hp30=>?_)
  refine D.aa hp30 ?_
  refine D.ps 2 ?_
  refine D.aO (b*1) rfl rfl rfl rfl rfl rfl rfl rfl rfl rfl (fun _=>⟨by omega,by omega,rfl⟩) rfl rfl ?_
  refine D.aW (j:=0) rfl rfl rfl rfl rfl rfl rfl rfl rfl rfl rfl (by show b*1+1<=(xs.map encO).flatten.length;rw [bk cU];omega) ?_
  refine D.done [] trivial (hR _ _ _ rfl ?_)
  refine G.end0 rfl ?_
  refine ⟨rfl, ?_⟩
  have hi:impV o x=x:=by
   cases o with
   | none=>rfl
   | some y =>
    have h:decide (cmpQ x y<0)=true:=by
     rcases Bool.or_eq_true_iff.1 h27 with h | h
     ·exact absurd h (by have:=qtx_ne y;cases hq:qtx y with | nil=>rw [hq] at this;exact absurd this (by decide) | cons a l=>show ¬ ((qtx y).toArray.toList == [])=true;rw [hq];simp)
     ·exact h
    have h2:=of_decide_eq_true h
    show (if x<y then x else y)=x
    rw [if_pos (of_decide_eq_true ((cmpQ_lt0 x y).symm.trans h))]
  rw [hi,<- be cU (some x) hbl];rfl
 ·refine G.end0 rfl ?_
  refine ⟨rfl, ?_⟩
  obtain ⟨h1,h2⟩:=Bool.or_eq_false_iff.1 h27
  have hon:=ne_of h1
  cases o with
  | none=>exact absurd rfl hon
  | some y =>
   have hi:impV (some y) x=y:=by
    have h3:¬ cmpQ x y<0:=of_decide_eq_false h2
    show (if x<y then x else y)=y
    rw [if_neg (of_decide_eq_false ((cmpQ_lt0 x y).symm.trans h2))]
   rw [hi,set_self' hb]
end Go.Proofs.YtjhmlnebikbdbaaGreatDoor
namespace Go.Jog
open Go

theorem Fn.frame {P:Program}{f:FuncId}{args:List Value}{C:Mem}{Lp:List Ent}{post:Value->Mem->List Ent->Prop}(h:Fn P f args C Lp post)(Lr:List Ent) :
  Fn P f args C (Lp++Lr) fun u C' L'=>∃ L1,L'=L1++Lr/\post u C' L1 :=
 ⟨h.1,fun _ hw=>(h.callAt (St.start hw)).mono fun _ _ ⟨v,C',L',e,_,hs,hq⟩=>⟨v,C',_,e,hs,L',rfl,hq⟩⟩
theorem Fn.permBack {P:Program}{f:FuncId}{args:List Value}{C:Mem}{L:List Ent}{post:Value->Mem->List Ent->Prop}(h:Fn P f args C L fun u C' L'=>∃ L2,L'.Perm L2/\post u C' L2):Fn P f args C L post :=
 ⟨h.1,fun w hw=>(h.2 w hw).mono fun _ _ ⟨v,C',_,e,hs,L2,hp,hq⟩=>⟨v,C',L2,e,St.perm hs hp,hq⟩⟩
theorem range_set {α:Type}{f:Nat->α}{n k:Nat}{v:α}:((List.range n).map f).set k v=(List.range n).map fun j=>if j=k then v else f j:=by
 refine List.ext_getElem? fun j=>?_
 rw [List.getElem?_set,List.getElem?_map,List.getElem?_map]
 by_cases hj:j<n
 ·rw [List.getElem?_range hj]
  by_cases e:k=j
  ·subst e;simp [hj]
  ·rw [if_neg e];simp [show ¬ j=k from fun h=>e h.symm]
 ·rw [List.getElem?_eq_none (show (List.range n).length<=j by simp;omega)]
  by_cases e:k=j
  ·subst e;simp [hj]
  ·rw [if_neg e];rfl
theorem cJ {α:Type}(f:Nat->α){n k:Nat}(h:k<n):((List.range n).map f).Perm (f k::((List.range n).eraseIdx k).map f):=by
 have e:(List.range n)[k]?=some k:=List.getElem?_range h
 have hp:(List.range n).Perm (k::(List.range n).eraseIdx k):=by
  obtain ⟨h1,h2⟩:=List.getElem?_eq_some_iff.1 e
  rw [List.eraseIdx_eq_take_drop_succ]
  have e2:List.range n=(List.range n).take k++k::(List.range n).drop (k+1):=by
   conv=>lhs;rw [<- List.take_append_drop k (List.range n)]
   rw [List.drop_eq_getElem_cons h1,h2]
  conv=>lhs;rw [e2]
  exact List.perm_middle
 have:=hp.map f
 rwa [List.map_cons] at this
theorem dJ {n k j:Nat}(h:j∈(List.range n).eraseIdx k):j≠k/\j<n:=by
 rw [List.eraseIdx_eq_take_drop_succ,List.mem_append] at h
 rcases h with h | h
 ·obtain ⟨i,hi,rfl⟩:=List.mem_iff_getElem.1 h
  rw [List.length_take,List.length_range] at hi
  rw [List.getElem_take,List.getElem_range];omega
 ·obtain ⟨i,hi,rfl⟩:=List.mem_iff_getElem.1 h
  rw [List.length_drop,List.length_range] at hi
  rw [List.getElem_drop,List.getElem_range];omega
end Go.Jog
namespace Go.Proofs.YtjhmlnebikbdbaaGreatDoor
open Go Go.Jog Go.Jog.Dp
set_option maxRecDepth 100000

def rowT (m:Nat)(T:Tb)(i:Nat):List (Option Rat):=(List.range (m+1)).map fun j=>T (i,j)
def rowE (wF:Nat->Value)(m:Nat)(T:Tb)(i:Nat):Ent:=.arr (wF i) 26 1 (m+1) ((rowT m T i).map encO).flatten
def tabE (vT:Value)(wF:Nat->Value)(n m:Nat)(T:Tb):List Ent :=
 .arr vT 48 1 (n+1) (((List.range (n+1)).map wF).map fun w=>[w]).flatten::(List.range (n+1)).map (rowE wF m T)
theorem improve_eq {T:Tb}{p:Nat × Nat}{x:Rat}:Dp.improve T p x=fun q=>if q=p then some (impV (T p) x) else T q:=by
 funext q
 unfold Dp.improve impV
 split
 ·cases T p with
  | none=>rfl
  | some y=>simp only;split <;> rfl
 ·rfl
theorem rowT_same {m:Nat}{T:Tb}{a b:Nat}{x:Rat}:rowT m (Dp.improve T (a,b) x) a=(rowT m T a).set b (some (impV (T (a,b)) x)):=by
 unfold rowT
 rw [range_set,improve_eq]
 refine List.map_congr_left fun j _=>?_
 by_cases h:j=b
 ·subst h;simp
 ·simp [h]
theorem rowE_other {wF:Nat->Value}{m:Nat}{T:Tb}{a b i:Nat}{x:Rat}(h:i≠a):rowE wF m (Dp.improve T (a,b) x) i=rowE wF m T i:=by
 unfold rowE rowT
 congr 3
 refine List.map_congr_left fun j _=>?_
 exact improve_other (by simp [h])
theorem improve_fn (C:Mem)(hT:Tabs C)(vT:Value)(wF:Nat->Value)(n m a b:Nat)(T:Tb)(x:Rat)(hw:∀ i,i<=n->∃ bw cw,wF i=.slice (some ⟨bw,0,none⟩) (m+1) cw)(hn:n<=50)(hm:m<=50)(ha:a<=n)(hb:b<=m)
  (qx:QB 1 x) (qo:∀ y,T (a,b)=some y->QB 1 y) :
  Jog.Fn cx.P 62 [vT,.int .i64 a,.int .i64 b,strV (qtx x)] C (tabE vT wF n m T) fun u _ L'=>u=.tuple #[]/\L'=tabE vT wF n m (Dp.improve T (a,b) x):=by
 have hen:Jog.Enters cx.P 62=true:=by kernel_rfl
 obtain ⟨bw,cw,hwa⟩:=hw a ha
 refine Fn.permBack ?_
 refine Fn.perm (L2:=.arr vT 48 1 (n+1) (((List.range (n+1)).map wF).map fun w=>[w]).flatten::([rowE wF m T a]++((List.range (n+1)).eraseIdx a).map (rowE wF m T))) (List.Perm.cons _ (cJ (rowE wF m T) om_)) ?_
 refine (Fn.lendRow (post:=fun u L'=>u=.tuple #[]/\L'=[.arr (wF a) 26 1 (m+1) (((rowT m T a).set b (some (impV (T (a,b)) x))).map encO).flatten]++((List.range (n+1)).eraseIdx a).map (rowE wF m T)) hen (fun r hr=>by obtain ⟨w,_,rfl⟩:=List.mem_map.1 hr;rfl) (by simp) fun C' hle hs=>?_).mono ?_
 ·have hr:rowE wF m T a=.arr (.slice (some ⟨bw,0,none⟩) (m+1) cw) 26 1 (m+1) ((rowT m T a).map encO).flatten:=by unfold rowE;rw [hwa]
  rw [hr]
  refine (Fn.frame (improve1_fn C' (hT.mono hle) vT ((List.range (n+1)).map wF) a b bw (m+1) cw (rowT m T a) (T (a,b)) x hs om_ (by simp;omega) (by rw [List.getElem?_map,List.getElem?_range om_];simp [hwa]) (by simp [rowT]) (by unfold rowT;rw [List.getElem?_map,List.getElem?_range om_];rfl) qx qo) _).mono ?_
  rintro u C2 L' _ ⟨L1,rfl,rfl,rfl⟩
  exact ⟨rfl,by rw [hwa]⟩
 ·rintro u C' L' _ ⟨L2,rfl,rfl,rfl⟩
  refine ⟨_, ?_,rfl,rfl⟩
  unfold tabE
  refine List.Perm.cons _ (List.Perm.symm ((cJ (rowE wF m (Dp.improve T (a,b) x)) (show a<n+1 by omega)).trans ?_))
  have h1:rowE wF m (Dp.improve T (a,b) x) a=.arr (wF a) 26 1 (m+1) (((rowT m T a).set b (some (impV (T (a,b)) x))).map encO).flatten:=by unfold rowE;rw [rowT_same]
  have h2:((List.range (n+1)).eraseIdx a).map (rowE wF m (Dp.improve T (a,b) x))=((List.range (n+1)).eraseIdx a).map (rowE wF m T):=List.map_congr_left fun i hi=>rowE_other (dJ hi).1
  rw [h1,h2]
  exact List.Perm.refl _
open Go Go.Jog Go.Jog.Dp
set_option maxRecDepth 100000

def bN:Tb:=fun _=>none
def nilS:Value:=.slice none 0 0
def vRow (wF:Nat->Value)(i n:Nat):List Value:=(List.range (n+1)).map fun k=>if k<i then wF k else nilS
theorem one_len:∀ w:Value,[w].length=1:=fun _=>rfl
theorem zrow_flat {α:Type}{z:List Value}{f:α->List Value}:∀ {l:List α},(∀ x∈l,f x=z)->zrow z l.length=(l.map f).flatten
 | [],_=>rfl
 | x::l,h=>by
  show z++zrow z l.length=_
  rw [zrow_flat (l:=l) fun y hy=>h y (List.mem_cons_of_mem _ hy),List.map_cons,List.flatten_cons,h x (List.mem_cons_self ..)]
theorem vRow_zero (wF:Nat->Value)(n:Nat):zrow [nilS] (n+1)=((vRow wF 0 n).map fun w=>[w]).flatten:=by
 have h:=zrow_flat (z:=[nilS]) (f:=fun w:Value=>[w]) (l:=vRow wF 0 n) (fun x hx=>by
  unfold vRow at hx
  obtain ⟨k,_,rfl⟩:=List.mem_map.1 hx
  simp)
 rw [<- h];simp [vRow]
theorem row_none (_wF:Nat->Value)(m i:Nat):zrow [strV []] (m+1)=((rowT m bN i).map encO).flatten:=by
 have h:=zrow_flat (z:=[strV []]) (f:=encO) (l:=rowT m bN i) (fun x hx=>by
  unfold rowT at hx
  obtain ⟨k,_,rfl⟩:=List.mem_map.1 hx
  rfl)
 rw [<- h];simp [rowT]
theorem vRow_set {wF:Nat->Value}{i n:Nat}{w:Value}(hi:i<n+1):(vRow wF i n).set i w=vRow (fun k=>if k=i then w else wF k) (i+1) n:=by
 unfold vRow
 rw [range_set]
 refine List.map_congr_left fun k _=>?_
 by_cases h:k=i
 ·subst h;simp
 ·by_cases h1:k<i
  ·simp [h,h1,show k<i+1 by omega]
  ·simp [h,h1,show ¬ k<i+1 by omega]
theorem table_fn (C:Mem)(vL vR:Value)(q:Qn)(hq:QIn C vL vR q)(hl:q.l.length<=8)(hr:q.r.length<=8) :
  Jog.Fn cx.P 61 [.agg ⟨qC vL vR q⟩] C [] fun u _ L'=>∃ wF:Nat->Value,(∀ i,i<=q.l.length->∃ bw cw,wF i=.slice (some ⟨bw,0,none⟩) (q.r.length+1) cw)/\(∃ bT cT,u=.slice (some ⟨bT,0,none⟩) (q.l.length+1) cT)/\L'=tabE u wF q.l.length q.r.length bN:=by
 obtain ⟨AL,cL,rfl,_,_,_⟩:=id hq.l
 obtain ⟨AR,cR,rfl,_,_,_⟩:=id hq.r
 simp only [List.length_map] at hq ⊢
 refine Fn.it kr_ Tryz.func61 25 fun w0=>?_
 refine G.rg fun R hR=>?_
 refine D.aM (fun b1=>?_)
 refine D.q1 1 1 hR ?_
 refine G.freeze 0 rfl (fun C1 hle1 hb1=>?_)
 refine G.rp 1 fun R hR=>?_
 refine D.aa (bkT hb1 1) ?_
 refine D.ae ?_
 refine D.ax ((q.l.length+1:Nat):Int) ?_
 refine D.a8 rfl rfl rfl rfl rfl rfl rfl rfl rfl (Nat.le_refl _) (by show 24*(q.l.length+1)<=_;omega) (by show _<=maxLen;simp [maxLen];omega) fl_ (fun b9=>?_)
 refine D.q2 1 1 3 hR ?_
 refine G.z4 3 1 3 11 12 ?_
 refine G.loop (fun fr C' L' μ=>∃ (i:Nat)(wF:Nat->Value),(i<=q.l.length+1/\∀ k,k<i->∃ bw cw,wF k=.slice (some ⟨bw,0,none⟩) (q.r.length+1) cw)/\fr=[(1,[],.pointer (some ⟨b1,0,none⟩)),(3,[],.slice (some ⟨b9,0,none⟩) (q.l.length+1) (q.l.length+1)),(11,[],.int .i64 (q.l.length+1:Nat)),(12,[],.int .i64 i)]
  /\ L'=.arr (.slice (some ⟨b9,0,none⟩) (q.l.length+1) (q.l.length+1)) 48 1 (q.l.length+1) ((vRow wF i q.l.length).map fun w=>[w]).flatten::(List.range i).map (rowE wF q.r.length bN)/\μ=q.l.length+1-i) (h_4 1 3 11 12)
  ⟨0,fun _=>nilS,⟨by omega,fun k hk=>absurd hk om_⟩,rfl,(by rw [<- vRow_zero];rfl),rfl⟩ (fun fr C0 L0 μ hle0 hI=>?_)
 obtain ⟨i,wF,⟨hi,hw⟩,rfl,rfl,rfl⟩:=hI
 refine G.z5 1 1 3 11 12 13 ?_
 refine G.cd (fun h13=>?_) fun h13=>?_
 ·have hil:i<q.l.length+1:=by have:=of_decide_eq_true h13;omega
  refine G.z5 2 1 3 4 11 12 ?_
  refine G.rp 3 fun R hR=>?_
  refine D.aa (bkT hb1 1) ?_
  refine D.ae ?_
  refine D.ax ((q.r.length+1:Nat):Int) ?_
  refine D.a8 rfl rfl rfl rfl rfl rfl rfl rfl rfl (Nat.le_refl _) (by show 16*(q.r.length+1)<=_;omega) (by show _<=maxLen;simp [maxLen];omega) fl_ (fun b21=>?_)
  refine D.aO (i*1) rfl rfl rfl rfl rfl rfl rfl rfl rfl rfl (fun _=>⟨by omega,by omega,rfl⟩) rfl rfl ?_
  refine D.aW (j:=1) rfl rfl rfl rfl rfl rfl rfl rfl rfl rfl rfl (by show i*1+1<=(List.map (fun w=>[w]) (vRow wF i q.l.length)).flatten.length;rw [bk one_len];simp [vRow];omega) ?_
  refine D.e4 1 3 11 12 hR ?_
  refine G.rg fun R hR=>?_
  refine D.ax ((i+1:Nat):Int) ?_
  refine D.q4 1 1 3 11 12 hR ?_
  obtain ⟨wF',hwF'⟩:∃ wF':Nat->Value,wF'=fun k=>if k=i then .slice (some ⟨b21,0,none⟩) (q.r.length+1) (q.r.length+1) else wF k:=⟨_,rfl⟩
  refine G.perm (L':=.arr (.slice (some ⟨b9,0,none⟩) (q.l.length+1) (q.l.length+1)) 48 1 (q.l.length+1) ((vRow wF' (i+1) q.l.length).map fun w=>[w]).flatten::(List.range (i+1)).map (rowE wF' q.r.length bN)) ?_ ?_
  ·rw [hwF',<- vRow_set hil,<- be one_len _ (by simp [vRow];omega),<- hwF']
   refine List.Perm.cons _ ?_
   rw [List.range_succ,List.map_append]
   have h1:(List.range i).map (rowE wF' q.r.length bN)=(List.range i).map (rowE wF q.r.length bN):=List.map_congr_left fun k hk=>by
    have:k≠i:=by have:=List.mem_range.1 hk;omega
    unfold rowE;rw [hwF'];simp [this]
   have h2:[i].map (rowE wF' q.r.length bN)=[.arr (.slice (some ⟨b21,0,none⟩) (q.r.length+1) (q.r.length+1)) 26 1 (q.r.length+1) (zrow [strV []] (q.r.length+1))]:=by
    rw [row_none wF' q.r.length i];unfold rowE;rw [hwF'];simp
   rw [h1,h2]
   exact List.perm_append_comm (l₁:=[_])
  ·refine G.aB (m':=q.l.length+1-(i+1)) om_ hle0 (h_4 1 3 11 12) ⟨i+1,wF',⟨by omega,fun k hk=>?_⟩,rfl,rfl,rfl⟩
   rw [hwF']
   by_cases e:k=i
   ·exact ⟨b21,_,by simp [e];rfl⟩
   ·obtain ⟨bw,cw,h⟩:=hw k om_
    exact ⟨bw,cw,by simp [e,h]⟩
 ·obtain rfl:i=q.l.length+1:=by have:=of_decide_eq_false h13;omega
  refine G.z1 2 2 ?_
  refine G.aA (G.fin1 rfl rfl ?_)
  refine ⟨wF,fun i hi=>hw i om_,⟨_,_,rfl⟩, ?_⟩
  unfold tabE
  have:vRow wF (q.l.length+1) q.l.length=(List.range (q.l.length+1)).map wF:=List.map_congr_left fun k hk=>by simp [List.mem_range.1 hk]
  rw [this]
end Go.Proofs.YtjhmlnebikbdbaaGreatDoor
namespace Go.Jog
namespace Dp

theorem Ord.pre {r:Nat × Nat}:∀ {E:List Ed},Ord r E->∀ E1 E2,E=E1++E2->Ord r E1:=by
 intro E h
 induction h with
 | nil=>intro E1 E2 he;rw [List.nil_eq,List.append_eq_nil_iff] at he;rw [he.1];exact .nil
 | snoc h0 h1 h2 h3 h4 ih =>
  intro E1 E2 he
  rcases List.eq_nil_or_concat E2 with rfl | ⟨E3,e3,rfl⟩
  ·rw [List.append_nil] at he;rw [<- he];exact .snoc h0 h1 h2 h3 h4
  ·rw [List.concat_eq_append,<- List.append_assoc] at he
   exact ih _ _ (List.append_inj_left' he rfl)

theorem range_pre {α:Type}{f:Nat->List α}{n i:Nat}(h:i<n)(l:List α)(hl:l <+: f i):((List.range i).flatMap f++l) <+: (List.range n).flatMap f:=by
 have e:List.range n=List.range i++i::(List.range n).drop (i+1):=by
  conv=>lhs;rw [<- List.take_append_drop i (List.range n)]
  rw [List.take_range,Nat.min_eq_left om_,List.drop_eq_getElem_cons (by simp;omega),List.getElem_range]
 obtain ⟨t,ht⟩:=hl
 refine ⟨t++((List.range n).drop (i+1)).flatMap f, ?_⟩
 conv=>rhs;rw [e,List.flatMap_append,List.flatMap_cons,<- ht]
 simp

def Al.upF (A:Al)(i j c:Nat):List Ed:=A.allF i++(A.rowF i j++(A.cellF i j).take c)
theorem Al.upF_pre {A:Al}{i j c:Nat}(hi:i<=A.n)(hj:j<=A.m):A.upF i j c <+: A.allF (A.n+1) :=
 range_pre om_ _ (range_pre (f:=fun j=>A.cellF i j) om_ _ (List.take_prefix _ _))
theorem Al.upF_mem {A:Al}{i j c:Nat}(hi:i<=A.n)(hj:j<=A.m):∀ e∈A.upF i j c,e∈A.allF (A.n+1):=fun _e he=>(Al.upF_pre hi hj).subset he
theorem Al.upF_ord {A:Al}{i j c:Nat}(hi:i<=A.n)(hj:j<=A.m):Ord (0,0) (A.upF i j c):=by
 obtain ⟨t,ht⟩:=Al.upF_pre (c:=c) hi hj
 exact A.ordF.pre _ _ ht.symm
theorem Al.upF_done {A:Al}{i j c:Nat}(hi:i<=A.n)(hj:j<=A.m):Done (0,0) (A.upF i j c) (run Al.t0F (A.upF i j c)) :=
 (Al.upF_ord hi hj).done (done_start (by simp [t0F]) fun p hp=>by simp [t0F,hp])
theorem Al.upF_here {A:Al}{i j c:Nat}(hi:i<=A.n)(hj:j<=A.m):∃ u,run Al.t0F (A.upF i j c) (i,j)=some u:=by
 have hd:=Al.upF_done (c:=c) hi hj
 rcases Nat.eq_zero_or_pos i with rfl | h0
 ·rcases Nat.eq_zero_or_pos j with rfl | h1
  ·exact ⟨_,hd.root⟩
  ·have hm:(⟨(0,j-1),nx 3 0 (j-1),A.co 3 0 (j-1)⟩:Ed)∈A.upF 0 j c:=by
    unfold upF rowF cellF
    refine List.mem_append_right _ (List.mem_append_left _ (List.mem_flatMap.2 ⟨j-1,List.mem_range.2 om_,List.mem_map.2 ⟨3,Al.mem_kinds.2 (Al.ok3 om_),rfl⟩⟩))
   obtain ⟨_,v,_,hv,_⟩:=hd.src _ hm
   refine ⟨v, ?_⟩
   rw [<- hv];simp [nx,show j-1+1=j by omega]
 ·have hm:(⟨(i-1,j),nx 2 (i-1) j,A.co 2 (i-1) j⟩:Ed)∈A.upF i j c:=by
   unfold upF allF rowF cellF
   refine List.mem_append_left _ (List.mem_flatMap.2 ⟨i-1,List.mem_range.2 om_,List.mem_flatMap.2 ⟨j,List.mem_range.2 om_,List.mem_map.2 ⟨2,Al.mem_kinds.2 (Al.ok2 om_),rfl⟩⟩⟩)
  obtain ⟨_,v,_,hv,_⟩:=hd.src _ hm
  refine ⟨v, ?_⟩
  rw [<- hv];simp [nx,show i-1+1=i by omega]
theorem Al.upF_zero (A:Al)(i j:Nat):A.upF i j 0=A.allF i++A.rowF i j:=by simp [upF]
theorem Al.upF_end (A:Al)(i j:Nat):A.upF i j (A.kinds i j).length=A.allF i++A.rowF i (j+1):=by
 have:(A.cellF i j).take (A.kinds i j).length=A.cellF i j:=List.take_of_length_le (by simp [cellF])
 unfold upF
 rw [this,A.rowF_succ]
theorem Al.upF_step {A:Al}{i j c k:Nat}(h:(A.kinds i j)[c]?=some k){u:Rat}(hu:run Al.t0F (A.upF i j c) (i,j)=some u):run Al.t0F (A.upF i j (c+1))=improve (run Al.t0F (A.upF i j c)) (nx k i j) (u+A.co k i j):=by
 have e:A.upF i j (c+1)=A.upF i j c++[⟨(i,j),nx k i j,A.co k i j⟩]:=by
  unfold upF
  rw [List.take_add_one]
  have:(A.cellF i j)[c]?=some ⟨(i,j),nx k i j,A.co k i j⟩:=by unfold cellF;rw [List.getElem?_map,h];rfl
  rw [this];simp
 rw [e,run_snoc]
 unfold relax
 rw [hu]
end Dp
end Go.Jog
