/- Laws that the proofs of this seat share, part 10. -/
import Derived.Test.YtjhmlnebikbdbaaGreatDoorG9
import Derived.Test.YtjhmlnebikbdbaaGreatDoorShelf
import Derived.Test.YtjhmlnebikbdbaaGreatDoorCards
import Derived.Test.YtjhmlnebikbdbaaGreatDoorTie
import Derived.Stop.LaidErr
import Derived.Lib.LaidTab
import Derived.Carry
import Derived.Deep.Strs
import Derived.Laws.IdiomArrays
set_option maxHeartbeats 4000000
namespace Go.Proofs.YtjhmlnebikbdbaaGreatDoor
open Go Go.Jog Go.Jog.Dp
set_option maxRecDepth 100000

theorem ef {q:Rat}(h:QB 22 q):aK (qtx q)=some q:=by
 have h1:(aK (qtx q)).isSome=true:=by rw [<- ratOk_eq];exact ratOk_qtx h
 obtain ⟨p,hp⟩:=Option.isSome_iff_exists.1 h1
 rw [hp,readM_qtx hp]
theorem cE {q:Rat}(h:QB 1 q):SmQ 200 q:=readM_sm (ef (h.le (by decide)))
theorem perm_meas {α:Type}(a b c d:α):[a,b,c,d].Perm [c,b,a,d]:=by
 classical exact List.perm_iff_count.2 fun x=>by simp only [List.count_cons];omega
theorem dY (C:Mem)(v:Value)(l:List Iv)(hv:Sl C 3 v (l.map ivC))(hl:l.length<=1000)(ho:∀ x∈l,x.Ok) :
  Pur cx.P 30 [v] C fun u D=>∃ A1 n1 c1 A2 n2 c2,u=.agg ⟨[.slice A1 n1 c1,.slice A2 n2 c2]⟩/\Sl D 1 (.slice A1 n1 c1) (l.map ivU)/\FrL D (.slice A2 n2 c2) (l.map Iv.thick):=by
 obtain ⟨A0,c0,rfl,_⟩:=id hv
 simp only [List.length_map] at hv ⊢
 refine Fn.it kr_ Tryz.func30 45 fun w0=>?_
 refine G.rg fun R hR=>?_
 refine D.aj (fun b2=>?_)
 refine D.e2 0 2 hR ?_;clear hR R
 refine G.rg fun R hR=>?_
 refine D.aj (fun b3=>?_)
 refine D.e3 0 2 3 hR ?_;clear hR R
 refine G.z5 3 2 3 10 11 12 ?_
 refine G.nilArr 95 3 ?_
 refine G.nilArr 9 1 ?_
 refine G.loop (fun fr C' L' μ=>∃ (i:Nat)(A1:Option Addr)(n1 c1:Nat)(A2:Option Addr)(n2 c2:Nat)(xs:List FV),(i<=l.length/\RowsF C' xs ((l.take i).map Iv.thick)/\xs.length=i)/\fr=[(2,[],.pointer (some ⟨b2,0,none⟩)),(3,[],.pointer (some ⟨b3,0,none⟩)),(10,[],.slice A0 l.length c0),(11,[],.int .i64 l.length),(12,[],.int .i64 i)]/\L'=[.arr (.slice A1 n1 c1) 9 1 i ((l.take i).map ivU).flatten,.arr (.slice A2 n2 c2) 95 3 i (xs.map FV.enc).flatten,.obj b3 (.cells ⟨[.slice A1 n1 c1,.slice A2 n2 c2]⟩ 99 (0,0)),.obj b2 (.cells ⟨[.slice none 0 0,.slice none 0 0]⟩ 99 (0,0))]/\μ=l.length-i) (h_5 2 3 10 11 12) ⟨0,none,0,0,none,0,0,[],⟨Nat.zero_le _,RowsF.nil _,rfl⟩,rfl,rfl,rfl⟩ (fun fr C0' L0' m hle0 hI=>?_)
 obtain ⟨i,A1,n1,c1,A2,n2,c2,xs,⟨hi,hxs,hxl⟩,rfl,rfl,rfl⟩:=hI
 refine G.z6 1 2 3 10 11 12 13 ?_
 refine G.cd (fun h13=>?_) fun h13=>?_
 ·have hil:i<l.length:=by have:=of_decide_eq_true h13;omega
  obtain ⟨x,hx⟩:∃ x,l[i]?=some x:=⟨_,List.getElem?_eq_getElem hil⟩
  have hox:=ho x (List.mem_of_getElem? hx)
  have hrow:(l.map ivC)[((i:Nat):Int).toNat]?=some (ivC x):=by rw [Int.toNat_natCast,List.getElem?_map,hx];rfl
  have htk:l.take (i+1)=l.take i++[x]:=by rw [List.take_add_one,hx];rfl
  refine G.rg fun R hR=>?_
  refine D.ai (hv.mono mup) rfl rfl rfl rfl rfl rfl rfl rfl rfl rfl om_ hrow fl_ (fun p14 hp14=>?_)
  refine D.aa hp14 ?_
  refine D.aj (fun b5=>?_)
  refine D.ac (j:=0) ?_
  refine D.e6 2 3 5 10 11 12 hR ?_;clear hR R
  refine G.freeze 0 rfl (fun C5 hle5 hb5=>?_)
  refine G.rp 1 fun R hR=>?_
  refine D.aa (bkT hb5 1) ?_
  refine D.ap (read_fn _ (qtx x.a) (Nat.lt_of_le_of_lt (bf hox.qa (by decide)) (by decide))) rfl rfl rfl rfl rfl rfl rfl fl_ (fun v19 C19 hle19 hq19=>?_)
  obtain ⟨va,rfl,hva⟩:=hq19
  rw [ef (hox.qa.le (by decide))] at hva
  obtain ⟨fa,rfl⟩:=hva.fv
  refine D.ps 3 ?_
  refine D.aj (fun b6=>?_)
  refine D.ac (j:=0) ?_
  refine D.q7 1 2 3 5 6 10 11 12 hR ?_;clear hR R
  refine G.freeze 0 rfl (fun C6 hle6 hb6=>?_)
  refine G.rp 1 fun R hR=>?_
  refine D.aa (bkT hb5 1) ?_
  refine D.ap (read_fn _ (qtx x.b) (Nat.lt_of_le_of_lt (bf hox.qb (by decide)) (by decide))) rfl rfl rfl rfl rfl rfl rfl fl_ (fun v25 C25 hle25 hq25=>?_)
  obtain ⟨vb,rfl,hvb⟩:=hq25
  rw [ef (hox.qb.le (by decide))] at hvb
  obtain ⟨fb,rfl⟩:=hvb.fv
  refine D.ps 3 ?_
  refine D.aj (fun b8=>?_)
  refine D.ac (j:=0) ?_
  refine D.q8 1 2 3 5 6 8 10 11 12 hR ?_;clear hR R
  refine G.freeze 0 rfl (fun C8 hle8 hb8=>?_)
  refine G.bH (fun fr C' L' μ=>∃ (A33:Option Addr)(n33 c33:Nat)(A40:Option Addr)(n40 c40:Nat)(x38:FV),(FrC C' (.agg ⟨x38.enc⟩) (x.b-x.a))/\fr=[(2,[],.pointer (some ⟨b2,0,none⟩)),(3,[],.pointer (some ⟨b3,0,none⟩)),(10,[],.slice A0 l.length c0),(11,[],.int .i64 l.length),(12,[],.int .i64 i)]/\L'=[.obj b3 (.cells ⟨[.slice A33 n33 c33,.slice A40 n40 c40]⟩ 99 (0,0)),.arr (.slice A40 n40 c40) 95 3 (i+[x38.enc].length) ((xs.map FV.enc).flatten++[x38.enc].flatten),.arr (.slice A33 n33 c33) 9 1 (i+[ivU x].length) (((l.take i).map ivU).flatten++[ivU x].flatten),.obj b2 (.cells ⟨[.slice none 0 0,.slice none 0 0]⟩ 99 (0,0))]) ?_ (fun fr Cr7 Lr7 μ hler7 hI=>?_)
  ·refine G.eA (.cut [0,1,2,3,6,8,9] (.alt 4 (.cut [] (.alt 5 (.fin [7,13,10,11,12,14,15,16]) (.alt 7 (.fin [5,13,10,11,12,14,15,16]) .stop))) (.alt 7 (.fin [4,5,13,10,11,12,14,15,16]) .stop))) [(3,0),(8,0),(9,0)] rfl rfl kr_ (fun R hB hR hH=>?_)
   refine D.ae ?_
   refine D.ag (.tail _ (.tail _ (.head _))) ?_
   refine D.ae ?_
   refine D.cO (fun _=>((bkT hb5 1).mono hB)) rfl rfl rfl rfl rfl rfl rfl rfl rfl ?_
   refine D.ae ?_
   refine D.cO (fun _=>((bkT hb8 3).mono hB)) rfl rfl rfl rfl rfl rfl rfl rfl rfl ?_
   refine D.cO (fun _=>((bkT hb6 3).mono hB)) rfl rfl rfl rfl rfl rfl rfl rfl rfl ?_
   refine D.az hH rfl ⟨?_, ?_,trivial⟩
   ·refine D.ah [ivU x] (fun p32 C32 hle32 hs32=>?_)
    refine D.az hH rfl ⟨?_, ?_,trivial⟩
    ·refine D.ak (j:=0) rfl rfl rfl rfl rfl rfl rfl rfl rfl rfl rfl (hs32.mono mup) rfl (by simp only [List.length_singleton,maxLen];omega) (by show (i+1)*16<=_;omega) fl_ (fun A33 n33 c33=>?_)
     refine D.ag (.tail _ (.tail _ (.head _))) ?_
     refine D.ae ?_
     refine D.ap (fsub_fn (FrC.mono hvb mup) (FrC.mono hva mup) (cE hox.qb) (cE hox.qa) (by decide)) rfl rfl rfl rfl rfl rfl rfl fl_ (fun v38 C38 hle38 hq38=>?_)
     obtain ⟨x38,rfl⟩:=hq38.fv
     refine D.ah [x38.enc] (fun p39 C39 hle39 hs39=>?_)
     refine D.ak (j:=1) rfl rfl rfl rfl rfl rfl rfl rfl rfl rfl rfl (hs39.mono mup) rfl (by simp only [List.length_singleton,maxLen];omega) (by show (i+1)*56<=_;omega) fl_ (fun A40 n40 c40=>?_)
     refine D.ac (j:=2) ?_
     refine D.ae ?_
     refine D.ac (j:=0) ?_
     refine D.e5 2 3 10 11 12 hR ?_;clear hR hB hH R
     exact G.ay 0 mup (h_5 2 3 10 11 12) ⟨A33,n33,c33,A40,n40,c40,x38,FrC.mono hq38 mup,rfl,rfl⟩
    ·refine D.ag (.tail _ (.tail _ (.head _))) ?_
     refine D.ak (j:=0) rfl rfl rfl rfl rfl rfl rfl rfl rfl rfl rfl (hs32.mono mup) rfl (by simp only [List.length_singleton,maxLen];omega) (by show (i+1)*16<=_;omega) fl_ (fun A33 n33 c33=>?_)
     refine D.ae ?_
     refine D.ap (fsub_fn (FrC.mono hvb mup) (FrC.mono hva mup) (cE hox.qb) (cE hox.qa) (by decide)) rfl rfl rfl rfl rfl rfl rfl fl_ (fun v38 C38 hle38 hq38=>?_)
     obtain ⟨x38,rfl⟩:=hq38.fv
     refine D.ah [x38.enc] (fun p39 C39 hle39 hs39=>?_)
     refine D.ak (j:=1) rfl rfl rfl rfl rfl rfl rfl rfl rfl rfl rfl (hs39.mono mup) rfl (by simp only [List.length_singleton,maxLen];omega) (by show (i+1)*56<=_;omega) fl_ (fun A40 n40 c40=>?_)
     refine D.ac (j:=2) ?_
     refine D.ae ?_
     refine D.ac (j:=0) ?_
     refine D.e5 2 3 10 11 12 hR ?_;clear hR hB hH R
     exact G.ay 0 mup (h_5 2 3 10 11 12) ⟨A33,n33,c33,A40,n40,c40,x38,FrC.mono hq38 mup,rfl,rfl⟩
   ·refine D.ag (.tail _ (.tail _ (.head _))) ?_
    refine D.ah [ivU x] (fun p32 C32 hle32 hs32=>?_)
    refine D.ak (j:=0) rfl rfl rfl rfl rfl rfl rfl rfl rfl rfl rfl (hs32.mono mup) rfl (by simp only [List.length_singleton,maxLen];omega) (by show (i+1)*16<=_;omega) fl_ (fun A33 n33 c33=>?_)
    refine D.ae ?_
    refine D.ap (fsub_fn (FrC.mono hvb mup) (FrC.mono hva mup) (cE hox.qb) (cE hox.qa) (by decide)) rfl rfl rfl rfl rfl rfl rfl fl_ (fun v38 C38 hle38 hq38=>?_)
    obtain ⟨x38,rfl⟩:=hq38.fv
    refine D.ah [x38.enc] (fun p39 C39 hle39 hs39=>?_)
    refine D.ak (j:=1) rfl rfl rfl rfl rfl rfl rfl rfl rfl rfl rfl (hs39.mono mup) rfl (by simp only [List.length_singleton,maxLen];omega) (by show (i+1)*56<=_;omega) fl_ (fun A40 n40 c40=>?_)
    refine D.ac (j:=2) ?_
    refine D.ae ?_
    refine D.ac (j:=0) ?_
    refine D.e5 2 3 10 11 12 hR ?_;clear hR hB hH R
    exact G.ay 0 mup (h_5 2 3 10 11 12) ⟨A33,n33,c33,A40,n40,c40,x38,FrC.mono hq38 mup,rfl,rfl⟩
  obtain ⟨A33,n33,c33,A40,n40,c40,x38,hx38,rfl,rfl⟩:=hI
  refine G.rg fun R hR=>?_
  refine D.ax _ ?_
  refine D.q5 1 2 3 10 11 12 hR ?_;clear hR R
  refine G.perm (L':=[.arr (.slice A33 n33 c33) 9 1 (i+[ivU x].length) (((l.take i).map ivU).flatten++[ivU x].flatten),.arr (.slice A40 n40 c40) 95 3 (i+[x38.enc].length) ((xs.map FV.enc).flatten++[x38.enc].flatten),.obj b3 (.cells ⟨[.slice A33 n33 c33,.slice A40 n40 c40]⟩ 99 (0,0)),.obj b2 (.cells ⟨[.slice none 0 0,.slice none 0 0]⟩ 99 (0,0))]) (perm_meas _ _ _ _) ?_
  refine G.bv (L':=[.arr (.slice A33 n33 c33) 9 1 (i+1) ((l.take (i+1)).map ivU).flatten,.arr (.slice A40 n40 c40) 95 3 (i+1) ((xs++[x38]).map FV.enc).flatten,.obj b3 (.cells ⟨[.slice A33 n33 c33,.slice A40 n40 c40]⟩ 99 (0,0)),.obj b2 (.cells ⟨[.slice none 0 0,.slice none 0 0]⟩ 99 (0,0))]) (by rw [htk];simp) ?_
  refine G.aB (m':=l.length-(i+1)) om_ mup (h_5 2 3 10 11 12) ⟨i+1,A33,n33,c33,A40,n40,c40,xs++[x38],⟨by omega,by rw [htk,List.map_append];exact (hxs.mono mup).snoc (FrC.mono hx38 mup),by simp [hxl]⟩,rfl,rfl,rfl⟩
 ·obtain rfl:i=l.length:=by have:=of_decide_eq_false h13;omega
  rw [List.take_length] at hxs
  refine G.freezeArr 1 (xs.map FV.enc) rfl rfl (by intro r hr;obtain ⟨y,_,rfl⟩:=List.mem_map.1 hr;rfl) (by rw [List.length_map,hxl]) (fun Cf hf hsf=>?_)
  refine G.freezeArr 0 (l.map ivU) rfl (by rw [List.take_length]) (by intro r hr;obtain ⟨y,_,rfl⟩:=List.mem_map.1 hr;rfl) (by rw [List.length_map]) (fun Cg hg hsg=>?_)
  refine G.rg fun R hR=>?_
  refine D.ag (.head _) ?_
  refine D.ac (j:=1) ?_
  refine D.e1 2 hR ?_;clear hR R
  refine G.aA (G.dG (.head _) rfl rfl rfl rfl ?_)
  exact ⟨rfl,A1,n1,c1,A2,n2,c2,rfl,hsg.mono mup,xs,hsf.mono mup,hxs.mono mup⟩
open Go Go.Jog Go.Jog.Dp
set_option maxRecDepth 100000

def prC (uL kL uR kR:Value)(f0 f1 f2 f3:FV):List Value :=
 [uL,kL,uR,kR,.bool f0.b,.slice f0.A f0.n f0.c,.slice f0.A2 f0.n2 f0.c2,.bool f1.b,.slice f1.A f1.n f1.c,.slice f1.A2 f1.n2 f1.c2,.bool f2.b,.slice f2.A f2.n f2.c,.slice f2.A2 f2.n2 f2.c2,.bool f3.b,.slice f3.A f3.n f3.c,.slice f3.A2 f3.n2 f3.c2]
structure PrIn (C:Mem)(uL kL uR kR:Value)(f0 f1 f2 f3:FV)(q:Qn):Prop where
 ul:Sl C 1 uL (q.l.map ivU)
 ur:Sl C 1 uR (q.r.map ivU)
 kl:FrL C kL (q.l.map Iv.thick)
 kr:FrL C kR (q.r.map Iv.thick)
 c0:FrC C (.agg ⟨f0.enc⟩) q.c0
 c1:FrC C (.agg ⟨f1.enc⟩) q.c1
 c2:FrC C (.agg ⟨f2.enc⟩) q.c2
 c3:FrC C (.agg ⟨f3.enc⟩) q.c3
theorem PrIn.mono {C D:Mem}{uL kL uR kR:Value}{f0 f1 f2 f3:FV}{q:Qn}(h:PrIn C uL kL uR kR f0 f1 f2 f3 q)(hl:C.le D):PrIn D uL kL uR kR f0 f1 f2 f3 q :=
 ⟨h.ul.mono hl,h.ur.mono hl,h.kl.mono hl,h.kr.mono hl,FrC.mono h.c0 hl,FrC.mono h.c1 hl,FrC.mono h.c2 hl,FrC.mono h.c3 hl⟩
def folB (q:Qn)(k i j:Nat):Bool:=q.al.ok k i j && decide (i<=q.l.length) && decide (j<=q.r.length)
def FolR (q:Qn)(k i j:Nat)(u:Value)(D:Mem):Prop:=∃ (a b:Nat)(x:FV),u=.tuple #[.int .i64 a,.int .i64 b,.agg ⟨x.enc⟩,.bool (folB q k i j)]/\(folB q k i j=true->(a,b)=nx k i j/\FrC D (.agg ⟨x.enc⟩) (q.cost k i j))
theorem thk_at {C:Mem}{l:List Iv}{xs:List FV}(h:RowsF C xs (l.map Iv.thick)){i:Nat}(hi:i<l.length):∃ x:FV,(xs.map FV.enc)[((i:Nat):Int).toNat]?=some x.enc/\FrC C (.agg ⟨x.enc⟩) (ivAt l i).thick:=by
 have hl:i<xs.length:=by rw [h.1,List.length_map];exact hi
 refine ⟨xs[i],by rw [Int.toNat_natCast,List.getElem?_map,List.getElem?_eq_getElem hl];rfl, ?_⟩
 refine h.2 i _ _ (List.getElem?_eq_getElem hl) ?_
 rw [List.getElem?_map,List.getElem?_eq_getElem hi,db (List.getElem?_eq_getElem hi)];rfl
theorem un_at {l:List Iv}{i:Nat}(hi:i<l.length):(l.map ivU)[((i:Nat):Int).toNat]?=some [strV (ivAt l i).u]:=by
 rw [Int.toNat_natCast,List.getElem?_map,List.getElem?_eq_getElem hi,db (List.getElem?_eq_getElem hi)];rfl
def absV (x:FV):FV:=⟨false,x.A,x.n,x.c,x.A2,x.n2,x.c2⟩
theorem abs_fr {C:Mem}{x:FV}{q:Rat}(h:FrC C (.agg ⟨x.enc⟩) q):FrC C (.agg ⟨(absV x).enc⟩) (absQ q):=by
 obtain ⟨u,w,e,h1,h2⟩:=h
 unfold encF FV.enc at e
 simp only [Value.agg.injEq,Array.mk.injEq,List.cons.injEq] at e
 have hd:(absQ q).den=q.den:=by unfold absQ;split <;> rfl
 have hn:(absQ q).num.natAbs=q.num.natAbs:=by unfold absQ;split;rfl;rw [Rat.neg_num];omega
 have hs:decide ((absQ q).num<0)=false:=by
  refine decide_eq_false ?_
  have h0:0<=absQ q:=by unfold absQ;split;assumption;grind
  have:=Rat.num_nonneg.2 h0
  omega
 refine ⟨u,w, ?_,by rw [hn];exact h1,by rw [hd];exact h2⟩
 rw [hs]
 unfold encF FV.enc absV
 simp only [e.2.1,e.2.2.1]
theorem fol_off {q:Qn}{k i j:Nat}(h:q.l.length<(nx k i j).1∨q.r.length<(nx k i j).2):folB q k i j=false:=by
 cases hb:folB q k i j with
 | false=>rfl
 | true =>
  unfold folB at hb
  simp only [Bool.and_eq_true,decide_eq_true_eq] at hb
  have h1:=(Al.ok_nx (A:=q.al) hb.1.2 hb.2 hb.1.1).1
  have h2:(nx k i j).1<=q.l.length/\(nx k i j).2<=q.r.length:=h1
  omega
theorem fol_kind {q:Qn}{k i j:Nat}(h:k<1∨5<k):folB q k i j=false:=by
 cases hb:folB q k i j with
 | false=>rfl
 | true =>
  unfold folB at hb
  simp only [Bool.and_eq_true,decide_eq_true_eq] at hb
  have h1:=hb.1.1
  unfold Al.ok Qn.al at h1
  simp only [Bool.or_eq_true,Bool.and_eq_true,beq_iff_eq,decide_eq_true_eq] at h1
  omega
def fv0:FV:=⟨false,none,0,0,none,0,0⟩
theorem follow_fn (C:Mem)(uL kL uR kR:Value)(f0 f1 f2 f3:FV)(q:Qn)(ok:q.Ok)(hp:PrIn C uL kL uR kR f0 f1 f2 f3 q)(k i j:Nat)(hk:k<=1000)(hi:i<=1000)(hj:j<=1000) :
  Pur cx.P 32 [.agg ⟨prC uL kL uR kR f0 f1 f2 f3⟩,stepV k i j] C (FolR q k i j):=by
 obtain ⟨AL,cL,rfl,_⟩:=id hp.ul
 obtain ⟨AR,cR,rfl,_⟩:=id hp.ur
 obtain ⟨AK,cK,rfl⟩:=hp.kl.form
 obtain ⟨AM,cM,rfl⟩:=hp.kr.form
 obtain ⟨xl,hxl,hxlr⟩:=id hp.kl
 obtain ⟨xr,hxr,hxrr⟩:=id hp.kr
 simp only [List.length_map] at hp hxl hxr ⊢
 have hln:=ok.ln
 have hrn:=ok.rn
 refine Fn.it kr_ Tryz.func32 172 fun w0=>?_
 refine G.rg fun R hR=>?_
 refine D.aM (fun b2=>?_)
 refine D.aM (fun b3=>?_)
 refine D.ps 2 ?_
 refine D.aj (fun b6=>?_)
 refine D.q3 1 2 3 6 hR ?_;clear hR R
 refine G.freeze 2 rfl (fun C2 hle2 hb2=>?_)
 refine G.freeze 1 rfl (fun C3 hle3 hb3=>?_)
 refine G.aI [0,1,2,3,4,5] [] rfl kr_ (fun R hB hR=>?_)
 refine D.ae ?_
 refine D.aa (bkT hb3 1) ?_
 refine D.ae ?_
 refine D.aa (bkT hb3 1) ?_
 refine D.ps 2 ?_
 refine D.e5 2 3 4 5 6 hR ?_;clear hR hB R
 refine G.rp 5 fun R hR=>?_
 refine D.ar ?_
 refine D.e6 2 3 4 5 6 20 hR ?_;clear hR R
 refine G.cd (fun h20=>?_) fun h20=>?_
 ·exact absurd h20 (by rw [decide_eq_false om_,decide_eq_false om_];decide)
 ·refine G.rp 1 fun R hR=>?_
  refine D.aa (bkT hb3 1) ?_
  refine D.e6 2 3 4 5 6 23 hR ?_;clear hR R
  refine G.z7 2 2 3 4 5 6 23 25 ?_
  refine G.bH (fun fr C' L' μ=>(1<=k/\k<=5)/\fr=[(2,[],.pointer (some ⟨b2,0,none⟩)),(3,[],.pointer (some ⟨b3,0,none⟩)),(4,[],.int .i64 ((nx k i j).1:Nat)),(5,[],.int .i64 ((nx k i j).2:Nat)),(6,[],.pointer (some ⟨b6,0,none⟩))]/\L'=[.obj b6 (.cells ⟨fv0.enc⟩ 95 (0,0))]) ?_ (fun fr C25 L25 μ hle25 hI=>?_)
  ·refine G.cd (fun h25=>?_) fun h25=>?_
   ·obtain rfl:k=1:=by simp only [beq_iff_eq] at h25;omega
    refine G.rp 1 fun R hR=>?_
    refine D.ax _ ?_
    refine D.ae ?_
    refine D.ax _ ?_
    refine D.q5 2 2 3 4 5 6 hR ?_;clear hR R
    refine G.ay 0 (Mem.le.refl _) (h_5 2 3 4 5 6) ⟨⟨by omega,by omega⟩,rfl,rfl⟩
   ·have hk1:k≠1:=by simp only [beq_eq_false_iff_ne] at h25;omega
    refine G.z7 2 2 3 4 5 6 23 31 ?_
    refine G.bH (fun fr C' L' μ=>(True)/\fr=[(2,[],.pointer (some ⟨b2,0,none⟩)),(3,[],.pointer (some ⟨b3,0,none⟩)),(4,[],.int .i64 i),(5,[],.int .i64 j),(6,[],.pointer (some ⟨b6,0,none⟩)),(23,[],.int .i64 k),(31,[],.bool (((k:Int) == 2) || ((k:Int) == 4)))]/\L'=[.obj b6 (.cells ⟨fv0.enc⟩ 95 (0,0))]) ?_ (fun fr C31 L31 μ hle31 hI=>?_)
    ·refine G.cd (fun h31=>?_) fun h31=>?_
     ·refine G.ay 0 (Mem.le.refl _) (h_7 2 3 4 5 6 23 31) ⟨trivial,by rw [show ((k:Int) == 2)=true from h31];rfl,rfl⟩
     ·refine G.z7 2 2 3 4 5 6 23 31 ?_
      refine G.ay 0 (Mem.le.refl _) (h_7 2 3 4 5 6 23 31) ⟨trivial,by rw [show ((k:Int) == 2)=false from h31];rfl,rfl⟩
    ·obtain ⟨_,rfl,rfl⟩:=hI
     refine G.cd (fun h31b=>?_) fun h31b=>?_
     ·have hk24:k=2∨k=4:=by simp only [Bool.or_eq_true,beq_iff_eq] at h31b;omega
      have hnx:nx k i j=(i+1,j):=by rcases hk24 with rfl | rfl <;> rfl
      refine G.rp 1 fun R hR=>?_
      refine D.ax _ ?_
      refine D.q5 1 2 3 4 5 6 hR ?_;clear hR R
      refine G.ay 0 mup (h_5 2 3 4 5 6) ⟨⟨by omega,by omega⟩,by rw [hnx];rfl,rfl⟩
     ·have hk24:k≠2/\k≠4:=by simp only [Bool.or_eq_false_iff,beq_eq_false_iff_ne] at h31b;omega
      refine G.z7 2 2 3 4 5 6 23 36 ?_
      refine G.bH (fun fr C' L' μ=>(True)/\fr=[(2,[],.pointer (some ⟨b2,0,none⟩)),(3,[],.pointer (some ⟨b3,0,none⟩)),(4,[],.int .i64 i),(5,[],.int .i64 j),(6,[],.pointer (some ⟨b6,0,none⟩)),(36,[],.bool (((k:Int) == 3) || ((k:Int) == 5)))]/\L'=[.obj b6 (.cells ⟨fv0.enc⟩ 95 (0,0))]) ?_ (fun fr C36 L36 μ hle36 hI=>?_)
      ·refine G.cd (fun h36=>?_) fun h36=>?_
       ·refine G.ay 0 (Mem.le.refl _) (h_6 2 3 4 5 6 36) ⟨trivial,by rw [show ((k:Int) == 3)=true from h36];rfl,rfl⟩
       ·refine G.z6 2 2 3 4 5 6 36 ?_
        refine G.ay 0 (Mem.le.refl _) (h_6 2 3 4 5 6 36) ⟨trivial,by rw [show ((k:Int) == 3)=false from h36];rfl,rfl⟩
      ·obtain ⟨_,rfl,rfl⟩:=hI
       refine G.cd (fun h36b=>?_) fun h36b=>?_
       ·have hk35:k=3∨k=5:=by simp only [Bool.or_eq_true,beq_iff_eq] at h36b;omega
        have hnx:nx k i j=(i,j+1):=by rcases hk35 with rfl | rfl <;> rfl
        refine G.rp 1 fun R hR=>?_
        refine D.ax _ ?_
        refine D.q5 1 2 3 4 5 6 hR ?_;clear hR R
        refine G.ay 0 mup (h_5 2 3 4 5 6) ⟨⟨by omega,by omega⟩,by rw [hnx];rfl,rfl⟩
       ·have hf:folB q k i j=false:=fol_kind (by simp only [Bool.or_eq_false_iff,beq_eq_false_iff_ne] at h36b;omega)
        refine G.rg fun R hR=>?_
        refine D.build ([.bool false,.slice none 0 0,.slice none 0 0]) rfl rfl rfl rfl rfl rfl rfl rfl ?_
        refine D.ps 2 ?_
        refine D.ac (j:=0) ?_
        refine D.q4 1 4 5 6 7 hR ?_;clear hR R
        refine G.aA (G.dF (.head _) rfl rfl rfl rfl rfl rfl rfl ?_)
        exact ⟨rfl,0,0,fv0,by rw [hf];rfl,fun h=>by rw [hf] at h;cases h⟩
  ·obtain ⟨hk15,rfl,rfl⟩:=hI
   refine G.rp 3 fun R hR=>?_
   refine D.aa (bkT hb2 1) ?_
   refine D.ps 6 ?_
   refine D.aD rfl rfl rfl rfl rfl rfl (fun _=>PtrTo.blockT (Mem.get hb2 mup) _ 1) rfl rfl rfl ?_
   refine D.ps 2 ?_
   refine D.ar ?_
   refine D.e6 2 3 4 5 6 54 hR ?_;clear hR R
   refine G.cd (fun h54=>?_) fun h54=>?_
   ·have hf:folB q k i j=false:=fol_off (by simp only [Bool.or_eq_true,decide_eq_true_eq] at h54;omega)
    refine G.rg fun R hR=>?_
    refine D.build ([.bool false,.slice none 0 0,.slice none 0 0]) rfl rfl rfl rfl rfl rfl rfl rfl ?_
    refine D.ps 2 ?_
    refine D.ac (j:=0) ?_
    refine D.q4 1 4 5 6 7 hR ?_;clear hR R
    refine G.aA (G.dF (.head _) rfl rfl rfl rfl rfl rfl rfl ?_)
    exact ⟨rfl,0,0,fv0,by rw [hf];rfl,fun h=>by rw [hf] at h;cases h⟩
   ·have hb:(nx k i j).1<=q.l.length/\(nx k i j).2<=q.r.length:=by simp only [Bool.or_eq_false_iff,decide_eq_false_iff_not] at h54;omega
    refine G.rp 1 fun R hR=>?_
    refine D.aa (bkT hb3 1) ?_
    refine D.e6 2 3 4 5 6 57 hR ?_;clear hR R
    refine G.z7 2 2 3 4 5 6 57 58 ?_
    refine G.cd (fun h58=>?_) fun h58=>?_
    ·obtain rfl:k=2:=by simp only [beq_iff_eq] at h58;omega
     have hb':i+1<=q.l.length/\j<=q.r.length:=hb
     have hil:i<q.l.length:=by omega
     have hx:=iv_ok ok.l hil
     obtain ⟨fi,hfi2,hfi⟩:=thk_at hxlr hil
     have hf:folB q 2 i j=true:=by unfold folB;rw [Al.ok2 (A:=q.al) hil,decide_eq_true om_,decide_eq_true om_];rfl
     refine G.aI [0,1,2,3,4,5,6,7,8,9,10,11,12,13,14,15] [] rfl kr_ (fun R hB hR=>?_)
     refine D.ps 3 ?_
     refine D.aa (bkT hb2 3) ?_
     refine D.ps 2 ?_
     refine D.aa (bkT hb2 1) ?_
     refine D.ae ?_
     refine D.aa (bkT hb3 1) ?_
     refine D.ai (hxl.mono mup) rfl rfl rfl rfl rfl rfl rfl rfl rfl rfl om_ hfi2 fl_ (fun p69 hp69=>?_)
     refine D.aa hp69 ?_
     refine D.ap (fmul_fn (FrC.mono hp.c2 mup) (FrC.mono hfi mup) (cE ok.c2.qb) (cE hx.qt) (by decide)) rfl rfl rfl rfl rfl rfl rfl fl_ (fun v71 C71 hle71 hq71=>?_)
     obtain ⟨xc,rfl⟩:=hq71.fv
     refine D.ps 2 ?_
     refine D.ac (j:=0) ?_
     refine D.ae ?_
     refine D.e4 4 5 6 7 hR ?_;clear hR hB R
     refine G.aA (G.dF (.head _) rfl rfl rfl rfl rfl rfl rfl ?_)
     exact ⟨rfl,i+1,j,xc,by rw [hf];rfl,fun _=>⟨rfl,FrC.mono hq71 mup⟩⟩
    ·have hk2:k≠2:=by simp only [beq_eq_false_iff_ne] at h58;omega
     refine G.z7 2 2 3 4 5 6 57 72 ?_
     refine G.cd (fun h72=>?_) fun h72=>?_
     ·obtain rfl:k=3:=by simp only [beq_iff_eq] at h72;omega
      have hb':i<=q.l.length/\j+1<=q.r.length:=hb
      have hjl:j<q.r.length:=by omega
      have hx:=iv_ok ok.r hjl
      obtain ⟨fi,hfi2,hfi⟩:=thk_at hxrr hjl
      have hf:folB q 3 i j=true:=by unfold folB;rw [Al.ok3 (A:=q.al) hjl,decide_eq_true om_,decide_eq_true om_];rfl
      refine G.aI [0,1,2,3,4,5,6,7,8,9,10,11,12,13,14,15] [] rfl kr_ (fun R hB hR=>?_)
      refine D.ps 3 ?_
      refine D.aa (bkT hb2 3) ?_
      refine D.ps 2 ?_
      refine D.aa (bkT hb2 1) ?_
      refine D.ae ?_
      refine D.aa (bkT hb3 1) ?_
      refine D.ai (hxr.mono mup) rfl rfl rfl rfl rfl rfl rfl rfl rfl rfl om_ hfi2 fl_ (fun p83 hp83=>?_)
      refine D.aa hp83 ?_
      refine D.ap (fmul_fn (FrC.mono hp.c2 mup) (FrC.mono hfi mup) (cE ok.c2.qb) (cE hx.qt) (by decide)) rfl rfl rfl rfl rfl rfl rfl fl_ (fun v85 C85 hle85 hq85=>?_)
      obtain ⟨xc,rfl⟩:=hq85.fv
      refine D.ps 2 ?_
      refine D.ac (j:=0) ?_
      refine D.ae ?_
      refine D.e4 4 5 6 7 hR ?_;clear hR hB R
      refine G.aA (G.dF (.head _) rfl rfl rfl rfl rfl rfl rfl ?_)
      exact ⟨rfl,i,j+1,xc,by rw [hf];rfl,fun _=>⟨rfl,FrC.mono hq85 mup⟩⟩
     ·have hk3:k≠3:=by simp only [beq_eq_false_iff_ne] at h72;omega
      refine G.z7 2 2 3 4 5 6 57 86 ?_
      refine G.cd (fun h86=>?_) fun h86=>?_
      ·obtain rfl:k=4:=by simp only [beq_iff_eq] at h86;omega
       have hb':i+1<=q.l.length/\j<=q.r.length:=hb
       have hil:i<q.l.length:=by omega
       have hx:=iv_ok ok.l hil
       obtain ⟨fi,hfi2,hfi⟩:=thk_at hxlr hil
       have hf:folB q 4 i j=repB q.l i:=by unfold folB Al.ok Qn.al;simp only;rw [decide_eq_true hil,decide_eq_true (show i<=q.l.length by omega),decide_eq_true (show j<=q.r.length by omega)];simp
       refine G.aI [0,1,2,3,4,5,6,7,8,9,10,12,13,14,15,11,16,17,18,19,20] [(16,1)] rfl kr_ (fun R hB hR=>?_)
       refine D.ps 3 ?_
       refine D.aa (bkT hb2 3) ?_
       refine D.ps 2 ?_
       refine D.aa (bkT hb2 1) ?_
       refine D.ae ?_
       refine D.aa (bkT hb3 1) ?_
       refine D.ai (hxl.mono mup) rfl rfl rfl rfl rfl rfl rfl rfl rfl rfl om_ hfi2 fl_ (fun p97 hp97=>?_)
       refine D.aa hp97 ?_
       refine D.ae ?_
       refine D.aa (bkT hb2 2) ?_
       refine D.ae ?_
       refine D.aa (bkT hb3 1) ?_
       refine D.ap (fmul_fn (FrC.mono hp.c3 mup) (FrC.mono hfi mup) (cE ok.c3.qb) (cE hx.qt) (by decide)) rfl rfl rfl rfl rfl rfl rfl fl_ (fun v99 C99 hle99 hq99=>?_)
       obtain ⟨xc,rfl⟩:=hq99.fv
       refine D.aU (fun _=>(krepeats_fn _ _ _ q.l i (hp.ul.mono mup) om_ hil)) rfl rfl rfl rfl rfl rfl rfl rfl rfl ?_
       refine D.ps 2 ?_
       refine D.ac (j:=0) ?_
       refine D.ae ?_
       refine D.e4 4 5 6 7 hR ?_;clear hR hB R
       refine G.aA (G.dF (.head _) rfl rfl rfl rfl rfl rfl rfl ?_)
       exact ⟨rfl,i+1,j,xc,by rw [hf];rfl,fun _=>⟨rfl,FrC.mono hq99 mup⟩⟩
      ·have hk4:k≠4:=by simp only [beq_eq_false_iff_ne] at h86;omega
       refine G.z6 2 2 3 4 5 6 105 ?_
       refine G.cd (fun h105=>?_) fun h105=>?_
       ·obtain rfl:k=5:=by simp only [beq_iff_eq] at h105;omega
        have hb':i<=q.l.length/\j+1<=q.r.length:=hb
        have hjl:j<q.r.length:=by omega
        have hx:=iv_ok ok.r hjl
        obtain ⟨fi,hfi2,hfi⟩:=thk_at hxrr hjl
        have hf:folB q 5 i j=repB q.r j:=by unfold folB Al.ok Qn.al;simp only;rw [decide_eq_true hjl,decide_eq_true (show i<=q.l.length by omega),decide_eq_true (show j<=q.r.length by omega)];simp
        refine G.aI [0,1,2,3,4,5,6,7,8,9,10,12,13,14,15,11,16,17,18,19,20] [(16,1)] rfl kr_ (fun R hB hR=>?_)
        refine D.ps 3 ?_
        refine D.aa (bkT hb2 3) ?_
        refine D.ps 2 ?_
        refine D.aa (bkT hb2 1) ?_
        refine D.ae ?_
        refine D.aa (bkT hb3 1) ?_
        refine D.ai (hxr.mono mup) rfl rfl rfl rfl rfl rfl rfl rfl rfl rfl om_ hfi2 fl_ (fun p116 hp116=>?_)
        refine D.aa hp116 ?_
        refine D.ae ?_
        refine D.aa (bkT hb2 2) ?_
        refine D.ae ?_
        refine D.aa (bkT hb3 1) ?_
        refine D.ap (fmul_fn (FrC.mono hp.c3 mup) (FrC.mono hfi mup) (cE ok.c3.qb) (cE hx.qt) (by decide)) rfl rfl rfl rfl rfl rfl rfl fl_ (fun v118 C118 hle118 hq118=>?_)
        obtain ⟨xc,rfl⟩:=hq118.fv
        refine D.aU (fun _=>(krepeats_fn _ _ _ q.r j (hp.ur.mono mup) om_ hjl)) rfl rfl rfl rfl rfl rfl rfl rfl rfl ?_
        refine D.ps 2 ?_
        refine D.ac (j:=0) ?_
        refine D.ae ?_
        refine D.e4 4 5 6 7 hR ?_;clear hR hB R
        refine G.aA (G.dF (.head _) rfl rfl rfl rfl rfl rfl rfl ?_)
        exact ⟨rfl,i,j+1,xc,by rw [hf];rfl,fun _=>⟨rfl,FrC.mono hq118 mup⟩⟩
       ·obtain rfl:k=1:=by simp only [beq_eq_false_iff_ne] at h105;omega
        have hb':i+1<=q.l.length/\j+1<=q.r.length:=hb
        have hil:i<q.l.length:=by omega
        have hjl:j<q.r.length:=by omega
        have hx:=iv_ok ok.l hil
        have hy:=iv_ok ok.r hjl
        obtain ⟨fi,hfi2,hfi⟩:=thk_at hxlr hil
        obtain ⟨fj,hfj2,hfj⟩:=thk_at hxrr hjl
        have hf:folB q 1 i j=true:=by unfold folB Al.ok Qn.al;simp only;rw [decide_eq_true hil,decide_eq_true hjl,decide_eq_true (show i<=q.l.length by omega),decide_eq_true (show j<=q.r.length by omega)];simp
        have hd:=(hx.th.1.sub hy.th.1)
        have hd3:=abs_le3 hx.th.2 hy.th.2
        have hab:=abs_hf hd
        have hs:=hx.th.1.add hy.th.1
        have m1:=eu ok.c0 hab hd3.1 (by have:=hd3.2;grind)
        have m2:=eu ok.c1 hs (by have:=hx.th.2.1;have:=hy.th.2.1;grind) (by have:=hx.th.2.2;have:=hy.th.2.2;grind)
        have qd:QB 1 ((ivAt q.l i).thick-(ivAt q.r j).thick):=hd.qu.qb2 (by have:=hx.th.2;have:=hy.th.2;grind) (by have:=hx.th.2;have:=hy.th.2;grind)
        have qa:QB 1 (absQ ((ivAt q.l i).thick-(ivAt q.r j).thick)):=hab.qu.qb2 (by have:=hd3;grind) (by have:=hd3;grind)
        have qs:QB 1 ((ivAt q.l i).thick+(ivAt q.r j).thick):=hs.qu.qb2 (by have:=hx.th.2;have:=hy.th.2;grind) (by have:=hx.th.2;have:=hy.th.2;grind)
        have q1:=m1.1.qb2 (by have:=m1.2;grind) (by have:=m1.2;grind)
        have q2:=m2.1.qb2 (by have:=m2.2;grind) (by have:=m2.2;grind)
        refine G.eA (.cut [0,1,2,3,4,5,6,7,8,9,10,11,12,13] (.alt 14 (.fin [15,16,17]) (.alt 15 (.fin [14,16,17]) .stop))) [(2,0),(4,0),(6,0),(9,0),(11,0),(13,0)] rfl rfl kr_ (fun R hB hR hH=>?_)
        refine G.share2 hR (fun b8 b9=>[(2,[],.pointer (some ⟨b2,0,none⟩)),(3,[],.pointer (some ⟨b3,0,none⟩)),(4,[],.int .i64 ((nx 1 i j).1:Nat)),(5,[],.int .i64 ((nx 1 i j).2:Nat)),(6,[],.pointer (some ⟨b6,0,none⟩)),(8,[],.pointer (some ⟨b8,0,none⟩)),(9,[],.pointer (some ⟨b9,0,none⟩))]) (fun b8 b9=>[.obj b8 (.cells ⟨fi.enc⟩ 95 (0,0)),.obj b9 (.cells ⟨fj.enc⟩ 95 (0,0)),.obj b6 (.cells ⟨fv0.enc⟩ 95 (0,0))]) (fun hc=>?_) (fun b8 b9=>?_)
        ·refine D.ps 2 ?_
         refine D.cO (fun _=>((bkT hb2 1).mono hB)) rfl rfl rfl rfl rfl rfl rfl rfl rfl ?_
         refine D.ae ?_
         refine D.cO (fun _=>((bkT hb3 1).mono hB)) rfl rfl rfl rfl rfl rfl rfl rfl rfl ?_
         refine D.ai (hxl.mono mup) rfl rfl rfl rfl rfl rfl rfl rfl rfl rfl om_ hfi2 fl_ (fun p129 hp129=>?_)
         refine D.cO (fun _=>(hp129.mono hB)) rfl rfl rfl rfl rfl rfl rfl rfl rfl ?_
         refine D.ps 2 ?_
         refine D.cO (fun _=>((bkT hb2 1).mono hB)) rfl rfl rfl rfl rfl rfl rfl rfl rfl ?_
         refine D.ae ?_
         refine D.cO (fun _=>((bkT hb3 1).mono hB)) rfl rfl rfl rfl rfl rfl rfl rfl rfl ?_
         refine D.ai (hxr.mono mup) rfl rfl rfl rfl rfl rfl rfl rfl rfl rfl om_ hfj2 fl_ (fun p136 hp136=>?_)
         refine D.cO (fun _=>(hp136.mono hB)) rfl rfl rfl rfl rfl rfl rfl rfl rfl ?_
         refine D.az hH rfl ⟨?_, ?_,trivial⟩
         ·refine D.aj (fun b8=>?_)
          refine D.aj (fun b9=>?_)
          refine D.ac (j:=1) ?_
          refine D.ac (j:=1) ?_
          exact D.done [(2,[],_),(3,[],_),(4,[],_),(5,[],_),(6,[],_),(8,[],_),(9,[],_)] ⟨rfl,rfl,rfl,rfl,rfl,rfl,rfl,trivial⟩ (hR _ _ _ rfl (G.perm _ ((af (j:=1) rfl).trans (List.Perm.cons _ (List.Perm.refl _))) (hc b8 b9)))
         ·refine D.aj (fun b9=>?_)
          refine D.aj (fun b8=>?_)
          refine D.ac (j:=0) ?_
          refine D.ac (j:=1) ?_
          exact D.done [(2,[],_),(3,[],_),(4,[],_),(5,[],_),(6,[],_),(8,[],_),(9,[],_)] ⟨rfl,rfl,rfl,rfl,rfl,rfl,rfl,trivial⟩ (hR _ _ _ rfl (G.perm _ ((af (j:=1) rfl).trans (List.Perm.cons _ (List.Perm.refl _))) (hc b8 b9)))
        clear hR hH hB R
        refine G.freeze 1 rfl (fun C9 hle9 hb9=>?_)
        refine G.freeze 0 rfl (fun C8 hle8 hb8=>?_)
        refine G.rg fun R hR=>?_
        refine D.aa (bkT hb8 3) ?_
        refine D.aa (bkT hb9 3) ?_
        refine D.ap (fsub_fn (FrC.mono hfi mup) (FrC.mono hfj mup) (cE hx.qt) (cE hy.qt) (by decide)) rfl rfl rfl rfl rfl rfl rfl fl_ (fun v140 C140 hle140 hq140=>?_)
        obtain ⟨x10,rfl⟩:=hq140.fv
        refine D.aj (fun b10=>?_)
        refine D.ac (j:=0) ?_
        refine D.e8 2 3 4 5 6 8 9 10 hR ?_;clear hR R
        refine G.rp 1 fun R hR=>?_
        refine D.ac (j:=0) ?_
        refine D.e8 2 3 4 5 6 8 9 10 hR ?_;clear hR R
        refine G.bv (L':=[.obj b10 (.cells ⟨(absV x10).enc⟩ 95 (0,0)),.obj b6 (.cells ⟨fv0.enc⟩ 95 (0,0))]) rfl ?_
        refine G.freeze 0 rfl (fun C10 hle10 hb10=>?_)
        refine G.rp 1 fun R hR=>?_
        refine D.aa (bkT hb2 3) ?_
        refine D.aa (bkT hb10 3) ?_
        refine D.ap (fmul_fn (FrC.mono hp.c0 mup) (FrC.mono (abs_fr hq140) mup) (cE ok.c0.qb) (cE qa) (by decide)) rfl rfl rfl rfl rfl rfl rfl fl_ (fun v145 C145 hle145 hq145=>?_)
        obtain ⟨xc,rfl⟩:=hq145.fv
        refine D.ac (j:=0) ?_
        refine D.e7 2 3 4 5 6 8 9 hR ?_;clear hR R
        refine G.aI [0,1,2,3,4,5,6,7,8,9,10,11,12,13,14] [] rfl kr_ (fun R hB hR=>?_)
        refine D.ps 2 ?_
        refine D.aa (bkT hb2 1) ?_
        refine D.ae ?_
        refine D.aa (bkT hb3 1) ?_
        refine D.ai (hp.ul.mono mup) rfl rfl rfl rfl rfl rfl rfl rfl rfl rfl om_ (un_at hil) fl_ (fun p151 hp151=>?_)
        refine D.aa hp151 ?_
        refine D.ps 2 ?_
        refine D.aa (bkT hb2 1) ?_
        refine D.ae ?_
        refine D.aa (bkT hb3 1) ?_
        refine D.ai (hp.ur.mono mup) rfl rfl rfl rfl rfl rfl rfl rfl rfl rfl om_ (un_at hjl) fl_ (fun p158 hp158=>?_)
        refine D.aa hp158 ?_
        refine D.ae ?_
        refine D.e7 2 4 5 6 8 9 160 hR ?_;clear hR hB R
        refine G.cd (fun h160=>?_) fun h160=>?_
        ·refine G.aI [0,1,2,3,4,5,6,7,8] [] rfl kr_ (fun R hB hR=>?_)
         refine D.ag (.head _) ?_
         refine D.ae ?_
         refine D.aa (bkT hb2 3) ?_
         refine D.aa (bkT hb8 3) ?_
         refine D.aa (bkT hb9 3) ?_
         refine D.ap (fadd_fn (FrC.mono hfi mup) (FrC.mono hfj mup) (cE hx.qt) (cE hy.qt) (by decide)) rfl rfl rfl rfl rfl rfl rfl fl_ (fun v166 C166 hle166 hq166=>?_)
         refine D.ap (fmul_fn (FrC.mono hp.c1 mup) (FrC.mono hq166 mup) (cE ok.c1.qb) (cE qs) (by decide)) rfl rfl rfl rfl rfl rfl rfl fl_ (fun v167 C167 hle167 hq167=>?_)
         refine D.ap (fadd_fn (FrC.mono hq145 mup) (FrC.mono hq167 mup) (cE q1) (cE q2) (by decide)) rfl rfl rfl rfl rfl rfl rfl fl_ (fun v168 C168 hle168 hq168=>?_)
         obtain ⟨xe,rfl⟩:=hq168.fv
         refine D.ac (j:=0) ?_
         refine D.e3 4 5 6 hR ?_;clear hR hB R
         refine G.aI [0,1,2,3,4,5,6] [] rfl kr_ (fun R hB hR=>?_)
         refine D.ps 2 ?_
         refine D.ag (.head _) ?_
         refine D.ps 2 ?_
         refine D.ac (j:=0) ?_
         refine D.ae ?_
         refine D.e4 4 5 6 7 hR ?_;clear hR hB R
         refine G.aA (G.dF (.head _) rfl rfl rfl rfl rfl rfl rfl ?_)
         refine ⟨rfl,i+1,j+1,xe,by rw [hf];rfl,fun _=>⟨rfl, ?_⟩⟩
         have hu:¬ (ivAt q.l i).u=(ivAt q.r j).u:=by simpa using h160
         have h:=FrC.mono hq168 (show C168.le _ by (repeat (first | exact Mem.le.refl _ | assumption | (apply Mem.le.trans;rotate_left;assumption))))
         unfold Qn.cost
         rw [if_pos rfl,if_neg hu]
         exact h
        ·refine G.aI [0,1,2,3,4,5,6] [] rfl kr_ (fun R hB hR=>?_)
         refine D.ps 2 ?_
         refine D.ag (.head _) ?_
         refine D.ps 2 ?_
         refine D.ac (j:=0) ?_
         refine D.ae ?_
         refine D.e4 4 5 6 7 hR ?_;clear hR hB R
         refine G.aA (G.dF (.head _) rfl rfl rfl rfl rfl rfl rfl ?_)
         refine ⟨rfl,i+1,j+1,xc,by rw [hf];rfl,fun _=>⟨rfl, ?_⟩⟩
         have hu:(ivAt q.l i).u=(ivAt q.r j).u:=by simpa using h160
         have h:=FrC.mono hq145 (show C145.le _ by (repeat (first | exact Mem.le.refl _ | assumption | (apply Mem.le.trans;rotate_left;assumption))))
         unfold Qn.cost
         rw [if_pos rfl,if_pos hu,Rat.add_zero]
         exact h
open Go Go.Jog Go.Jog.Dp
set_option maxRecDepth 100000

abbrev somM (fs:List (List Rat)):List (List (Option Rat)):=fs.map (·.map some)
instance:Inhabited FV:=⟨fv0⟩
theorem purFV {f:FuncId}{args:List Value}{C:Mem}{q:Rat}(h:Pur cx.P f args C fun r D=>FrC D r q):Pur cx.P f args C fun v D=>∃ x:FV,v=.agg ⟨x.enc⟩/\FrC D (.agg ⟨x.enc⟩) q :=
 h.mono fun v D _ _ ⟨h1,h2⟩=>⟨h1,by obtain ⟨x,rfl⟩:=FrC.fv h2;exact ⟨x,rfl,h2⟩⟩
theorem purUn {f:FuncId}{args:List Value}{C:Mem}{v0:Value}(h:Pur cx.P f args C fun r _=>r=v0):Pur cx.P f args C fun v _=>∃ _:Unit,v=v0/\True :=
 h.mono fun _ _ _ _ ⟨h1,h2⟩=>⟨h1,(),h2,trivial⟩
theorem val_at {fs:List (List Rat)}{i j:Nat}{f:List Rat}{q:Rat}(hi:fs[i]?=some f)(hj:f[j]?=some q):Dp.valP (somM fs) (i,j)=q:=by
 unfold Dp.valP atP
 simp only [List.getElem?_map,hi,Option.map_some,Option.getD_some,hj]
theorem sgn_pos {q:Rat}:sgn q > 0 ↔ 0<q:=by
 unfold sgn
 constructor
 ·intro h
  split at h
  ·omega
  ·split at h
   ·omega
   ·grind
 ·intro h
  rw [if_neg (by grind),if_neg (by grind)];decide
theorem falls_fn (C:Mem)(uL kL uR kR:Value)(f0 f1 f2 f3:FV)(q:Qn)(ok:q.Ok)(hp:PrIn C uL kL uR kR f0 f1 f2 f3 q)(vP:Value)(xs:List SV)(fs:List (List Rat))(hx:Sl C 1 vP (xs.map SV.enc))(hf:FrLL C xs fs)
  (hn:fs.length=q.l.length+1) (hm:∀ f∈fs,f.length=q.r.length+1) (hs:∀ f∈fs,∀ x∈f,SmQ 200 x) :
  Gives cx.P 36 [.agg ⟨prC uL kL uR kR f0 f1 f2 f3⟩,vP] C (.bool (q.al.fallsB (somM fs))):=by
 obtain ⟨AP,cP,rfl,_⟩:=id hx
 have hln:=ok.ln
 have hrn:=ok.rn
 have hxl:xs.length=fs.length:=hf.1
 simp only [List.length_map] at hx ⊢
 refine Fn.it kr_ Tryz.func36 63 fun w0=>?_
 refine G.rg fun R hR=>?_
 refine D.aM (fun b2=>?_)
 refine D.q2 1 1 2 hR ?_
 refine G.freeze 0 rfl (fun C2 hle2 hb2=>?_)
 refine G.z4 3 1 2 13 14 ?_
 refine G.loop (fun fr C' L' μ=>∃ (i:Nat),(i<=xs.length/\∀ i',i'<i->∀ j',j'<q.al.m+1->q.al.Fall (somM fs) i' j')/\fr=[(1,[],.slice AP xs.length cP),(2,[],.pointer (some ⟨b2,0,none⟩)),(13,[],.int .i64 xs.length),(14,[],.int .i64 i)]/\L'=[]/\μ=xs.length-i) (h_4 1 2 13 14) ⟨0,⟨Nat.zero_le _,fun _ h=>absurd h (Nat.not_lt_zero _)⟩,rfl,rfl,rfl⟩ (fun fr C0' L0' m hle0 hI=>?_)
 obtain ⟨i,⟨hi,hfall⟩,rfl,rfl,rfl⟩:=hI
 refine G.z5 1 1 2 13 14 15 ?_
 refine G.cd (fun h15=>?_) fun h15=>?_
 ·have hil:i<xs.length:=by have:=of_decide_eq_true h15;omega
  have hifl:i<fs.length:=by omega
  obtain ⟨xi,hxi⟩:∃ xi,xs[i]?=some xi:=⟨_,List.getElem?_eq_getElem hil⟩
  obtain ⟨fi,hfi⟩:∃ fi,fs[i]?=some fi:=⟨_,List.getElem?_eq_getElem hifl⟩
  have hri:=hf.2 i xi fi hxi hfi
  have hml:=hm fi (List.mem_of_getElem? hfi)
  obtain ⟨ys,hys,hysr⟩:=id hri
  obtain ⟨Ai,ci,hie,_⟩:=id hys
  have hyl:ys.length=fi.length:=hysr.1
  have hrow:(xs.map SV.enc)[((i:Nat):Int).toNat]?=some [.slice Ai ys.length ci]:=by rw [Int.toNat_natCast,List.getElem?_map,hxi];show some [Value.slice xi.A xi.n xi.c]=_;rw [hie,List.length_map]
  rw [hie,List.length_map] at hys
  refine G.z5 2 1 2 5 13 14 ?_
  refine G.rp 2 fun R hR=>?_
  refine D.ai (hx.mono mup) rfl rfl rfl rfl rfl rfl rfl rfl rfl rfl om_ hrow fl_ (fun p19 hp19=>?_)
  refine D.aa hp19 ?_
  refine D.q7 2 1 2 5 13 14 21 22 hR ?_
  refine G.loop (fun fr C' L' μ=>∃ (j:Nat),(j<=ys.length/\∀ j',j'<j->q.al.Fall (somM fs) i j')/\fr=[(1,[],.slice AP xs.length cP),(2,[],.pointer (some ⟨b2,0,none⟩)),(5,[],.int .i64 i),(13,[],.int .i64 xs.length),(14,[],.int .i64 i),(21,[],.int .i64 ys.length),(22,[],.int .i64 j)]/\L'=[]/\μ=ys.length-j) (h_7 1 2 5 13 14 21 22) ⟨0,⟨Nat.zero_le _,fun _ h=>absurd h (Nat.not_lt_zero _)⟩,rfl,rfl,rfl⟩ (fun fr C1' L1' m hle1 hI=>?_)
  obtain ⟨j,⟨hj,hfallj⟩,rfl,rfl,rfl⟩:=hI
  refine G.z8 1 1 2 5 13 14 21 22 23 ?_
  refine G.cd (fun h23=>?_) fun h23=>?_
  ·have hjl:j<ys.length:=by have:=of_decide_eq_true h23;omega
   have hin:i<=q.l.length:=by omega
   have hjn:j<=q.r.length:=by omega
   refine G.z8 2 1 2 5 6 13 14 21 22 ?_
   refine G.z9 1 1 2 5 6 7 13 14 21 22 ?_
   refine G.loop (fun fr C' L' μ=>∃ (kk:Nat),(1<=kk/\kk<=6/\∀ k,k<kk->q.al.ok k i j=true->Dp.valP (somM fs) (nx k i j)<=Dp.valP (somM fs) (i,j)+q.al.co k i j)/\fr=[(1,[],.slice AP xs.length cP),(2,[],.pointer (some ⟨b2,0,none⟩)),(5,[],.int .i64 i),(6,[],.int .i64 j),(7,[],.int .i64 kk),(13,[],.int .i64 xs.length),(14,[],.int .i64 i),(21,[],.int .i64 ys.length),(22,[],.int .i64 j)]/\L'=[]/\μ=6-kk) (h_9 1 2 5 6 7 13 14 21 22) ⟨1,⟨Nat.le_refl _,by omega,fun k hk h=>by (obtain rfl:k=0:=by omega);simp [Al.ok] at h⟩,rfl,rfl,rfl⟩ (fun fr C2' L2' m hle2 hI=>?_)
   obtain ⟨kk,⟨hk1,hk6,hfallk⟩,rfl,rfl,rfl⟩:=hI
   refine G.z10 2 1 2 5 6 7 13 14 21 22 26 ?_
   refine G.cd (fun h26=>?_) fun h26=>?_
   ·have hk5:kk<=5:=by have:=of_decide_eq_true h26;omega
    by_cases hok:folB q kk i j=true
    ·refine G.rg fun R hR=>?_
     refine D.aa (bkT hb2 16) ?_
     refine D.ps 3 ?_
     refine D.build (stepC kk i j) rfl rfl rfl rfl rfl rfl rfl rfl ?_
     refine D.ap (follow_fn _ _ _ _ _ _ _ _ _ q ok (hp.mono mup) kk i j om_ om_ om_) rfl rfl rfl rfl rfl rfl rfl fl_ (fun v35 C35 hle35 hq35=>?_)
     obtain ⟨a,b,xc,rfl,hfx⟩:=hq35
     refine D.ps 5 ?_
     refine D.aj (fun b10=>?_)
     refine D.ps 2 ?_
     refine D.ac (j:=0) ?_
     refine D.q13 1 1 2 5 6 7 8 9 10 11 13 14 21 22 hR ?_
     refine G.freeze 0 rfl (fun C10 hle10 hb10=>?_)
     obtain ⟨hnx,hfc⟩:=hfx hok
     rw [hok]
     have hko:q.al.ok kk i j=true:=by unfold folB at hok;simp only [Bool.and_eq_true] at hok;exact hok.1.1
     obtain ⟨⟨hna,hnb⟩,hnc⟩:=Al.ok_nx (A:=q.al) hin hjn hko
     rw [<- hnx] at hna hnb
     have hna':a<=q.l.length:=hna
     have hnb':b<=q.r.length:=hnb
     obtain ⟨xa,hxa⟩:∃ xa,xs[a]?=some xa:=⟨_,List.getElem?_eq_getElem om_⟩
     obtain ⟨fa,hfa⟩:∃ fa,fs[a]?=some fa:=⟨_,List.getElem?_eq_getElem om_⟩
     have hra:=hf.2 a xa fa hxa hfa
     have hma:=hm fa (List.mem_of_getElem? hfa)
     obtain ⟨za,hza,hzar⟩:=id hra
     have hzl:za.length=fa.length:=hzar.1
     have hrowa:(xs.map SV.enc)[((a:Nat):Int).toNat]?=some [.slice xa.A xa.n xa.c]:=by rw [Int.toNat_natCast,List.getElem?_map,hxa];rfl
     obtain ⟨zb,hzb⟩:∃ zb,za[b]?=some zb:=⟨_,List.getElem?_eq_getElem om_⟩
     obtain ⟨qb,hqb⟩:∃ qb,fa[b]?=some qb:=⟨_,List.getElem?_eq_getElem om_⟩
     have hzbf:=hzar.2 b zb qb hzb hqb
     have hcb:(za.map FV.enc)[((b:Nat):Int).toNat]?=some zb.enc:=by rw [Int.toNat_natCast,List.getElem?_map,hzb];rfl
     obtain ⟨yj,hyj⟩:∃ yj,ys[j]?=some yj:=⟨_,List.getElem?_eq_getElem hjl⟩
     obtain ⟨qj,hqj⟩:∃ qj,fi[j]?=some qj:=⟨_,List.getElem?_eq_getElem om_⟩
     have hyjf:=hysr.2 j yj qj hyj hqj
     have hcj:(ys.map FV.enc)[((j:Nat):Int).toNat]?=some yj.enc:=by rw [Int.toNat_natCast,List.getElem?_map,hyj];rfl
     have hvn:Dp.valP (somM fs) (nx kk i j)=qb:=by rw [<- hnx];exact val_at hfa hqb
     have hvi:Dp.valP (somM fs) (i,j)=qj:=val_at hfi hqj
     have s1:=hs fa (List.mem_of_getElem? hfa) qb (List.mem_of_getElem? hqb)
     have s2:=hs fi (List.mem_of_getElem? hfi) qj (List.mem_of_getElem? hqj)
     have hcs:=ok.small.q hko
     have s3:SmQ 200 (q.cost kk i j):=cE (hcs.1.qb2 (by have:=hcs.2;grind) (by have:=hcs.2;grind))
     refine G.aI [0,1,2,3,4,5,6,7,8,9,10,11,12,13,14,15,16,17,18,19,20] [(17,2),(18,2)] rfl kr_ (fun R hB hR=>?_)
     refine D.ps 4 ?_
     refine D.index rfl rfl rfl rfl rfl rfl rfl rfl rfl rfl (fun hg=>⟨(hx.mono mup),by omega,hrowa⟩) fl_ rfl (fun p44 hp44=>?_)
     refine D.aD rfl rfl rfl rfl rfl rfl hp44 rfl rfl rfl ?_
     refine D.ae ?_
     refine D.index rfl rfl rfl rfl rfl rfl rfl rfl rfl rfl (fun hg=>⟨(hza.mono mup),by omega,hcb⟩) fl_ rfl (fun p47 hp47=>?_)
     refine D.aD rfl rfl rfl rfl rfl rfl hp47 rfl rfl rfl ?_
     refine D.ps 2 ?_
     refine D.index rfl rfl rfl rfl rfl rfl rfl rfl rfl rfl (fun hg=>⟨(hx.mono mup),by omega,hrow⟩) fl_ rfl (fun p51 hp51=>?_)
     refine D.aD rfl rfl rfl rfl rfl rfl hp51 rfl rfl rfl ?_
     refine D.ae ?_
     refine D.index rfl rfl rfl rfl rfl rfl rfl rfl rfl rfl (fun hg=>⟨(hys.mono mup),by omega,hcj⟩) fl_ rfl (fun p54 hp54=>?_)
     refine D.aD rfl rfl rfl rfl rfl rfl hp54 rfl rfl rfl ?_
     refine D.aD rfl rfl rfl rfl rfl rfl (fun _=>PtrTo.blockT (Mem.get hb10 mup) _ 3) rfl rfl rfl ?_
     refine D.eF (fun x:FV=>.agg ⟨x.enc⟩) (fun hG57=>(purFV (fadd_fn (FrC.mono hyjf mup) (FrC.mono hfc mup) s2 s3 (by decide)))) rfl rfl rfl rfl rfl rfl rfl fl_ rfl rfl (fun v57 C57 hle57 hq57=>?_)
     refine D.eF (fun _:Unit=>.int .i64 (sgn (qb-(qj+q.cost kk i j)))) (fun hG58=>(purUn (fcmp_fn (FrC.mono hzbf mup) (FrC.mono (hq57 ⟨rfl,trivial⟩) mup) s1 (s2.add s3) (by decide)))) rfl rfl rfl rfl rfl rfl rfl fl_ rfl rfl (fun v58 C58 hle58 hq58=>?_)
     refine D.ae ?_
     refine D.aC rfl rfl rfl rfl rfl rfl rfl rfl ?_
     refine D.e10 1 2 5 6 7 13 14 21 22 60 hR ?_
     refine G.cd (fun h60=>?_) fun h60=>?_
     ·refine G.z1 1 4 ?_
      refine G.rf ?_
      refine ⟨?_,rfl⟩
      have hgt:¬ Dp.valP (somM fs) (nx kk i j)<=Dp.valP (somM fs) (i,j)+q.al.co kk i j:=by
       rw [hvn,hvi]
       intro h
       have h1:sgn (qb-(qj+q.cost kk i j)) > 0:=of_decide_eq_true h60
       exact absurd (sgn_pos.1 h1) (by have h':qb<=qj+q.cost kk i j:=h;grind)
      rw [Al.falls_not hin hjn hko hgt]
     ·have hle:Dp.valP (somM fs) (nx kk i j)<=Dp.valP (somM fs) (i,j)+q.al.co kk i j:=by
       rw [hvn,hvi]
       have h1:¬ sgn (qb-(qj+q.cost kk i j)) > 0:=of_decide_eq_false h60
       rcases (Rat.le_total:qb<=qj+q.cost kk i j∨qj+q.cost kk i j<=qb) with h | h
       ·exact h
       ·by_cases he:qb=qj+q.cost kk i j
        ·rw [he];exact Rat.le_refl
        ·exact absurd (sgn_pos.2 (by grind)) h1
      refine G.rp 1 fun R hR=>?_
      refine D.ax _ ?_
      refine D.q9 1 1 2 5 6 7 13 14 21 22 hR ?_
      refine G.aB (m':=6-(kk+1)) om_ mup (h_9 1 2 5 6 7 13 14 21 22) ⟨kk+1,⟨by omega,by omega,fun k hk h=>by rcases Nat.lt_or_ge k kk with h2 | h2;exact hfallk k h2 h;(obtain rfl:k=kk:=by omega);exact hle⟩,rfl,rfl,rfl⟩
    ·refine G.rg fun R hR=>?_
     refine D.aa (bkT hb2 16) ?_
     refine D.ps 3 ?_
     refine D.build (stepC kk i j) rfl rfl rfl rfl rfl rfl rfl rfl ?_
     refine D.ap (follow_fn _ _ _ _ _ _ _ _ _ q ok (hp.mono mup) kk i j om_ om_ om_) rfl rfl rfl rfl rfl rfl rfl fl_ (fun v35 C35 hle35 hq35=>?_)
     obtain ⟨a,b,xc,rfl,hfx⟩:=hq35
     refine D.ps 5 ?_
     refine D.aj (fun b10=>?_)
     refine D.ps 2 ?_
     refine D.ac (j:=0) ?_
     refine D.q13 1 1 2 5 6 7 8 9 10 11 13 14 21 22 hR ?_
     refine G.freeze 0 rfl (fun C10 hle10 hb10=>?_)
     have hok2:folB q kk i j=false:=by simpa using hok
     rw [hok2]
     refine G.aI [0,1,2,3,4,5,6,7,8,9,10,11,12,13,14,15,16,17,18,19,20] [(17,2),(18,2)] rfl kr_ (fun R hB hR=>?_)
     refine D.ps 2 ?_
     refine D.skip rfl rfl rfl ?_
     refine D.skip rfl rfl rfl ?_
     refine D.skip rfl rfl rfl ?_
     refine D.skip rfl rfl rfl ?_
     refine D.skip rfl rfl rfl ?_
     refine D.skip rfl rfl rfl ?_
     refine D.skip rfl rfl rfl ?_
     refine D.skip rfl rfl rfl ?_
     refine D.skip rfl rfl rfl ?_
     refine D.skip rfl rfl rfl ?_
     refine D.skip rfl rfl rfl ?_
     refine D.skip rfl rfl rfl ?_
     refine D.skip rfl rfl rfl ?_
     refine D.skip rfl rfl rfl ?_
     refine D.skip rfl rfl rfl ?_
     refine D.skip rfl rfl rfl ?_
     refine D.skip rfl rfl rfl ?_
     refine D.skip rfl rfl rfl ?_
     refine D.pickF rfl rfl rfl rfl rfl rfl rfl rfl ?_
     refine D.e10 1 2 5 6 7 13 14 21 22 60 hR ?_
     refine G.cd (fun h60b=>?_) fun h60b=>?_
     ·exact absurd h60b (by decide)
     ·have hno:¬ q.al.ok kk i j=true:=fun h=>hok (by unfold folB;rw [h,decide_eq_true hin,decide_eq_true hjn];rfl)
      refine G.rp 1 fun R hR=>?_
      refine D.ax _ ?_
      refine D.q9 1 1 2 5 6 7 13 14 21 22 hR ?_
      refine G.aB (m':=6-(kk+1)) om_ mup (h_9 1 2 5 6 7 13 14 21 22) ⟨kk+1,⟨by omega,by omega,fun k hk h=>by rcases Nat.lt_or_ge k kk with h2 | h2;exact hfallk k h2 h;(obtain rfl:k=kk:=by omega);exact absurd h hno⟩,rfl,rfl,rfl⟩
   ·have hkk:kk=6:=by have:=of_decide_eq_false h26;omega
    have hfk:q.al.Fall (somM fs) i j:=fun k hk=>hfallk k (by have h2:=hk;unfold Al.ok at h2;simp only [Bool.or_eq_true,Bool.and_eq_true,beq_iff_eq] at h2;omega) hk
    refine G.rg fun R hR=>?_
    refine D.ax _ ?_
    refine D.q7 1 1 2 5 13 14 21 22 hR ?_
    refine G.aB (m':=ys.length-(j+1)) om_ mup (h_7 1 2 5 13 14 21 22) ⟨j+1,⟨by omega,fun j' h=>by rcases Nat.lt_or_ge j' j with h2 | h2;exact hfallj j' h2;(obtain rfl:j'=j:=by omega);exact hfk⟩,rfl,rfl,rfl⟩
  ·have hje:j=ys.length:=by have:=of_decide_eq_false h23;omega
   have e1:q.al.m=q.r.length:=rfl
   refine G.rg fun R hR=>?_
   refine D.ax _ ?_
   refine D.q4 1 1 2 13 14 hR ?_
   refine G.aB (m':=xs.length-(i+1)) om_ mup (h_4 1 2 13 14) ⟨i+1,⟨by omega,fun i' h=>by rcases Nat.lt_or_ge i' i with h2 | h2;exact hfall i' h2;(obtain rfl:i'=i:=by omega);exact fun j' hj'=>hfallj j' om_⟩,rfl,rfl,rfl⟩
 ·have hie:i=xs.length:=by have:=of_decide_eq_false h15;omega
  have e1:q.al.n=q.l.length:=rfl
  refine G.z1 1 4 ?_
  refine G.rf ?_
  refine ⟨?_,rfl⟩
  rw [Al.falls_of fun i' hi' j' hj'=>hfall i' om_ j' hj']
open Go Go.Jog Go.Jog.Dp
set_option maxRecDepth 100000

theorem readsM_some:∀ {l:List Str}{f:List Rat},aL l=some f->l.map aK=f.map some
 | [],f,h=>by cases h;rfl
 | s::l,f,h=>by
  unfold aL at h
  cases ha:aK s with
  | none=>rw [ha] at h;cases h
  | some p =>
   cases hl:aL l with
   | none=>rw [ha,hl] at h;cases h
   | some ps =>
    rw [ha,hl] at h
    cases h
    rw [List.map_cons,List.map_cons,ha,readsM_some hl]
theorem readsM_bad:∀ {l:List Str},aL l=none->∃ s∈l,aK s=none
 | [],h=>by cases h
 | s::l,h=>by
  unfold aL at h
  cases ha:aK s with
  | none=>exact ⟨s,List.mem_cons_self ..,ha⟩
  | some p =>
   cases hl:aL l with
   | none=>obtain ⟨s',h1,h2⟩:=readsM_bad hl;exact ⟨s',List.mem_cons_of_mem _ h1,h2⟩
   | some ps=>rw [ha,hl] at h;cases h
theorem ver_none {A:Al}{st:List (Nat × Nat × Nat)}{P:List (List (Option Rat))}:A.verB st none P=false:=by
 cases h:A.totF 0 0 0 st with
 | none=>exact Al.ver_tot h
 | some s =>
  cases hb:A.verB st none P with
  | false=>rfl
  | true=>have:=((Al.ver_iff h).1 hb).2.2.2.2.1;cases this
theorem sgn_zero {q:Rat}:sgn q=0 ↔ q=0:=by
 unfold sgn
 constructor
 ·intro h
  split at h
  ·omega
  ·split at h
   ·assumption
   ·omega
 ·rintro rfl;rw [if_neg (by decide),if_pos rfl]
theorem alignment_fn (C:Mem)(hT:Tabs C)(vL vR:Value)(q:Qn)(hq:QIn C vL vR q)(ok:q.Ok)(st:List (Nat × Nat × Nat))(vS:Value)(hs:Sl C 3 vS (st.map stS))(hl:st.length<=1000)(hst:∀ x∈st,x.1<=1000/\x.2.1<=1000/\x.2.2<=1000)
  (t:Str) (ht:t.length<=1000) (vP:Value) (P:List (List Str)) (hP:PotIn C vP P) (_hPl:P.length<=1000) (hPr:∀ l∈P,l.length<=1000/\∀ s∈l,s.length<=1000) :
  Gives cx.P 9 [.agg ⟨qC vL vR q⟩,.agg ⟨[vS,strV t]⟩,vP] C (.bool (q.al.verB st (aK t) (P.map (·.map aK)))):=by
 obtain ⟨AL,cL,rfl,_,_,_⟩:=id hq.l
 obtain ⟨AR,cR,rfl,_,_,_⟩:=id hq.r
 obtain ⟨AS,cS,rfl,_⟩:=id hs
 obtain ⟨ws,hws,hwl,hwr⟩:=id hP.ex
 obtain ⟨AP,cP,rfl,_⟩:=id hws
 simp only [List.length_map] at hq hs hws hP ⊢
 have hln:=ok.ln
 have hrn:=ok.rn
 have hmx:maxLen<=9223372036854775807:=by simp [maxLen]
 have hcl:∀ s∈[qtx q.c0,qtx q.c1,qtx q.c2,qtx q.c3],s.length<1000000:=by
  intro s h
  simp only [List.mem_cons,List.not_mem_nil,or_false] at h
  rcases h with rfl | rfl | rfl | rfl
  ·exact Nat.lt_of_le_of_lt (bf ok.c0.qb (by decide)) (by decide)
  ·exact Nat.lt_of_le_of_lt (bf ok.c1.qb (by decide)) (by decide)
  ·exact Nat.lt_of_le_of_lt (bf ok.c2.qb (by decide)) (by decide)
  ·exact Nat.lt_of_le_of_lt (bf ok.c3.qb (by decide)) (by decide)
 have hcr:aL [qtx q.c0,qtx q.c1,qtx q.c2,qtx q.c3]=some [q.c0,q.c1,q.c2,q.c3]:=by
  unfold aL aL aL aL aL
  rw [ef (ok.c0.qb.le (by decide)),ef (ok.c1.qb.le (by decide)),ef (ok.c2.qb.le (by decide)),ef (ok.c3.qb.le (by decide))]
 refine Fn.it kr_ Tryz.func9 188 fun w0=>?_
 refine G.rg fun R hR=>?_
 refine D.aM (fun b3=>?_)
 refine D.aM (fun b4=>?_)
 refine D.q3 1 2 3 4 hR ?_
 refine G.freeze 1 rfl (fun C3 hle3 hb3=>?_)
 refine G.freeze 0 rfl (fun C4 hle4 hb4=>?_)
 refine G.rp 2 fun R hR=>?_
 refine D.aa (bkT hb3 1) ?_
 refine D.ps 2 ?_
 refine D.aa (bkT hb3 1) ?_
 refine D.ps 2 ?_
 refine D.aa (bkT hb3 1) ?_
 refine D.ps 2 ?_
 refine D.aa (bkT hb3 1) ?_
 refine D.ah ([qtx q.c0,qtx q.c1,qtx q.c2,qtx q.c3].map encS) (fun p39 C39 hle39 hs39=>?_)
 refine D.ap (dm _ _ [qtx q.c0,qtx q.c1,qtx q.c2,qtx q.c3] (hs39.mono mup) (by simp) hcl) rfl rfl rfl rfl rfl rfl rfl fl_ (fun v40 C40 hle40 hq40=>?_)
 obtain ⟨A7,n7,c7,rfl,hr7⟩:=hq40
 rw [hcr]
 have hF7:=hr7 _ hcr
 refine D.q5 5 2 3 4 7 8 hR ?_
 refine G.rp 1 fun R hR=>?_
 refine D.aa (bkT hb4 1) ?_
 refine D.ap (read_fn _ t om_) rfl rfl rfl rfl rfl rfl rfl fl_ (fun v46 C46 hle46 hq46=>?_)
 obtain ⟨vt,rfl,hvt⟩:=hq46
 obtain ⟨xt,rfl⟩:=hvt.fv
 refine D.ps 3 ?_
 refine D.aj (fun b9=>?_)
 refine D.ac (j:=0) ?_
 refine D.q7 1 2 3 4 7 8 9 10 hR ?_
 refine G.freeze 0 rfl (fun C9 hle9 hb9=>?_)
 refine G.rp 5 fun R hR=>?_
 refine D.ar ?_
 refine D.e6 2 3 4 7 9 54 hR ?_
 refine G.cd (fun h54=>?_) fun h54=>?_
 ·have hno:aK t=none:=by
   cases h:aK t with
   | none=>rfl
   | some z=>have h54':(!true || !(aK t).isSome)=true:=h54;rw [h] at h54';cases h54'
  refine G.z1 1 6 ?_
  refine G.rf ?_
  exact ⟨by rw [hno,ver_none],rfl⟩
 ·obtain ⟨tz,htz⟩:∃ tz,aK t=some tz:=by
   cases h:aK t with
   | none=>have h54':(!true || !(aK t).isSome)=false:=h54;rw [h] at h54';cases h54'
   | some z=>exact ⟨z,rfl⟩
  rw [htz] at hvt ⊢
  obtain ⟨x7,hx7,hx7r⟩:=hF7
  obtain ⟨f0,f1,f2,f3,rfl⟩:∃ f0 f1 f2 f3,x7=[f0,f1,f2,f3]:=by
   have hl7:x7.length=4:=hx7r.1
   match x7,hl7 with
   | [a,b,c,d],_=>exact ⟨a,b,c,d,rfl⟩
  obtain ⟨_,_,he7,_⟩:=id hx7
  cases he7
  refine G.bH (fun fr C' L' μ=>∃ (b11:Nat)(A1:Option Addr)(n1 c1:Nat)(A2:Option Addr)(n2 c2:Nat)(B1:Option Addr)(m1 d1:Nat)(B2:Option Addr)(m2 d2:Nat),(Sl C' 1 (.slice A1 n1 c1) (q.l.map ivU)/\FrL C' (.slice A2 n2 c2) (q.l.map Iv.thick)/\Sl C' 1 (.slice B1 m1 d1) (q.r.map ivU)/\FrL C' (.slice B2 m2 d2) (q.r.map Iv.thick))/\fr=[(2,[],.slice AP ws.length cP),(3,[],.pointer (some ⟨b3,0,none⟩)),(4,[],.pointer (some ⟨b4,0,none⟩)),(9,[],.pointer (some ⟨b9,0,none⟩)),(11,[],.pointer (some ⟨b11,0,none⟩))]/\L'=[.obj b11 (.cells ⟨prC (.slice A1 n1 c1) (.slice A2 n2 c2) (.slice B1 m1 d1) (.slice B2 m2 d2) f0 f1 f2 f3⟩ 102 (0,0))]) ?_ (fun fr Cr5 Lr5 μ hler5 hI=>?_)
  ·refine G.eA (.cut [0,1,3,4,6,7,8,9,10,11,12,13,14,15,16,17] (.alt 2 (.cut [] (.alt 5 (.fin [18,19,20]) (.alt 19 (.fin [5,18,20]) .stop))) (.alt 19 (.fin [2,5,18,20]) .stop))) [] rfl rfl kr_ (fun R hB hR hH=>?_)
   refine D.ae ?_
   refine D.aa (bkT hb3 1) ?_
   refine D.ae ?_
   refine D.aa (bkT hb3 1) ?_
   refine D.ae ?_
   refine D.ai (hx7.mono mup) rfl rfl rfl rfl rfl rfl rfl rfl rfl rfl om_ rfl fl_ (fun p62 hp62=>?_)
   refine D.aa hp62 ?_
   refine D.ae ?_
   refine D.ai (hx7.mono mup) rfl rfl rfl rfl rfl rfl rfl rfl rfl rfl om_ rfl fl_ (fun p65 hp65=>?_)
   refine D.aa hp65 ?_
   refine D.ae ?_
   refine D.ai (hx7.mono mup) rfl rfl rfl rfl rfl rfl rfl rfl rfl rfl om_ rfl fl_ (fun p68 hp68=>?_)
   refine D.aa hp68 ?_
   refine D.ae ?_
   refine D.ai (hx7.mono mup) rfl rfl rfl rfl rfl rfl rfl rfl rfl rfl om_ rfl fl_ (fun p71 hp71=>?_)
   refine D.aa hp71 ?_
   refine D.az hH rfl ⟨?_, ?_,trivial⟩
   ·refine D.ap (dY _ _ q.l (hq.l.mono mup) om_ ok.l) rfl rfl rfl rfl rfl rfl rfl fl_ (fun v57 C57 hle57 hq57=>?_)
    refine D.az hH rfl ⟨?_, ?_,trivial⟩
    ·refine D.ap (dY _ _ q.r (hq.r.mono mup) om_ ok.r) rfl rfl rfl rfl rfl rfl rfl fl_ (fun v60 C60 hle60 hq60=>?_)
     obtain ⟨A1,n1,c1,A2,n2,c2,rfl,hu1,hk1⟩:=hq57
     obtain ⟨B1,m1,d1,B2,m2,d2,rfl,hu2,hk2⟩:=hq60
     refine D.build (prC (.slice A1 n1 c1) (.slice A2 n2 c2) (.slice B1 m1 d1) (.slice B2 m2 d2) f0 f1 f2 f3) rfl rfl rfl rfl rfl rfl rfl rfl ?_
     refine D.aj (fun b11=>?_)
     refine D.ac (j:=0) ?_
     refine D.e5 2 3 4 9 11 hR ?_
     exact G.ay 0 mup (h_5 2 3 4 9 11) ⟨b11,A1,n1,c1,A2,n2,c2,B1,m1,d1,B2,m2,d2,⟨hu1.mono mup,hk1.mono mup,hu2.mono mup,hk2.mono mup⟩,rfl,rfl⟩
    ·refine D.aj (fun b11=>?_)
     refine D.ap (dY _ _ q.r (hq.r.mono mup) om_ ok.r) rfl rfl rfl rfl rfl rfl rfl fl_ (fun v60 C60 hle60 hq60=>?_)
     obtain ⟨A1,n1,c1,A2,n2,c2,rfl,hu1,hk1⟩:=hq57
     obtain ⟨B1,m1,d1,B2,m2,d2,rfl,hu2,hk2⟩:=hq60
     refine D.build (prC (.slice A1 n1 c1) (.slice A2 n2 c2) (.slice B1 m1 d1) (.slice B2 m2 d2) f0 f1 f2 f3) rfl rfl rfl rfl rfl rfl rfl rfl ?_
     refine D.ac (j:=0) ?_
     refine D.e5 2 3 4 9 11 hR ?_
     exact G.ay 0 mup (h_5 2 3 4 9 11) ⟨b11,A1,n1,c1,A2,n2,c2,B1,m1,d1,B2,m2,d2,⟨hu1.mono mup,hk1.mono mup,hu2.mono mup,hk2.mono mup⟩,rfl,rfl⟩
   ·refine D.aj (fun b11=>?_)
    refine D.ap (dY _ _ q.l (hq.l.mono mup) om_ ok.l) rfl rfl rfl rfl rfl rfl rfl fl_ (fun v57 C57 hle57 hq57=>?_)
    refine D.ap (dY _ _ q.r (hq.r.mono mup) om_ ok.r) rfl rfl rfl rfl rfl rfl rfl fl_ (fun v60 C60 hle60 hq60=>?_)
    obtain ⟨A1,n1,c1,A2,n2,c2,rfl,hu1,hk1⟩:=hq57
    obtain ⟨B1,m1,d1,B2,m2,d2,rfl,hu2,hk2⟩:=hq60
    refine D.build (prC (.slice A1 n1 c1) (.slice A2 n2 c2) (.slice B1 m1 d1) (.slice B2 m2 d2) f0 f1 f2 f3) rfl rfl rfl rfl rfl rfl rfl rfl ?_
    refine D.ac (j:=0) ?_
    refine D.e5 2 3 4 9 11 hR ?_
    exact G.ay 0 mup (h_5 2 3 4 9 11) ⟨b11,A1,n1,c1,A2,n2,c2,B1,m1,d1,B2,m2,d2,⟨hu1.mono mup,hk1.mono mup,hu2.mono mup,hk2.mono mup⟩,rfl,rfl⟩
  obtain ⟨b11,A1,n1,c1,A2,n2,c2,B1,m1,d1,B2,m2,d2,⟨hu1,hk1,hu2,hk2⟩,rfl,rfl⟩:=hI
  refine G.freeze 0 rfl (fun C11 hle11 hb11=>?_)
  have hp:PrIn C11 (.slice A1 n1 c1) (.slice A2 n2 c2) (.slice B1 m1 d1) (.slice B2 m2 d2) f0 f1 f2 f3 q:=⟨hu1.mono mup,hu2.mono mup,hk1.mono mup,hk2.mono mup,FrC.mono (hx7r.2 0 f0 q.c0 rfl rfl) mup,FrC.mono (hx7r.2 1 f1 q.c1 rfl rfl) mup,FrC.mono (hx7r.2 2 f2 q.c2 rfl rfl) mup,FrC.mono (hx7r.2 3 f3 q.c3 rfl rfl) mup⟩
  refine G.rg fun R hR=>?_
  refine D.ap (of_fn _ (hT.mono mup) 0 0 (by decide) (by decide) (by decide +kernel) (by decide +kernel)) rfl rfl rfl rfl rfl rfl rfl fl_ (fun v74 C74 hle74 hq74=>?_)
  obtain ⟨x0,rfl⟩:=hq74.fv
  refine D.aj (fun b14=>?_)
  refine D.ps 2 ?_
  refine D.ac (j:=0) ?_
  refine D.e8 2 3 4 9 11 12 13 14 hR ?_
  refine G.rp 1 fun R hR=>?_
  refine D.aa (bkT hb4 1) ?_
  refine D.q10 2 2 3 9 11 12 13 14 76 77 78 hR ?_
  refine G.loop (fun fr C' L' μ=>∃ (c i j:Nat)(s:Rat)(xa:FV),(c<=st.length/\q.al.Sum s i j/\q.al.totF 0 0 0 st=q.al.totF s i j (st.drop c)/\FrC C' (.agg ⟨xa.enc⟩) s)/\fr=[(2,[],.slice AP ws.length cP),(3,[],.pointer (some ⟨b3,0,none⟩)),(9,[],.pointer (some ⟨b9,0,none⟩)),(11,[],.pointer (some ⟨b11,0,none⟩)),(12,[],.int .i64 i),(13,[],.int .i64 j),(14,[],.pointer (some ⟨b14,0,none⟩)),(76,[],.slice AS st.length cS),(77,[],.int .i64 st.length),(78,[],.int .i64 c)]/\L'=[.obj b14 (.cells ⟨xa.enc⟩ 95 (0,0))]/\μ=st.length-c) (h_10 2 3 9 11 12 13 14 76 77 78) ⟨0,0,0,0,x0,⟨Nat.zero_le _,Al.Sum.start _,rfl,FrC.mono hq74 mup⟩,rfl,rfl,rfl⟩ (fun fr C0' L0' m hle0 hI=>?_)
  obtain ⟨c,i,j,s,xa,⟨hc,hsum,htot,hxa⟩,rfl,rfl,rfl⟩:=hI
  refine G.z11 1 2 3 9 11 12 13 14 76 77 78 79 ?_
  refine G.cd (fun h79=>?_) fun h79=>?_
  ·have hcl:c<st.length:=by have:=of_decide_eq_true h79;omega
   obtain ⟨k,a,b,hx⟩:∃ k a b,st[c]?=some (k,a,b):=⟨_,_,_,List.getElem?_eq_getElem hcl⟩
   obtain ⟨hk1',ha1,hb1'⟩:=hst _ (List.mem_of_getElem? hx)
   simp only at hk1' ha1 hb1'
   have hrow:(st.map stS)[((c:Nat):Int).toNat]?=some (stepC k a b):=by rw [Int.toNat_natCast,List.getElem?_map,hx];rfl
   refine G.rg fun R hR=>?_
   refine D.ai (hs.mono mup) rfl rfl rfl rfl rfl rfl rfl rfl rfl rfl om_ hrow fl_ (fun p80 hp80=>?_)
   refine D.aa hp80 ?_
   refine D.aj (fun b16=>?_)
   refine D.ac (j:=0) ?_
   refine D.e11 2 3 9 11 12 13 14 16 76 77 78 hR ?_
   refine G.freeze 0 rfl (fun C16 hle16 hb16=>?_)
   refine G.rg fun R hR=>?_
   refine D.aa (bkT hb11 16) ?_
   refine D.aa (bkT hb16 3) ?_
   refine D.aJ (follow_fn _ _ _ _ _ _ _ _ _ q ok (hp.mono mup) k a b hk1' ha1 hb1') (fun v85 C85 hle85 hq85=>?_)
   obtain ⟨ea,eb,xc,rfl,hfx⟩:=hq85
   refine D.ps 5 ?_
   refine D.aj (fun b19=>?_)
   refine D.ps 2 ?_
   refine D.ac (j:=0) ?_
   refine D.q15 1 2 3 9 11 12 13 14 16 17 18 19 20 76 77 78 hR ?_
   refine G.freeze 0 rfl (fun C19 hle19 hb19=>?_)
   refine G.rp 4 fun R hR=>?_
   refine D.aD rfl rfl rfl rfl rfl rfl (fun _=>PtrTo.blockT (Mem.get hb16 mup) _ 1) rfl rfl rfl ?_
   refine D.ps 2 ?_
   refine D.ar ?_
   refine D.ps 2 ?_
   refine D.aD rfl rfl rfl rfl rfl rfl (fun _=>PtrTo.blockT (Mem.get hb16 mup) _ 1) rfl rfl rfl ?_
   refine D.ps 2 ?_
   refine D.ar ?_
   refine D.e12 2 3 9 11 14 17 18 19 76 77 78 103 hR ?_
   refine G.cd (fun h103=>?_) fun h103=>?_
   ·have hne:¬ (a=i/\b=j/\q.al.ok k i j=true):=by
     rintro ⟨rfl,rfl,hko⟩
     have hok:folB q k a b=true:=by have h1:a<=q.l.length:=hsum.hi;have h2:b<=q.r.length:=hsum.hj;unfold folB;rw [hko,decide_eq_true h1,decide_eq_true h2];rfl
     have h':((!folB q k a b || !decide ((a:Int)=a)) || !decide ((b:Int)=b))=true:=h103
     rw [hok] at h'
     simp at h'
    refine G.z1 1 6 ?_
    refine G.rf ?_
    exact ⟨by rw [Al.ver_tot (by rw [htot,Al.totF_get hx,if_neg hne])],rfl⟩
   ·obtain ⟨hok,rfl,rfl⟩:folB q k a b=true/\a=i/\b=j:=by
     have h':((!folB q k a b || !decide ((a:Int)=i)) || !decide ((b:Int)=j))=false:=h103
     simp at h'
     exact ⟨h'.1.1,by omega,by omega⟩
    have hko:q.al.ok k a b=true:=by unfold folB at hok;simp only [Bool.and_eq_true] at hok;exact hok.1.1
    obtain ⟨hnx,hfc⟩:=hfx hok
    obtain rfl:ea=(nx k a b).1:=by rw [<- hnx]
    obtain rfl:eb=(nx k a b).2:=by rw [<- hnx]
    have hcs:=ok.small.q hko
    have qc:QB 1 (q.cost k a b):=hcs.1.qb2 (by have:=hcs.2;grind) (by have:=hcs.2;grind)
    refine G.rp 2 fun R hR=>?_
    refine D.ag (.head _) ?_
    refine D.aa (bkT hb19 3) ?_
    refine D.ap (fadd_fn (FrC.mono hxa mup) (FrC.mono hfc mup) (cE (hsum.qb ok.small)) (cE qc) (by decide)) rfl rfl rfl rfl rfl rfl rfl fl_ (fun v108 C108 hle108 hq108=>?_)
    obtain ⟨xn,rfl⟩:=hq108.fv
    refine D.ps 2 ?_
    refine D.ac (j:=0) ?_
    refine D.e10 2 3 9 11 12 13 14 76 77 78 hR ?_
    refine G.rg fun R hR=>?_
    refine D.ax _ ?_
    refine D.q10 1 2 3 9 11 12 13 14 76 77 78 hR ?_
    refine G.aB (m':=st.length-(c+1)) om_ mup (h_10 2 3 9 11 12 13 14 76 77 78) ⟨c+1,_,_,_,xn,⟨by omega,hsum.step ok.small hko,by rw [htot,Al.totF_get hx,if_pos ⟨rfl,rfl,hko⟩],FrC.mono hq108 mup⟩,rfl,rfl,rfl⟩
  ·obtain rfl:c=st.length:=by have:=of_decide_eq_false h79;omega
   rw [Al.totF_end] at htot
   refine G.freeze 0 rfl (fun C14 hle14 hb14=>?_)
   refine G.aS [(15,2)] rfl (fun R hR=>?_)
   refine D.ps 2 ?_
   refine D.aa (bkT hb3 1) ?_
   refine D.ps 5 ?_
   refine D.aD rfl rfl rfl rfl rfl rfl (fun _=>PtrTo.blockT (Mem.get hb3 mup) _ 1) rfl rfl rfl ?_
   refine D.ps 2 ?_
   refine D.ar ?_
   refine D.ae ?_
   refine D.aD rfl rfl rfl rfl rfl rfl (fun _=>PtrTo.blockT (Mem.get hb14 mup) _ 3) rfl rfl rfl ?_
   refine D.aD rfl rfl rfl rfl rfl rfl (fun _=>PtrTo.blockT (Mem.get hb9 mup) _ 3) rfl rfl rfl ?_
   refine D.eF (fun _:Unit=>.int .i64 (sgn (s-tz))) (fun hG125=>(purUn (fcmp_fn (FrC.mono hxa mup) (FrC.mono hvt mup) (cE (hsum.qb ok.small)) (readM_sm htz) (by decide)))) rfl rfl rfl rfl rfl rfl rfl fl_ rfl rfl (fun v125 C125 hle125 hq125=>?_)
   refine D.ae ?_
   refine D.ar ?_
   refine D.ps 4 ?_
   refine D.aD rfl rfl rfl rfl rfl rfl (fun _=>PtrTo.blockT (Mem.get hb3 mup) _ 1) rfl rfl rfl ?_
   refine D.ae ?_
   refine D.ax _ ?_
   refine D.ae ?_
   refine D.ar ?_
   refine D.e7 2 3 9 11 12 13 136 hR ?_
   refine G.cd (fun h136=>?_) fun h136=>?_
   ·have hno:¬ (i=q.al.n/\j=q.al.m/\s=tz/\ws.length=q.al.n+1):=by
     rintro ⟨e1,e2,e3,e4⟩
     have n1:q.al.n=q.l.length:=rfl
     have n2:q.al.m=q.r.length:=rfl
     have h':(((!decide ((i:Int)=q.l.length) || !decide ((j:Int)=q.r.length)) || !decide (sgn (s-tz)=0)) || !decide ((ws.length:Int)=(q.l.length:Int)+1))=true:=h136
     rw [decide_eq_true om_,decide_eq_true om_,decide_eq_true (sgn_zero.2 (by grind)),decide_eq_true om_] at h'
     exact absurd h' (by decide)
    have hvf:q.al.verB st (some tz) (P.map (·.map aK))=false:=by
     cases hb:q.al.verB st (some tz) (P.map (·.map aK)) with
     | false=>rfl
     | true =>
      exfalso
      by_cases hij:i=q.al.n/\j=q.al.m
      ·rw [if_pos hij] at htot
       obtain ⟨v1,_,_,_,v5,_⟩:=(Al.ver_iff htot).1 hb
       rw [List.length_map] at v1
       exact hno ⟨hij.1,hij.2,(Option.some.inj v5).symm,by omega⟩
      ·rw [if_neg hij] at htot
       rw [Al.ver_tot htot] at hb
       cases hb
    refine G.z1 1 6 ?_
    refine G.rf ?_
    exact ⟨by rw [hvf],rfl⟩
   ·obtain ⟨rfl,rfl,rfl,hwn⟩:i=q.al.n/\j=q.al.m/\s=tz/\ws.length=q.al.n+1:=by
     have n1:q.al.n=q.l.length:=rfl
     have n2:q.al.m=q.r.length:=rfl
     have h':(((!decide ((i:Int)=q.l.length) || !decide ((j:Int)=q.r.length)) || !decide (sgn (s-tz)=0)) || !decide ((ws.length:Int)=(q.l.length:Int)+1))=false:=h136
     simp at h'
     exact ⟨by omega,by omega,by have:=sgn_zero.1 h'.1.2;grind,by omega⟩
    rw [if_pos ⟨rfl,rfl⟩] at htot
    have hvi:=Al.ver_iff (A:=q.al) (t:=some s) (P:=P.map (·.map aK)) htot
    have hwn':ws.length=q.l.length+1:=hwn
    refine G.z7 1 2 3 9 11 12 13 21 ?_
    refine G.z9 3 3 9 11 12 13 21 137 138 139 ?_
    refine G.nilArr 89 1 ?_
    refine G.loop (fun fr C' L' μ=>∃ (c:Nat)(A21:Option Addr)(n21 c21:Nat)(xs:List SV)(fs:List (List Rat)),(c<=ws.length/\FrLL C' xs fs/\xs.length=c/\(P.take c).map (·.map aK)=somM fs/\(∀ f∈fs,f.length=q.r.length+1)/\(∀ f∈fs,∀ x∈f,SmQ 200 x))/\fr=[(3,[],.pointer (some ⟨b3,0,none⟩)),(9,[],.pointer (some ⟨b9,0,none⟩)),(11,[],.pointer (some ⟨b11,0,none⟩)),(12,[],.int .i64 (q.al.n:Nat)),(13,[],.int .i64 (q.al.m:Nat)),(21,[],.slice A21 n21 c21),(137,[],.slice AP ws.length cP),(138,[],.int .i64 ws.length),(139,[],.int .i64 c)]/\L'=[.arr (.slice A21 n21 c21) 89 1 c (xs.map SV.enc).flatten]/\μ=ws.length-c) (h_9 3 9 11 12 13 21 137 138 139) ⟨0,none,0,0,[],[],⟨Nat.zero_le _,FrLL.nil _,rfl,rfl,fun f h=>(by cases h),fun f h=>(by cases h)⟩,rfl,rfl,rfl⟩ (fun fr C1' L1' m hle1 hI=>?_)
    obtain ⟨c,A21,n21,c21,xs,fs,⟨hc,hxs,hxl,hmp,hfm,hfs⟩,rfl,rfl,rfl⟩:=hI
    refine G.z10 1 3 9 11 12 13 21 137 138 139 140 ?_
    refine G.cd (fun h140=>?_) fun h140=>?_
    ·have hcl:c<ws.length:=by have:=of_decide_eq_true h140;omega
     have hipl:c<P.length:=by omega
     obtain ⟨xw,hxw⟩:∃ xw,ws[c]?=some xw:=⟨_,List.getElem?_eq_getElem hcl⟩
     obtain ⟨lr,hlr⟩:∃ lr,P[c]?=some lr:=⟨_,List.getElem?_eq_getElem hipl⟩
     have hsr:=hwr c xw lr hxw hlr
     have hrow:(ws.map SV.enc)[((c:Nat):Int).toNat]?=some [.slice xw.A xw.n xw.c]:=by rw [Int.toNat_natCast,List.getElem?_map,hxw];rfl
     have hlb:=hPr lr (List.mem_of_getElem? hlr)
     have htk:P.take (c+1)=P.take c++[lr]:=by rw [List.take_add_one,hlr];rfl
     refine G.rg fun R hR=>?_
     refine D.ai (hws.mono mup) rfl rfl rfl rfl rfl rfl rfl rfl rfl rfl om_ hrow fl_ (fun p141 hp141=>?_)
     refine D.aa hp141 ?_
     refine D.q10 1 3 9 11 12 13 21 23 137 138 139 hR ?_
     refine G.rp 1 fun R hR=>?_
     refine D.ap (dm _ _ lr (hsr.mono mup) om_ (fun s h=>by have:=hlb.2 s h;omega)) rfl rfl rfl rfl rfl rfl rfl fl_ (fun v145 C145 hle145 hq145=>?_)
     obtain ⟨Af,nf,cf,rfl,hrf⟩:=hq145
     refine D.q11 5 3 9 11 12 13 21 24 25 137 138 139 hR ?_
     refine G.rp 6 fun R hR=>?_
     refine D.aD rfl rfl rfl rfl rfl rfl (fun _=>PtrTo.blockT (Mem.get hb3 mup) _ 1) rfl rfl rfl ?_
     refine D.ae ?_
     refine D.ax _ ?_
     refine D.ae ?_
     refine D.ar ?_
     refine D.e11 3 9 11 12 13 21 24 137 138 139 158 hR ?_
     refine G.cd (fun h158=>?_) fun h158=>?_
     ·have hvf:q.al.verB st (some s) (P.map (·.map aK))=false:=by
       cases hb:q.al.verB st (some s) (P.map (·.map aK)) with
       | false=>rfl
       | true =>
        exfalso
        obtain ⟨_,v2,v3,_⟩:=hvi.1 hb
        have hmem:lr.map aK∈P.map (·.map aK):=List.mem_map.2 ⟨lr,List.mem_of_getElem? hlr,rfl⟩
        have h':(!(aL lr).isSome || !decide ((nf:Int)=(q.r.length:Int)+1))=true:=h158
        cases hrd:aL lr with
        | none =>
         obtain ⟨s',h1,h2⟩:=readsM_bad hrd
         have:=v3 _ hmem _ (List.mem_map.2 ⟨s',h1,rfl⟩)
         rw [h2] at this;cases this
        | some f =>
         obtain ⟨_,_,hfe⟩:=(hrf f hrd).form
         cases hfe
         have h3:=v2 _ hmem
         have h4:=congrArg List.length (readsM_some hrd)
         rw [List.length_map] at h3
         rw [List.length_map,List.length_map] at h4
         have e1:q.al.m=q.r.length:=rfl
         rw [hrd,decide_eq_true om_] at h'
         simp at h'
      refine G.z1 1 6 ?_
      refine G.rf ?_
      exact ⟨by rw [hvf],rfl⟩
     ·obtain ⟨f,hrd,hnf⟩:∃ f,aL lr=some f/\nf=q.r.length+1:=by
       have h':(!(aL lr).isSome || !decide ((nf:Int)=(q.r.length:Int)+1))=false:=h158
       cases hrd:aL lr with
       | none=>rw [hrd] at h';cases h'
       | some f=>rw [hrd] at h';simp at h';exact ⟨f,rfl,by omega⟩
      have hFf:=hrf f hrd
      obtain ⟨_,_,hfe⟩:=hFf.form
      cases hfe
      refine G.rp 2 fun R hR=>?_
      refine D.ah [[.slice Af f.length cf]] (fun p161 C161 hle161 hs161=>?_)
      refine D.ak (j:=0) rfl rfl rfl rfl rfl rfl rfl rfl rfl rfl rfl (hs161.mono mup) rfl (by simp only [List.length_singleton,maxLen];omega) (by show (c+1)*24<=_;omega) fl_ (fun A162 n162 c162=>?_)
      refine D.q9 1 3 9 11 12 13 21 137 138 139 hR ?_
      refine G.rg fun R hR=>?_
      refine D.ax _ ?_
      refine D.q9 1 3 9 11 12 13 21 137 138 139 hR ?_
      refine G.bv (L':=[.arr (.slice A162 n162 c162) 89 1 (c+1) ((xs++[(⟨Af,f.length,cf⟩:SV)]).map SV.enc).flatten]) (by simp [SV.enc]) ?_
      refine G.aB (m':=ws.length-(c+1)) om_ mup (h_9 3 9 11 12 13 21 137 138 139) ⟨c+1,A162,n162,c162,xs++[(⟨Af,f.length,cf⟩:SV)],fs++[f],⟨by omega,(hxs.mono mup).snoc (hFf.mono mup),by simp [hxl],by rw [htk,List.map_append,hmp];unfold somM;rw [List.map_append];simp [readsM_some hrd],fun g h=>by rcases List.mem_append.1 h with h | h;exact hfm g h;(simp at h;subst h;exact hnf),fun g h=>by rcases List.mem_append.1 h with h | h;exact hfs g h;(simp at h;subst h;exact dU hrd)⟩,rfl,rfl,rfl⟩
    ·obtain rfl:c=ws.length:=by have:=of_decide_eq_false h140;omega
     rw [hwl,List.take_length] at hmp
     have hfl:fs.length=q.l.length+1:=by have:=hxs.1;omega
     rw [hmp] at hvi ⊢
     have hel:∀ i j,i<=q.l.length->j<=q.r.length->∃ (x:SV)(f:List Rat)(ys:List FV)(y:FV)(z:Rat),(xs.map SV.enc)[((i:Nat):Int).toNat]?=some [.slice x.A x.n x.c]/\Sl C1' 3 (.slice x.A x.n x.c) (ys.map FV.enc)/\(ys.map FV.enc)[((j:Nat):Int).toNat]?=some y.enc/\FrC C1' (.agg ⟨y.enc⟩) z/\SmQ 200 z/\atP (somM fs) (i,j)=some z:=by
      intro i j hi hj
      obtain ⟨x,hx⟩:∃ x,xs[i]?=some x:=⟨_,List.getElem?_eq_getElem om_⟩
      obtain ⟨f,hf⟩:∃ f,fs[i]?=some f:=⟨_,List.getElem?_eq_getElem om_⟩
      obtain ⟨ys,h1,h2⟩:=hxs.2 i x f hx hf
      have hfl2:=hfm f (List.mem_of_getElem? hf)
      have hyl:ys.length=f.length:=h2.1
      obtain ⟨y,hy⟩:∃ y,ys[j]?=some y:=⟨_,List.getElem?_eq_getElem om_⟩
      obtain ⟨z,hz⟩:∃ z,f[j]?=some z:=⟨_,List.getElem?_eq_getElem om_⟩
      refine ⟨x,f,ys,y,z,by rw [Int.toNat_natCast,List.getElem?_map,hx];rfl,h1,by rw [Int.toNat_natCast,List.getElem?_map,hy];rfl,h2.2 j y z hy hz,hfs f (List.mem_of_getElem? hf) z (List.mem_of_getElem? hz), ?_⟩
      unfold atP
      simp only [List.getElem?_map,hf,Option.map_some,Option.getD_some,hz]
     obtain ⟨xA,fA,ysA,yA,zA,hA1,hA2,hA3,hA4,hA5,hA6⟩:=hel 0 0 (Nat.zero_le _) (Nat.zero_le _)
     obtain ⟨xB,fB,ysB,yB,zB,hB1,hB2,hB3,hB4,hB5,hB6⟩:=hel q.l.length q.r.length (Nat.le_refl _) (Nat.le_refl _)
     refine G.freezeArr 0 (xs.map SV.enc) rfl rfl (by intro r hr;obtain ⟨y,_,rfl⟩:=List.mem_map.1 hr;rfl) (by rw [List.length_map,hxl]) (fun Cf hf hsd=>?_)
     refine G.aI [0,1,2,3,4,5,6,7,8,9,10,11,12,13,14,15,16,17,18,19,20,21,22,23,24] [(5,1),(16,2)] rfl kr_ (fun R hB hR=>?_)
     refine D.ae ?_
     refine D.ai (hsd.mono mup) rfl rfl rfl rfl rfl rfl rfl rfl rfl rfl om_ hA1 fl_ (fun p165 hp165=>?_)
     refine D.aa hp165 ?_
     refine D.ai (hA2.mono mup) rfl rfl rfl rfl rfl rfl rfl rfl rfl rfl om_ hA3 fl_ (fun p167 hp167=>?_)
     refine D.aa hp167 ?_
     refine D.aP (fun _=>(sign_fn (FrC.mono hA4 mup))) ?_
     refine D.ps 4 ?_
     refine D.index rfl rfl rfl rfl rfl rfl rfl rfl rfl rfl (fun hg=>⟨(hsd.mono mup),by omega,hB1⟩) fl_ rfl (fun p174 hp174=>?_)
     refine D.aD rfl rfl rfl rfl rfl rfl hp174 rfl rfl rfl ?_
     refine D.ae ?_
     refine D.index rfl rfl rfl rfl rfl rfl rfl rfl rfl rfl (fun hg=>⟨(hB2.mono mup),by omega,hB3⟩) fl_ rfl (fun p177 hp177=>?_)
     refine D.aD rfl rfl rfl rfl rfl rfl hp177 rfl rfl rfl ?_
     refine D.aD rfl rfl rfl rfl rfl rfl (fun _=>PtrTo.blockT (Mem.get hb9 mup) _ 3) rfl rfl rfl ?_
     refine D.eF (fun _:Unit=>.int .i64 (sgn (zB-s))) (fun hG180=>(purUn (fcmp_fn (FrC.mono hB4 mup) (FrC.mono hvt mup) hB5 (readM_sm htz) (by decide)))) rfl rfl rfl rfl rfl rfl rfl fl_ rfl rfl (fun v180 C180 hle180 hq180=>?_)
     refine D.ae ?_
     refine D.aC rfl rfl rfl rfl rfl rfl rfl rfl ?_
     refine D.ae ?_
     refine D.aD rfl rfl rfl rfl rfl rfl (fun _=>PtrTo.blockT (Mem.get hb11 mup) _ 16) rfl rfl rfl ?_
     refine D.ae ?_
     refine D.aP (fun hg=>(falls_fn _ _ _ _ _ _ _ _ _ q ok (hp.mono mup) _ xs fs (hsd.mono mup) (hxs.mono mup) hfl hfm hfs)) ?_
     refine D.aC rfl rfl rfl rfl rfl rfl rfl rfl ?_
     refine D.q1 1 6 hR ?_
     refine G.rf ?_
     refine ⟨?_,rfl⟩
     congr 1
     rw [Bool.eq_iff_iff,hvi]
     show ((decide (sgn zA=0) && decide (sgn (zB-s)=0)) && q.al.fallsB (somM fs))=true ↔ _
     simp only [Bool.and_eq_true,decide_eq_true_eq,sgn_zero]
     rw [hA6]
     have hB6':atP (somM fs) (q.al.n,q.al.m)=some zB:=hB6
     rw [hB6']
     constructor
     ·rintro ⟨⟨h1,h2⟩,h3⟩
      exact ⟨by rw [List.length_map];exact hfl,fun l hl=>by obtain ⟨l0,h0,rfl⟩:=List.mem_map.1 hl;rw [List.length_map];exact hfm l0 h0,fun l hl x hx=>by obtain ⟨l0,h0,rfl⟩:=List.mem_map.1 hl;obtain ⟨s0,h1,rfl⟩:=List.mem_map.1 hx;rfl,by rw [h1],trivial,by rw [show zB=s by grind],h3⟩
     ·rintro ⟨_,_,_,h4,_,h6,h7⟩
      exact ⟨⟨Option.some.inj h4,by have:=Option.some.inj h6;grind⟩,h7⟩
end Go.Proofs.YtjhmlnebikbdbaaGreatDoor
namespace Go.Jog
namespace Dp

structure Bit where
 g:Nat
 t:Nat
 u:Nat
def unS (n:Nat):List UInt8:=([[97],[98],[99],[100],[101],[]]:List (List UInt8)).getD (n % 6) []
def mkL:Nat->List Bit->List Iv
 | _,[]=>[]
 | p,b::l=>⟨unS b.u,mkRat ((p+b.g % 3:Nat):Int) 2,mkRat ((p+b.g % 3+(1+b.t % 6):Nat):Int) 2⟩::mkL (p+b.g % 3+(1+b.t % 6)) l
def endL:Nat->List Bit->Nat
 | p,[]=>p
 | p,b::l=>endL (p+b.g % 3+(1+b.t % 6)) l
theorem mkL_len:∀ (p:Nat)(l:List Bit),(mkL p l).length=l.length
 | _,[]=>rfl
 | p,b::l=>by simp [mkL,mkL_len _ l]
theorem mkL_snoc:∀ (p:Nat)(l:List Bit)(b:Bit),mkL p (l++[b])=mkL p l++[⟨unS b.u,mkRat ((endL p l+b.g % 3:Nat):Int) 2,mkRat ((endL p l+b.g % 3+(1+b.t % 6):Nat):Int) 2⟩]
 | p,[],b=>rfl
 | p,a::l,b=>by simp [mkL,endL,mkL_snoc _ l b]
theorem endL_snoc:∀ (p:Nat)(l:List Bit)(b:Bit),endL p (l++[b])=endL p l+b.g % 3+(1+b.t % 6)
 | p,[],b=>rfl
 | p,a::l,b=>by simp [endL,endL_snoc _ l b]
theorem endL_le:∀ (p:Nat)(l:List Bit),endL p l<=p+8*l.length
 | p,[]=>by simp [endL]
 | p,b::l=>by
  have:=endL_le (p+b.g % 3+(1+b.t % 6)) l
  have h1:b.g % 3<3:=Nat.mod_lt _ (by decide)
  have h2:b.t % 6<6:=Nat.mod_lt _ (by decide)
  simp only [endL,List.length_cons];omega
theorem hf_nat (n:Nat):Hf (mkRat (n:Int) 2):=⟨n,rfl⟩
theorem rat2_le {m n:Nat}(h:m<=n):mkRat (m:Int) 2<=mkRat (n:Int) 2:=by
 rw [mk2,mk2]
 have:((m:Int):Rat)<=((n:Int):Rat):=Rat.intCast_le_intCast.2 om_
 grind
theorem rat2_lt {m n:Nat}(h:m<n):mkRat (m:Int) 2<mkRat (n:Int) 2:=by
 rw [mk2,mk2]
 have:((m:Int):Rat)<((n:Int):Rat):=Rat.intCast_lt_intCast.2 om_
 grind
theorem rat2_add (m n:Nat):mkRat ((m+n:Nat):Int) 2=mkRat (m:Int) 2+mkRat (n:Int) 2:=by
 rw [mk2,mk2,mk2]
 have:(((m+n:Nat):Int):Rat)=((m:Int):Rat)+((n:Int):Rat):=by rw [<- Rat.intCast_add];congr 1
 grind
theorem mkL_mem:∀ {p:Nat}{l:List Bit}{x:Iv},x∈mkL p l->p+8*l.length<=1000->x.Ok/\∃ n,x.u=unS n
 | p,[],x,h,_=>by cases h
 | p,b::l,x,h,hp=>by
  have h1:b.g % 3<3:=Nat.mod_lt _ (by decide)
  have h2:b.t % 6<6:=Nat.mod_lt _ (by decide)
  simp only [List.length_cons] at hp
  unfold mkL at h
  rcases List.mem_cons.1 h with rfl | h
  ·refine ⟨⟨hf_nat _,hf_nat _, ?_,rat2_lt om_, ?_, ?_⟩,b.u,rfl⟩
   ·have:mkRat ((0:Nat):Int) 2<=mkRat ((p+b.g % 3:Nat):Int) 2:=rat2_le (Nat.zero_le _)
    rw [show mkRat ((0:Nat):Int) 2=0 by decide +kernel] at this
    exact this
   ·show mkRat ((p+b.g % 3+(1+b.t % 6):Nat):Int) 2<=mkRat ((p+b.g % 3:Nat):Int) 2+3
    rw [rat2_add]
    have:mkRat ((1+b.t % 6:Nat):Int) 2<=mkRat ((6:Nat):Int) 2:=rat2_le om_
    rw [show mkRat ((6:Nat):Int) 2=3 by decide +kernel] at this
    grind
   ·have:mkRat ((p+b.g % 3:Nat):Int) 2<=mkRat ((2000:Nat):Int) 2:=rat2_le om_
    rw [show mkRat ((2000:Nat):Int) 2=1000 by decide +kernel] at this
    exact this
  ·exact mkL_mem h om_
theorem mkL_order:∀ {p:Nat}{l:List Bit}{i:Nat},i+1<(mkL p l).length->(ivAt (mkL p l) i).b<=(ivAt (mkL p l) (i+1)).a
 | p,[],i,h=>by simp [mkL] at h
 | p,[b],i,h=>by simp [mkL] at h
 | p,b::c::l,0,_=>by
  show mkRat ((p+b.g % 3+(1+b.t % 6):Nat):Int) 2<=mkRat ((p+b.g % 3+(1+b.t % 6)+c.g % 3:Nat):Int) 2
  exact rat2_le om_
 | p,b::c::l,i+1,h=>by
  have h':i+1<(mkL (p+b.g % 3+(1+b.t % 6)) (c::l)).length:=by simp [mkL] at h ⊢;omega
  have:=mkL_order (p:=p+b.g % 3+(1+b.t % 6)) (l:=c::l) (i:=i) h'
  exact this
theorem cost_of (n:Nat):Cost (mkRat ((n % 6:Nat):Int) 2):=by
 have h2:n % 6<6:=Nat.mod_lt _ (by decide)
 refine ⟨hf_nat _, ?_, ?_⟩
 ·have:mkRat ((0:Nat):Int) 2<=mkRat ((n % 6:Nat):Int) 2:=rat2_le (Nat.zero_le _)
  rw [show mkRat ((0:Nat):Int) 2=0 by decide +kernel] at this
  exact this
 ·have:mkRat ((n % 6:Nat):Int) 2<=mkRat ((6:Nat):Int) 2:=rat2_le om_
  rw [show mkRat ((6:Nat):Int) 2=3 by decide +kernel] at this
  exact this
end Dp
end Go.Jog
namespace Go.Proofs.YtjhmlnebikbdbaaGreatDoor
open Go Go.Jog Go.Jog.Dp
set_option maxRecDepth 100000

theorem unS_at (n:Nat):(([[97],[98],[99],[100],[101],[]]:List Str).map encS)[(((n % 6:Nat):Int)).toNat]?=some [strV (unS n)]:=by
 rw [Int.toNat_natCast,List.getElem?_map]
 have h:n % 6<6:=Nat.mod_lt _ (by decide)
 unfold unS
 rw [List.getD_eq_getElem?_getD,List.getElem?_eq_getElem (by simpa using h)];rfl
theorem units43_fn (C:Mem)(n:Nat)(_hn:n<256):Gives cx.P 55 [.int .u8 n] C (strV (unS n)):=by
 refine Fn.it kr_ Tryz.func55 8 fun w0=>?_
 refine G.z1 1 0 ?_
 refine G.rg fun R hR=>?_
 refine D.ah (([[97],[98],[99],[100],[101],[]]:List Str).map encS) (fun p3 C3 hle3 hs3=>?_)
 refine D.ae ?_
 refine D.cX n 6 rfl rfl rfl rfl rfl rfl (by decide) rfl rfl ?_
 refine D.ai (hs3.mono mup) rfl rfl rfl rfl rfl rfl rfl rfl rfl rfl om_ (unS_at n) fl_ (fun p6 hp6=>?_)
 refine D.aa hp6 ?_
 refine D.q1 1 2 hR ?_
 refine G.rf ?_
 exact ⟨rfl,rfl⟩
def df (b:Dp.Bit):List Value:=[.int .u8 b.g,.int .u8 b.t,.int .u8 b.u]
structure BitR (b:Dp.Bit):Prop where
 g:b.g<256
 t:b.t<256
 u:b.u<256
theorem make43_fn (C:Mem)(hT:Tabs C)(v:Value)(l:List Dp.Bit)(hv:Sl C 3 v (l.map df))(hl:l.length<=8)(hb:∀ b∈l,BitR b):Pur cx.P 18 [v] C fun u D=>Sl D 3 u ((mkL 0 l).map ivC):=by
 obtain ⟨A0,c0,rfl,_⟩:=id hv
 simp only [List.length_map] at hv ⊢
 refine Fn.it kr_ Tryz.func18 62 fun w0=>?_
 refine G.z1 1 0 ?_
 refine G.z2 1 0 3 ?_
 refine G.z3 1 0 3 4 ?_
 refine G.z4 1 0 3 4 5 ?_
 refine G.nilArr 156 3 ?_
 refine G.loop (fun fr C' L' μ=>∃ (i:Nat)(A:Option Addr)(n c:Nat),(i<=l.length)/\fr=[(0,[],.slice A0 l.length c0),(3,[],.slice A n c),(4,[],.int .i64 (endL 0 (l.take i):Nat)),(5,[],.int .i64 i)]/\L'=[.arr (.slice A n c) 156 3 i ((mkL 0 (l.take i)).map ivC).flatten]/\μ=l.length-i) (h_4 0 3 4 5) ⟨0,none,0,0,Nat.zero_le _,rfl,rfl,rfl⟩ (fun fr C0' L0' m hle0 hI=>?_)
 obtain ⟨i,A,n,c,hi,rfl,rfl,rfl⟩:=hI
 refine G.rp 7 fun R hR=>?_
 refine D.aC rfl rfl rfl rfl rfl rfl rfl rfl ?_
 refine D.e5 0 3 4 5 17 hR ?_
 refine G.cd (fun h17=>?_) fun h17=>?_
 ·have hil:i<l.length:=by
   have h':(decide ((i:Int)<(l.length:Int)) && decide ((i:Int)<8))=true:=h17
   simp only [Bool.and_eq_true,decide_eq_true_eq] at h'
   omega
  obtain ⟨b,hbi⟩:∃ b,l[i]?=some b:=⟨_,List.getElem?_eq_getElem hil⟩
  have hbr:=hb b (List.mem_of_getElem? hbi)
  have hrow:(l.map df)[((i:Nat):Int).toNat]?=some (df b):=by rw [Int.toNat_natCast,List.getElem?_map,hbi];rfl
  have htk:l.take (i+1)=l.take i++[b]:=by rw [List.take_add_one,hbi];rfl
  have hen:=endL_le 0 (l.take i)
  rw [List.length_take] at hen
  have m1:b.g % 3<3:=Nat.mod_lt _ (by decide)
  have m2:b.t % 6<6:=Nat.mod_lt _ (by decide)
  refine G.rp 3 fun R hR=>?_
  refine D.ai (hv.mono mup) rfl rfl rfl rfl rfl rfl rfl rfl rfl rfl om_ hrow fl_ (fun p23 hp23=>?_)
  refine D.d6 hp23 rfl rfl rfl rfl rfl rfl rfl rfl rfl rfl fl_ (fun p24 hp24=>?_)
  refine D.aa hp24 ?_
  refine D.cX b.g 3 rfl rfl rfl rfl rfl rfl (by decide) rfl rfl ?_
  refine D.bL (c:=((b.g % 3:Nat):Int)) rfl rfl rfl rfl rfl rfl rfl rfl (by rw [IntKind.wrap_i64];omega) fl_ ?_
  refine D.ax _ ?_
  refine D.q4 1 0 3 4 5 hR ?_
  refine G.rp 1 fun R hR=>?_
  refine D.au (rof_fn _ (hT.mono mup) ((endL 0 (l.take i)+b.g % 3:Nat):Int) 2 om_ om_ om_) rfl rfl rfl rfl rfl rfl rfl fl_ ?_
  refine D.q5 5 0 3 4 5 6 hR ?_
  refine G.rp 3 fun R hR=>?_
  refine D.ai (hv.mono mup) rfl rfl rfl rfl rfl rfl rfl rfl rfl rfl om_ hrow fl_ (fun p37 hp37=>?_)
  refine D.d6 hp37 rfl rfl rfl rfl rfl rfl rfl rfl rfl rfl fl_ (fun p38 hp38=>?_)
  refine D.aa hp38 ?_
  refine D.cX b.t 6 rfl rfl rfl rfl rfl rfl (by decide) rfl rfl ?_
  refine D.bL (c:=((b.t % 6:Nat):Int)) rfl rfl rfl rfl rfl rfl rfl rfl (by rw [IntKind.wrap_i64];omega) fl_ ?_
  refine D.ax _ ?_
  refine D.ax _ ?_
  refine D.q5 1 0 3 4 5 6 hR ?_
  refine G.rp 1 fun R hR=>?_
  refine D.au (rof_fn _ (hT.mono mup) ((endL 0 (l.take i)+b.g % 3+(1+b.t % 6):Nat):Int) 2 om_ om_ om_) rfl rfl rfl rfl rfl rfl rfl fl_ ?_
  refine D.q6 5 0 3 4 5 6 8 hR ?_
  refine G.rp 3 fun R hR=>?_
  refine D.ai (hv.mono mup) rfl rfl rfl rfl rfl rfl rfl rfl rfl rfl om_ hrow fl_ (fun p52 hp52=>?_)
  refine D.d6 hp52 rfl rfl rfl rfl rfl rfl rfl rfl rfl rfl fl_ (fun p53 hp53=>?_)
  refine D.aa hp53 ?_
  refine D.am (units43_fn _ b.u hbr.u) ?_
  refine D.ps 2 ?_
  refine D.build (ivC ⟨unS b.u,mkRat ((endL 0 (l.take i)+b.g % 3:Nat):Int) 2,mkRat ((endL 0 (l.take i)+b.g % 3+(1+b.t % 6):Nat):Int) 2⟩) rfl rfl rfl rfl rfl rfl rfl rfl ?_
  refine D.ah [ivC ⟨unS b.u,mkRat ((endL 0 (l.take i)+b.g % 3:Nat):Int) 2,mkRat ((endL 0 (l.take i)+b.g % 3+(1+b.t % 6):Nat):Int) 2⟩] (fun p59 C59 hle59 hs59=>?_)
  refine D.ak (j:=0) rfl rfl rfl rfl rfl rfl rfl rfl rfl rfl rfl (hs59.mono mup) rfl (by simp only [List.length_singleton,maxLen];omega) (by show (i+1)*48<=_;omega) fl_ (fun A60 n60 c60=>?_)
  refine D.q4 1 0 3 4 5 hR ?_
  refine G.rp 1 fun R hR=>?_
  refine D.ax _ ?_
  refine D.q4 1 0 3 4 5 hR ?_
  rw [show (((endL 0 (l.take i):Nat):Int)+((b.g % 3:Nat):Int)+(1+((b.t % 6:Nat):Int)))=((endL 0 (l.take (i+1)):Nat):Int) from by rw [htk,endL_snoc];omega]
  refine G.bv (L':=[.arr (.slice A60 n60 c60) 156 3 (i+1) ((mkL 0 (l.take (i+1))).map ivC).flatten]) (by rw [htk,mkL_snoc];simp) ?_
  refine G.aB (m':=l.length-(i+1)) om_ mup (h_4 0 3 4 5) ⟨i+1,A60,n60,c60,by omega,rfl,rfl,rfl⟩
 ·obtain rfl:i=l.length:=by
   have h':(decide ((i:Int)<(l.length:Int)) && decide ((i:Int)<8))=false:=h17
   simp only [Bool.and_eq_false_iff,decide_eq_false_iff_not] at h'
   omega
  refine G.freezeArr 0 ((mkL 0 l).map ivC) rfl (by rw [List.take_length]) (by intro r hr;obtain ⟨y,_,rfl⟩:=List.mem_map.1 hr;rfl) (by rw [List.length_map,mkL_len]) (fun Cf hf hsd=>?_)
  refine G.z1 2 2 ?_
  refine G.rf ?_
  exact ⟨rfl,hsd.mono mup⟩
open Go Go.Jog Go.Jog.Dp
set_option maxRecDepth 100000

def hlf (n:Nat):Rat:=mkRat ((n % 6:Nat):Int) 2
theorem half44_fn (C:Mem)(hT:Tabs C)(n:Nat)(_hn:n<256):Gives cx.P 16 [.int .u8 n] C (strV (qtx (hlf n))):=by
 have m1:n % 6<6:=Nat.mod_lt _ (by decide)
 refine Fn.it kr_ Tryz.func16 13 fun w0=>?_
 refine G.z1 1 0 ?_
 refine G.rp 1 fun R hR=>?_
 refine D.cX n 6 rfl rfl rfl rfl rfl rfl (by decide) rfl rfl ?_
 refine D.bL (c:=((n % 6:Nat):Int)) rfl rfl rfl rfl rfl rfl rfl rfl (by rw [IntKind.wrap_i64];omega) fl_ ?_
 refine D.au (rof_fn _ (hT.mono mup) ((n % 6:Nat):Int) 2 om_ om_ om_) rfl rfl rfl rfl rfl rfl rfl fl_ ?_
 refine D.q1 5 3 hR ?_
 refine G.z1 2 2 ?_
 refine G.rf ?_
 exact ⟨rfl,rfl⟩
structure KS where
 a:Nat
 b:Nat
 c:Nat
 d:Nat
structure KS.R (k:KS):Prop where
 a:k.a<256
 b:k.b<256
 c:k.c<256
 d:k.d<256
def qnOf (l r:List Dp.Bit)(k:KS):Qn:=⟨mkL 0 (l.take 5),mkL 0 (r.take 5),hlf k.a,hlf k.b,hlf k.c,hlf k.d⟩
theorem unS_name (n:Nat):(unS n).length<100/\(unS n=[]∨isNameB (unS n)=true):=by
 have h:n % 6<6:=Nat.mod_lt _ (by decide)
 unfold unS
 rcases (by omega:n % 6=0∨n % 6=1∨n % 6=2∨n % 6=3∨n % 6=4∨n % 6=5) with e | e | e | e | e | e <;> rw [e] <;> decide +kernel
theorem mkL_ok (l:List Dp.Bit)(h:l.length<=5):LogOk (mkL 0 l) :=
 ⟨fun x hx=>(mkL_mem hx om_).1,fun x hx=>by obtain ⟨n,hn⟩:=(mkL_mem hx om_).2;rw [hn];exact unS_name n,fun i hi=>mkL_order hi,by rw [mkL_len];omega⟩
theorem qnOf_ok (l r:List Dp.Bit)(k:KS):QOk (qnOf l r k):=by
 have h1:=mkL_ok (l.take 5) (by rw [List.length_take];omega)
 have h2:=mkL_ok (r.take 5) (by rw [List.length_take];omega)
 exact ⟨⟨h1.i,h2.i,h1.n,h2.n,cost_of _,cost_of _,cost_of _,cost_of _⟩,h1,h2⟩
theorem make44_fn (C:Mem)(hT:Tabs C)(vL vR:Value)(l r:List Dp.Bit)(k:KS)(hk:k.R)(hl:Sl C 3 vL (l.map df))(hr:Sl C 3 vR (r.map df))(hlb:∀ b∈l,BitR b)(hrb:∀ b∈r,BitR b) :
  Pur cx.P 5 [.agg ⟨[vL,vR,.int .u8 k.a,.int .u8 k.b,.int .u8 k.c,.int .u8 k.d]⟩] C fun u D=>∃ A1 n1 c1 A2 n2 c2,u=.agg ⟨qC (.slice A1 n1 c1) (.slice A2 n2 c2) (qnOf l r k)⟩/\QIn D (.slice A1 n1 c1) (.slice A2 n2 c2) (qnOf l r k):=by
 obtain ⟨AL,cL,rfl,_⟩:=id hl
 obtain ⟨AR,cR,rfl,_⟩:=id hr
 simp only [List.length_map] at hl hr ⊢
 have hcL:=(Sl.cap hl).2.1
 have hcR:=(Sl.cap hr).2.1
 have hl5:=Sl.sub hl (l:=0) (h:=min l.length 5) (m:=cL) (Nat.zero_le _) (by simp;omega) om_ (Nat.le_refl _)
 have hr5:=Sl.sub hr (l:=0) (h:=min r.length 5) (m:=cR) (Nat.zero_le _) (by simp;omega) om_ (Nat.le_refl _)
 have esub:∀ l:List Dp.Bit,((l.map df).take (min l.length 5)).drop 0=(l.take 5).map df:=fun l=>by
  rw [List.drop_zero,<- List.map_take]
  rcases Nat.le_total l.length 5 with h | h
  ·rw [Nat.min_eq_left h,List.take_length,List.take_of_length_le h]
  ·rw [Nat.min_eq_right h]
 rw [esub] at hl5 hr5
 refine Fn.it kr_ Tryz.func5 42 fun w0=>?_
 refine G.rg fun R hR=>?_
 refine D.aM (fun b1=>?_)
 refine D.aj (fun b2=>?_)
 refine D.e2 1 2 hR ?_;clear hR R
 refine G.freeze 1 rfl (fun C1 hle1 hb1=>?_)
 refine G.z3 1 1 2 3 ?_
 refine G.aI [0,1,2,3,4,5,6,8,9,10,11,12,13,14,16,17,18,19,21,22,23,24,26,27,28,29,31,32,33,34,7,15,20,25,30,35,36,37,38] [(20,1),(25,1),(30,1),(35,1),(1,0),(3,0),(9,0),(11,0)] rfl kr_ (fun R hB hR=>?_)
 refine D.ae ?_
 refine D.cO (fun _=>((bkT hb1 1).mono hB)) rfl rfl rfl rfl rfl rfl rfl rfl rfl ?_
 refine D.ae ?_
 refine D.cO (fun _=>((bkT hb1 1).mono hB)) rfl rfl rfl rfl rfl rfl rfl rfl rfl ?_
 refine D.ae ?_
 refine D.min (((min l.length 5:Nat):Int)) rfl rfl rfl rfl rfl rfl om_ rfl rfl ?_
 refine D.dH 0 (min l.length 5) cL rfl rfl rfl rfl rfl rfl rfl rfl rfl rfl rfl rfl (fun _=>⟨.inl ⟨rfl,rfl⟩,.inr ⟨_,rfl⟩,.inl ⟨rfl,rfl⟩,by omega,by omega,Nat.le_refl _⟩) rfl rfl ?_
 refine D.ae ?_
 refine D.cO (fun _=>((bkT hb1 1).mono hB)) rfl rfl rfl rfl rfl rfl rfl rfl rfl ?_
 refine D.ae ?_
 refine D.cO (fun _=>((bkT hb1 1).mono hB)) rfl rfl rfl rfl rfl rfl rfl rfl rfl ?_
 refine D.ae ?_
 refine D.min (((min r.length 5:Nat):Int)) rfl rfl rfl rfl rfl rfl om_ rfl rfl ?_
 refine D.dH 0 (min r.length 5) cR rfl rfl rfl rfl rfl rfl rfl rfl rfl rfl rfl rfl (fun _=>⟨.inl ⟨rfl,rfl⟩,.inr ⟨_,rfl⟩,.inl ⟨rfl,rfl⟩,by omega,by omega,Nat.le_refl _⟩) rfl rfl ?_
 refine D.ps 2 ?_
 refine D.indexP (2) rfl rfl rfl rfl rfl rfl rfl rfl rfl (fun _=>⟨by decide,by decide,rfl⟩) rfl rfl ?_
 refine D.aa (bkT hb1 1) ?_
 refine D.ps 2 ?_
 refine D.indexP (3) rfl rfl rfl rfl rfl rfl rfl rfl rfl (fun _=>⟨by decide,by decide,rfl⟩) rfl rfl ?_
 refine D.aa (bkT hb1 1) ?_
 refine D.ps 2 ?_
 refine D.indexP (4) rfl rfl rfl rfl rfl rfl rfl rfl rfl (fun _=>⟨by decide,by decide,rfl⟩) rfl rfl ?_
 refine D.aa (bkT hb1 1) ?_
 refine D.ps 2 ?_
 refine D.indexP (5) rfl rfl rfl rfl rfl rfl rfl rfl rfl (fun _=>⟨by decide,by decide,rfl⟩) rfl rfl ?_
 refine D.aa (bkT hb1 1) ?_
 refine D.ap (make43_fn _ (hT.mono mup) _ (l.take 5) (hl5.mono mup) (by rw [List.length_take];omega) (fun b h=>hlb b (List.mem_of_mem_take h))) rfl rfl rfl rfl rfl rfl rfl fl_ (fun v11 C11 hle11 hq11=>?_)
 refine D.ap (make43_fn _ (hT.mono mup) _ (r.take 5) (hr5.mono mup) (by rw [List.length_take];omega) (fun b h=>hrb b (List.mem_of_mem_take h))) rfl rfl rfl rfl rfl rfl rfl fl_ (fun v19 C19 hle19 hq19=>?_)
 refine D.aP (fun _=>(half44_fn _ (hT.mono mup) k.a hk.a)) ?_
 refine D.aP (fun _=>(half44_fn _ (hT.mono mup) k.b hk.b)) ?_
 refine D.aP (fun _=>(half44_fn _ (hT.mono mup) k.c hk.c)) ?_
 refine D.aP (fun _=>(half44_fn _ (hT.mono mup) k.d hk.d)) ?_
 obtain ⟨A1,c1,rfl,_⟩:=id hq11
 obtain ⟨A2,c2,rfl,_⟩:=id hq19
 refine D.build [strV (qtx (hlf k.a)),strV (qtx (hlf k.b)),strV (qtx (hlf k.c)),strV (qtx (hlf k.d))] rfl rfl rfl rfl rfl rfl rfl rfl ?_
 refine D.build (qC (.slice A1 _ c1) (.slice A2 _ c2) (qnOf l r k)) rfl rfl rfl rfl rfl rfl rfl rfl ?_
 refine D.ac (j:=0) ?_
 refine D.e1 2 hR ?_;clear hR hB R
 refine G.aA (G.dG (.head _) rfl rfl rfl rfl ?_)
 exact ⟨rfl,A1,_,c1,A2,_,c2,rfl,hq11.mono mup,hq19.mono mup⟩
open Go Go.Jog Go.Jog.Dp
set_option maxRecDepth 100000

def rowLn (w:SV)(l:List Str):Lent:=.arr (.slice w.A w.n w.c) l.length 1 26 (l.map encS)
def rowsE (ws:List SV)(P:List (List Str)):List Ent:=(List.zipWith rowLn ws P).map Lent.ent
theorem rowsE_snoc {ws:List SV}{P:List (List Str)}(h:ws.length=P.length)(w:SV)(l:List Str):rowsE (ws++[w]) (P++[l])=rowsE ws P++[.arr (.slice w.A w.n w.c) 26 1 l.length (l.map encS).flatten]:=by
 unfold rowsE
 rw [List.zipWith_append h,List.map_append];rfl
theorem rowsE_at {ws:List SV}{P:List (List Str)}{k:Nat}{w:SV}{l:List Str}(h1:ws[k]?=some w)(h2:P[k]?=some l):(rowsE ws P)[k]?=some (.arr (.slice w.A w.n w.c) 26 1 l.length (l.map encS).flatten):=by
 unfold rowsE
 rw [List.getElem?_map,List.getElem?_zipWith,h1,h2];rfl
theorem perm_set {α:Type}:∀ {l:List α}{k:Nat}{x:α},k<l.length->(x::l.eraseIdx k).Perm (l.set k x)
 | y::l,0,x,_=>by simp
 | y::l,k+1,x,h=>by
  simp only [List.eraseIdx_cons_succ,List.set_cons_succ]
  exact (List.Perm.swap y x _).trans ((perm_set (by simp at h;omega)).cons y)
theorem rowsE_set {ws:List SV}{P:List (List Str)}{k:Nat}{w:SV}(l:List Str)(h1:ws[k]?=some w)(hk:k<P.length):(rowsE ws P).set k (.arr (.slice w.A w.n w.c) 26 1 l.length (l.map encS).flatten)=rowsE ws (P.set k l):=by
 refine List.ext_getElem? fun i=>?_
 rw [List.getElem?_set]
 have hkw:=(List.getElem?_eq_some_iff.1 h1).1
 unfold rowsE
 rw [List.getElem?_map,List.getElem?_zipWith,List.getElem?_map,List.getElem?_zipWith,List.getElem?_set]
 by_cases hi:k=i
 ·subst hi
  rw [if_pos rfl,if_pos rfl,if_pos (by simp;omega),if_pos hk,h1];rfl
 ·rw [if_neg hi,if_neg hi]
theorem rows_wf {ws:List SV}{P:List (List Str)}:∀ x∈List.zipWith rowLn ws P,x.wf:=by
 intro x hx
 obtain ⟨i,hi⟩:=List.getElem?_of_mem hx
 rw [List.getElem?_zipWith] at hi
 cases h1:ws[i]? with
 | none=>rw [h1] at hi;cases hi
 | some w =>
  cases h2:P[i]? with
  | none=>rw [h1,h2] at hi;cases hi
  | some l =>
   rw [h1,h2] at hi;cases hi
   exact ⟨by simp,fun r hr=>by obtain ⟨w,_,rfl⟩:=List.mem_map.1 hr;rfl⟩
theorem steps_len:∀ x:Nat × Nat × Nat,(stS x).length=3:=fun _=>rfl
theorem encS_len:∀ s:Str,(encS s).length=1:=fun _=>rfl
theorem sv_len:∀ s:SV,(SV.enc s).length=1:=fun _=>rfl
theorem G.bK {F:Fx}{k:List KI}{fr:Fr}{C:Mem}{e:Exit}{b:Ent}{vO vS:Value}{ws:List SV}{P:List (List Str)}{st:List (Nat × Nat × Nat)}(hl:ws.length=P.length)
  (h:∀ C',C.le C'->PotIn C' vO P->(∃ c,vO=.slice (match vO with | .slice A _ _=>A | _=>none) P.length c)->Sl C' 1 vO (ws.map SV.enc)->(∀ (i:Nat)(x:SV)(l:List Str),ws[i]?=some x->P[i]?=some l->Sl C' 1 (.slice x.A x.n x.c) (l.map encS))->Sl C' 3 vS (st.map stS)->G F k e fr C' [b]) :
  G F k e fr C (b::.arr vO 48 1 ws.length (ws.map SV.enc).flatten::.arr vS 50 3 st.length (st.map stS).flatten::rowsE ws P):=by
 refine G.freezeArr 1 (ws.map SV.enc) rfl rfl (by intro r hr;obtain ⟨y,_,rfl⟩:=List.mem_map.1 hr;rfl) (by rw [List.length_map]) (fun C1 h1 s1=>?_)
 refine G.freezeArr 1 (st.map stS) rfl rfl (by intro r hr;obtain ⟨y,_,rfl⟩:=List.mem_map.1 hr;rfl) (by rw [List.length_map]) (fun C2 h2 s2=>?_)
 refine G.perm (L':=rowsE ws P++[b]) (List.perm_append_comm (l₁:=[_])) ?_
 refine G.ey _ rows_wf fun C3 h3 hs=>?_
 have hr:∀ (i:Nat)(x:SV)(l:List Str),ws[i]?=some x->P[i]?=some l->Sl C3 1 (.slice x.A x.n x.c) (l.map encS):=fun i x l e1 e2=>by
  refine hs (rowLn x l) (List.mem_of_getElem? (i:=i) ?_)
  rw [List.getElem?_zipWith,e1,e2]
 have ho:=s1.mono (h2.trans h3)
 refine h C3 ((h1.trans h2).trans h3) ⟨ws,ho,hl,hr⟩ ?_ ho hr (s2.mono h3)
 obtain ⟨A,c,rfl,_⟩:=id ho
 exact ⟨c,by rw [List.length_map,hl]⟩
theorem step_write {st:List (Nat × Nat × Nat)}{k k0 a b v:Nat}(h:st[k]?=some (k0,a,b)):aw ((st.map stS).flatten) [.int .i64 v] (k*3)=((st.set k (v,a,b)).map stS).flatten:=by
 obtain ⟨h1,h2⟩:=List.getElem?_eq_some_iff.1 h
 have e:st=st.take k++(k0,a,b)::st.drop (k+1):=by
  conv=>lhs;rw [<- List.take_append_drop k st]
  rw [List.drop_eq_getElem_cons h1,h2]
 have hs:st.set k (v,a,b)=st.take k++(v,a,b)::st.drop (k+1):=by
  rw [List.set_eq_take_append_cons_drop,if_pos h1]
 have hl:((st.take k).map stS).flatten.length=k*3:=by rw [bk steps_len,List.length_take,Nat.min_eq_left om_]
 rw [hs]
 conv=>lhs;rw [e]
 rw [List.map_append,List.flatten_append,List.map_append,List.flatten_append,List.map_cons,List.flatten_cons,List.map_cons,List.flatten_cons]
 unfold aw
 rw [<- hl,List.take_left,List.append_assoc]
 congr 1
 rw [List.drop_append]
 have:∀ (X Y:List Value),X.drop (X.length+[Value.int IntKind.i64 v].length)=[]:=fun X Y=>List.drop_of_length_le (by simp)
 rw [this _ []]
 simp only [List.nil_append]
 rw [Nat.add_sub_cancel_left];rfl
def rowP (q:Qn)(i:Nat):List Str:=(List.range (q.r.length+1)).map fun j=>qtx (q.al.pv (i,j))
def potP (q:Qn):List (List Str):=(List.range (q.l.length+1)).map (rowP q)
theorem ec (q:Qn)(i:Nat):(rowP q i).length=q.r.length+1:=by simp [rowP]
theorem potP_len (q:Qn):(potP q).length=q.l.length+1:=by simp [potP]
theorem potP_at {q:Qn}{i:Nat}(h:i<=q.l.length):(potP q)[i]?=some (rowP q i):=by
 unfold potP;rw [List.getElem?_map,List.getElem?_range om_];rfl
theorem potP_mem {q:Qn}{l:List Str}(h:l∈potP q):∃ i,i<=q.l.length/\l=rowP q i:=by
 unfold potP at h
 obtain ⟨i,hi,rfl⟩:=List.mem_map.1 h
 exact ⟨i,by have:=List.mem_range.1 hi;omega,rfl⟩
theorem cells_row (q:Qn)(i:Nat):d5 (fun i j=>q.al.pv (i,j)) q.r.length i=(rowP q i).map encS:=by
 unfold d5 rowP;rw [List.map_map];rfl
theorem rowP_short {q:Qn}(ok:q.Ok){i:Nat}(hi:i<=q.l.length):∀ s∈rowP q i,s.length<=20:=by
 intro s h
 unfold rowP at h
 obtain ⟨j,hj,rfl⟩:=List.mem_map.1 h
 have qp:=Al.qb_pv (A:=q.al) ok.small hi (show j<=q.r.length by have:=List.mem_range.1 hj;omega)
 exact bf (qp.1.qb2 (by have:=qp.2;grind) (by have:=qp.2;grind):QB 1 _) (by decide)
theorem potP_read {q:Qn}(ok:q.Ok):(potP q).map (·.map aK)=q.al.tabP:=by
 unfold potP Al.tabP
 rw [List.map_map]
 refine List.map_congr_left fun i hi=>?_
 show (rowP q i).map aK=_
 unfold rowP
 rw [List.map_map]
 refine List.map_congr_left fun j hj=>?_
 have hi':i<=q.al.n:=by have:=List.mem_range.1 hi;show i<=q.l.length;omega
 have hj':j<=q.al.m:=by have:=List.mem_range.1 hj;show j<=q.r.length;omega
 have qp:=Al.qb_pv (A:=q.al) ok.small hi' hj'
 have qb:QB 1 (q.al.pv (i,j)):=qp.1.qb2 (by have:=qp.2;grind) (by have:=qp.2;grind)
 show aK (qtx (q.al.pv (i,j)))=q.al.potT (i,j)
 rw [ef (qb.le (by decide)),Al.pot_some hi' hj']
def svOf:Value->SV
 | .slice A n c=>⟨A,n,c⟩
 | _=>⟨none,0,0⟩
theorem tab_pot {C:Mem}{v:Value}{q:Qn}(h:TabR C v q.l.length q.r.length fun i j=>q.al.pv (i,j)):PotIn C v (potP q):=by
 obtain ⟨ws,h1,h2,h3⟩:=h.ex
 have hf:∀ w∈ws,w=.slice (svOf w).A (svOf w).n (svOf w).c:=fun w hw=>by
  obtain ⟨i,hi⟩:=List.getElem?_of_mem hw
  obtain ⟨A,c,e,_⟩:=id (h3 i w hi)
  subst e;rfl
 refine ⟨ws.map svOf, ?_,by rw [List.length_map,h2,potP_len],fun i x l e1 e2=>?_⟩
 ·rw [List.map_map]
  have:ws.map (SV.enc ∘ svOf)=ws.map fun w=>[w]:=List.map_congr_left fun w hw=>by
   show [Value.slice (svOf w).A (svOf w).n (svOf w).c]=[w]
   rw [<- hf w hw]
  rw [this];exact h1
 ·rw [List.getElem?_map] at e1
  cases hw:ws[i]? with
  | none=>rw [hw] at e1;cases e1
  | some w =>
   rw [hw] at e1;cases e1
   have hi:i<=q.l.length:=by have:=(List.getElem?_eq_some_iff.1 hw).1;omega
   rw [potP_at hi] at e2;cases e2
   rw [<- hf w (List.mem_of_getElem? hw),<- cells_row]
   exact h3 i w hw
theorem way_small {q:Qn}(ok:q.Ok):∀ x∈q.al.way (q.al.n+q.al.m) 0 0,x.1<=1000/\x.2.1<=1000/\x.2.2<=1000:=by
 intro x hx
 obtain ⟨h1,h2,h3⟩:=Al.way_mem _ _ _ (Nat.zero_le _) (Nat.zero_le _) x hx
 have h2':x.2.1<=q.l.length:=h2
 have h3':x.2.2<=q.r.length:=h3
 have:=ok.ln
 have:=ok.rn
 unfold Al.ok at h1
 simp only [Bool.or_eq_true,Bool.and_eq_true,beq_iff_eq] at h1
 omega
open Go Go.Jog Go.Jog.Dp
set_option maxRecDepth 100000

theorem perm3 {α:Type}(s o b:α)(T:List α):(s::o::b::T).Perm (b::o::s::T):=by
 classical exact List.perm_iff_count.2 fun x=>by simp only [List.count_cons];omega
structure LawOk (C:Mem)(vS:Value)(tt:Str)(vP:Value)(st:List (Nat × Nat × Nat))(P:List (List Str)):Prop where
 s:Sl C 3 vS (st.map stS)
 p:PotIn C vP P
 sl:st.length<=1000
 ss:∀ x∈st,x.1<=1000/\x.2.1<=1000/\x.2.2<=1000
 tl:tt.length<=1000
 pl:P.length<=1000
 pr:∀ l∈P,l.length<=1000/\∀ s∈l,s.length<=1000
theorem lalign_fn (C:Mem)(hT:Tabs C)(vL vR:Value)(l r:List Dp.Bit)(ks:KS)(hks:ks.R)(hl:Sl C 3 vL (l.map df))(hr:Sl C 3 vR (r.map df))(hlb:∀ b∈l,BitR b)(hrb:∀ b∈r,BitR b)(how at_ next:Nat)(_hhow:how<256)(hat:at_<256)(hnext:next<256)(by_:Str) :
  Gives cx.P 3 [.agg ⟨[vL,vR,.int .u8 ks.a,.int .u8 ks.b,.int .u8 ks.c,.int .u8 ks.d]⟩,.agg ⟨[.int .u8 how,.int .u8 at_,.int .u8 next,strV by_]⟩] C (.bool true):=by
 have hmx:maxLen<=9223372036854775807:=by simp [maxLen]
 have ok:=qnOf_ok l r ks
 obtain ⟨q,hq0⟩:∃ q,qnOf l r ks=q:=⟨_,rfl⟩
 rw [hq0] at ok
 have hln:=ok.ok.ln
 have hrn:=ok.ok.rn
 refine Fn.it kr_ Tryz.func3 173 fun w0=>?_
 refine G.rg fun R hR=>?_
 refine D.aM (fun b2=>?_)
 refine D.aM (fun b3=>?_)
 refine D.q2 1 2 3 hR ?_
 refine G.freeze 1 rfl (fun C2 hle2 hb2=>?_)
 refine G.freeze 0 rfl (fun C3 hle3 hb3=>?_)
 refine G.rg fun R hR=>?_
 refine D.am (known_fn _ (hT.mono mup)) ?_
 refine D.ps 3 ?_
 refine D.aD rfl rfl rfl rfl rfl rfl (fun _=>PtrTo.blockT (Mem.get hb3 mup) _ 1) rfl rfl rfl ?_
 refine D.ps 2 ?_
 refine D.ar ?_
 refine D.e3 2 3 23 hR ?_
 refine G.cd (fun h23=>?_) fun h23=>?_
 ·refine G.rg fun R hR=>?_
  refine D.am (known_fn _ (hT.mono mup)) ?_
  refine D.q1 1 4 hR ?_
  refine G.rf ?_
  exact ⟨rfl,rfl⟩
 ·have hby:by_.length<=20:=by
   have h':((!true) || decide ((by_.length:Int) > 20))=false:=h23
   simp only [Bool.not_true,Bool.false_or,decide_eq_false_iff_not] at h'
   omega
  refine G.rg fun R hR=>?_
  refine D.aa (bkT hb2 6) ?_
  refine D.aJ (make44_fn _ (hT.mono mup) _ _ l r ks hks (hl.mono mup) (hr.mono mup) hlb hrb) (fun v26 C26 hle26 hq26=>?_)
  obtain ⟨A1,n1,c1,A2,n2,c2,rfl,hQ⟩:=hq26
  rw [hq0] at hQ ⊢
  refine D.aj (fun b5=>?_)
  refine D.ac (j:=0) ?_
  refine D.e2 3 5 hR ?_
  refine G.freeze 0 rfl (fun C5 hle5 hb5=>?_)
  refine G.rg fun R hR=>?_
  refine D.aa (bkT hb5 6) ?_
  refine D.am (qcheck_fn _ (hT.mono mup) _ _ q (hQ.mono mup) ok) ?_
  refine D.q3 1 3 5 29 hR ?_
  refine G.cd (fun h29=>?_) fun h29=>?_
  ·exact absurd h29 (by decide)
  ·refine G.rp 1 fun R hR=>?_
   refine D.aa (bkT hb5 1) ?_
   refine D.ae ?_
   refine D.aa (bkT hb5 1) ?_
   refine D.ae ?_
   refine D.aa (bkT hb5 4) ?_
   refine D.build (qC (.slice A1 n1 c1) (.slice A2 n2 c2) q) rfl rfl rfl rfl rfl rfl rfl rfl ?_
   refine D.aj (fun b6=>?_)
   refine D.ac (j:=0) ?_
   refine D.e3 3 5 6 hR ?_
   refine G.freeze 0 rfl (fun C6 hle6 hb6=>?_)
   refine G.rg fun R hR=>?_
   refine D.aa (bkT hb5 6) ?_
   refine D.aJ (best_fn _ (hT.mono mup) _ _ q (hQ.mono mup) ok) (fun v39 C39 hle39 hq39=>?_)
   obtain ⟨AS,nS,cS,rfl,hS⟩:=hq39
   refine D.ps 3 ?_
   refine D.aj (fun b7=>?_)
   refine D.ac (j:=0) ?_
   refine D.q5 1 3 5 6 7 8 hR ?_
   refine G.rg fun R hR=>?_
   refine D.aa (bkT hb5 6) ?_
   refine D.aJ (cpotentials_fn _ (hT.mono mup) _ _ q (hQ.mono mup) ok) (fun v44 C44 hle44 hq44=>?_)
   obtain ⟨bT,cT,rfl,hTR⟩:=hq44
   refine D.q7 5 3 5 6 7 8 9 10 hR ?_
   obtain ⟨st,hst0⟩:∃ st,q.al.way (q.al.n+q.al.m) 0 0=st:=⟨_,rfl⟩
   have hsm:=way_small ok.ok
   have hstl:st.length<=16:=by have:=Al.way_len (A:=q.al) (q.al.n+q.al.m) 0 0;rw [hst0] at this;have e1:q.al.n=q.l.length:=rfl;have e2:q.al.m=q.r.length:=rfl;omega
   rw [hst0] at hS hsm
   have hPot:=tab_pot hTR
   have qz:=Al.qb_rv (A:=q.al) ok.ok.small (Nat.zero_le _) (Nat.zero_le _)
   have q00:QB 1 (rvT q 0 0):=qz.1.qb2 (by have:=qz.2;grind) (by have:=qz.2;grind)
   have hver:q.al.verB st (aK (qtx (rvT q 0 0))) ((potP q).map (·.map aK))=true:=by
    rw [ef (q00.le (by decide)),potP_read ok.ok,<- hst0]
    exact Al.ver_given _
   have htl:(qtx (rvT q 0 0)).length<=1000:=Nat.le_trans (bf q00 (by decide)) (by decide)
   have hPr:∀ l∈potP q,l.length<=1000/\∀ s∈l,s.length<=1000:=fun l h=>by
    obtain ⟨i,hi,rfl⟩:=potP_mem h
    exact ⟨by rw [ec];omega,fun s h=>Nat.le_trans (rowP_short ok.ok hi s h) (by decide)⟩
   have hPl:(potP q).length<=1000:=by rw [potP_len];omega
   obtain ⟨wsT,hwsT,hwTl,hwTr⟩:=id hTR.ex
   refine G.rp 5 fun R hR=>?_
   refine D.ar ?_
   refine D.ae ?_
   refine D.aD rfl rfl rfl rfl rfl rfl (fun _=>PtrTo.blockT (Mem.get hb6 mup) _ 6) rfl rfl rfl ?_
   refine D.ag (.head _) ?_
   refine D.ae ?_
   refine D.aU (fun _=>(alignment_fn _ (hT.mono mup) _ _ q (hQ.mono mup) ok.ok st _ (hS.mono mup) om_ hsm _ htl _ (potP q) (hPot.mono mup) hPl hPr)) rfl rfl rfl rfl rfl rfl rfl rfl rfl ?_
   refine D.ae ?_
   refine D.ar ?_
   refine D.e6 3 5 6 7 9 59 hR ?_
   refine G.cd (fun h59=>?_) fun h59=>?_
   ·exfalso
    have h':((false || false) || !(q.al.verB st (aK (qtx (rvT q 0 0))) ((potP q).map (·.map aK))))=true:=h59
    rw [hver] at h'
    cases h'
   ·refine G.rg fun R hR=>?_
    refine D.eN [] rfl rfl rfl rfl rfl rfl rfl rfl rfl rfl rfl rfl fl_ (fun b60=>?_)
    refine D.ae ?_
    refine D.ag (.tail _ (.head _)) ?_
    refine D.ak (j:=0) rfl rfl rfl rfl rfl rfl rfl rfl rfl rfl rfl (hS.mono mup) (by simp [stS,stepC,oneB]) (by simp only [List.length_map,List.length_nil,maxLen];omega) (by rw [List.length_map];show (0+st.length)*24<=_;omega) fl_ (fun A63 n63 c63=>?_)
    refine D.ae ?_
    refine D.ac (j:=1) ?_
    refine D.e5 3 5 6 7 9 hR ?_
    refine G.bv (L':=[.obj b7 (.cells ⟨[.slice A63 n63 c63,strV (qtx (rvT q 0 0))]⟩ 41 (0,0)),.arr (.slice A63 n63 c63) 50 3 st.length (st.map stS).flatten]) (by simp only [List.length_map,List.length_nil,List.flatten_nil,Nat.zero_add,List.nil_append];rfl) ?_
    refine G.rowAny 1 rfl (fun A' c' hv _ hmc hcM=>?_)
    injection hv with e1 e2 e3
    subst e1 e2 e3
    refine G.z6 1 3 5 6 7 9 11 ?_
    refine G.z8 3 3 5 6 7 11 65 66 67 ?_
    refine G.nilArr 48 1 ?_
    refine G.loop (fun fr C' L' μ=>∃ (i:Nat)(B:Option Addr)(m2 d2:Nat)(ws:List SV),(i<=q.l.length+1/\ws.length=i)/\fr=[(3,[],.pointer (some ⟨b3,0,none⟩)),(5,[],.pointer (some ⟨b5,0,none⟩)),(6,[],.pointer (some ⟨b6,0,none⟩)),(7,[],.pointer (some ⟨b7,0,none⟩)),(11,[],.slice B m2 d2),(65,[],.slice (some ⟨bT,0,none⟩) (q.l.length+1) cT),(66,[],.int .i64 (q.l.length+1:Nat)),(67,[],.int .i64 i)]/\L'=(.arr (.slice B m2 d2) 48 1 i (ws.map SV.enc).flatten::.obj b7 (.cells ⟨[.slice A63 st.length c63,strV (qtx (rvT q 0 0))]⟩ 41 (0,0))::.arr (.slice A63 st.length c63) 50 3 st.length (st.map stS).flatten::rowsE ws ((potP q).take i))/\μ=q.l.length+1-i) (h_8 3 5 6 7 11 65 66 67) ⟨0,none,0,0,[],⟨Nat.zero_le _,rfl⟩,rfl,rfl,rfl⟩ (fun fr C0' L0' m hle0 hI=>?_)
    obtain ⟨i,B,m2,d2,ws,⟨hi,hwl⟩,rfl,rfl,rfl⟩:=hI
    refine G.z9 1 3 5 6 7 11 65 66 67 68 ?_
    refine G.cd (fun h68=>?_) fun h68=>?_
    ·have hil:i<=q.l.length:=by have:=of_decide_eq_true h68;omega
     obtain ⟨wi,hwi,hwi2⟩:=ws_at hwTl hil
     have hwir:=hwTr _ _ hwi
     rw [cells_row] at hwir
     have htk:(potP q).take (i+1)=(potP q).take i++[rowP q i]:=by rw [List.take_add_one,potP_at hil];rfl
     refine G.rg fun R hR=>?_
     refine D.ai (hwsT.mono mup) rfl rfl rfl rfl rfl rfl rfl rfl rfl rfl om_ hwi2 fl_ (fun p69 hp69=>?_)
     refine D.aa hp69 ?_
     refine D.q9 1 3 5 6 7 11 13 65 66 67 hR ?_
     refine G.rp 1 fun R hR=>?_
     refine D.eN [] rfl rfl rfl rfl rfl rfl rfl rfl rfl rfl rfl rfl fl_ (fun b72=>?_)
     refine D.ae ?_
     refine D.ak (j:=0) rfl rfl rfl rfl rfl rfl rfl rfl rfl rfl rfl (hwir.mono mup) (by simp [encS,oneB,strV]) (by rw [List.length_map,ec];simp only [List.length_nil,maxLen];omega) (by rw [List.length_map,ec];show (0+(q.r.length+1))*16<=_;omega) fl_ (fun A74 n74 c74=>?_)
     refine D.ah [[.slice A74 n74 c74]] (fun p75 C75 hle75 hs75=>?_)
     refine D.ak (j:=1) rfl rfl rfl rfl rfl rfl rfl rfl rfl rfl rfl (hs75.mono mup) rfl (by simp only [List.length_singleton,maxLen];omega) (by show (i+1)*24<=_;omega) fl_ (fun A76 n76 c76=>?_)
     refine D.q8 1 3 5 6 7 11 65 66 67 hR ?_
     refine G.rg fun R hR=>?_
     refine D.ax _ ?_
     refine D.q8 1 3 5 6 7 11 65 66 67 hR ?_
     have e1:(ws.map SV.enc).flatten++[[Value.slice A74 n74 c74]].flatten=((ws++[(⟨A74,n74,c74⟩:SV)]).map SV.enc).flatten:=by simp [SV.enc]
     refine G.bv (L':=.arr (.slice A76 n76 c76) 48 1 (i+1) ((ws++[(⟨A74,n74,c74⟩:SV)]).map SV.enc).flatten::.arr (.slice A74 n74 c74) 26 1 (rowP q i).length ((rowP q i).map encS).flatten::.obj b7 (.cells ⟨[.slice A63 st.length c63,strV (qtx (rvT q 0 0))]⟩ 41 (0,0))::.arr (.slice A63 st.length c63) 50 3 st.length (st.map stS).flatten::rowsE ws ((potP q).take i)) (by rw [<- e1];simp only [List.length_map,List.length_nil,List.flatten_nil,Nat.zero_add,List.nil_append];rfl) ?_
     refine G.perm (L':=(.arr (.slice A76 n76 c76) 48 1 (i+1) ((ws++[(⟨A74,n74,c74⟩:SV)]).map SV.enc).flatten::.obj b7 (.cells ⟨[.slice A63 st.length c63,strV (qtx (rvT q 0 0))]⟩ 41 (0,0))::.arr (.slice A63 st.length c63) 50 3 st.length (st.map stS).flatten::rowsE (ws++[(⟨A74,n74,c74⟩:SV)]) ((potP q).take (i+1)))) (by
      rw [htk,rowsE_snoc (by rw [hwl,List.length_take,potP_len];omega)]
      exact List.Perm.cons _ (List.perm_append_comm (l₁:=[_]) (l₂:=_::_::_))) ?_
     refine G.aB (m':=q.l.length+1-(i+1)) om_ mup (h_8 3 5 6 7 11 65 66 67) ⟨i+1,A76,n76,c76,ws++[(⟨A74,n74,c74⟩:SV)],⟨by omega,by rw [List.length_append,hwl];rfl⟩,rfl,rfl,rfl⟩
    ·have hwn:i=q.l.length+1:=by have:=of_decide_eq_false h68;omega
     obtain rfl:i=ws.length:=hwl.symm
     rw [show (potP q).take ws.length=potP q from List.take_of_length_le (by rw [potP_len];omega)]
     have hlen:ws.length=(potP q).length:=by rw [potP_len];exact hwn
     refine G.rp 1 fun R hR=>?_
     refine D.ag (.tail _ (.head _)) ?_
     refine D.q6 2 3 5 6 7 11 14 hR ?_
     refine G.rp 1 fun R hR=>?_
     refine D.aa (bkT hb3 1) ?_
     refine D.cX how 6 rfl rfl rfl rfl rfl rfl (by decide) rfl rfl ?_
     refine D.e7 3 5 6 7 11 14 83 hR ?_
     refine G.z8 2 3 5 6 7 11 14 83 103 ?_
     refine G.bH (fun fr C' L' μ=>∃ (D1:Option Addr)(k1 d1:Nat)(tt:Str)(D2:Option Addr)(k2 d3:Nat)(st2:List (Nat × Nat × Nat))(P2:List (List Str)),(LawOk C' (.slice D1 k1 d1) tt (.slice D2 k2 d3) st2 P2)/\fr=[(5,[],.pointer (some ⟨b5,0,none⟩)),(6,[],.pointer (some ⟨b6,0,none⟩)),(7,[],.pointer (some ⟨b7,0,none⟩)),(11,[],.slice D2 k2 d3)]/\L'=[.obj b7 (.cells ⟨[.slice D1 k1 d1,strV tt]⟩ 41 (0,0))]) ?_ (fun fr C103 L103 μ hle103 hI=>?_)
     ·refine G.cd (fun h103=>?_) fun h103=>?_
      ·refine G.rp 1 fun R hR=>?_
       refine D.aa (bkT hb3 1) ?_
       refine D.ae ?_
       refine D.ac (j:=1) ?_
       refine D.e4 5 6 7 11 hR ?_
       refine G.bK hlen (fun Cz hz hP _ hO hRr hSt=>?_)
       refine G.ay 0 mup (h_4 5 6 7 11) ⟨_,_,_,by_,B,m2,d2,st,potP q,⟨hSt,hP,by omega,hsm,by omega,hPl,hPr⟩,rfl,rfl⟩
      ·refine G.z8 2 3 5 6 7 11 14 83 108 ?_
       refine G.cd (fun h108=>?_) fun h108=>?_
       ·refine G.z7 2 3 5 6 7 11 14 111 ?_
        refine G.cd (fun h111=>?_) fun h111=>?_
        ·have hst1:0<st.length:=by have:=of_decide_eq_true h111;omega
         refine G.rowPos 2 rfl hst1 (fun g cg hv=>?_)
         injection hv with e1 e2 e3
         subst e1 e3
         have hkl:at_ % st.length<st.length:=Nat.mod_lt _ hst1
         obtain ⟨k0,sa,sb,hx⟩:∃ k0 sa sb,st[at_ % st.length]?=some (k0,sa,sb):=⟨_,_,_,List.getElem?_eq_getElem hkl⟩
         have hsx:=hsm _ (List.mem_of_getElem? hx)
         refine G.aI [0,1,2,3,4,5,6,7,8,9,10,11,12,13] [(4,0),(10,0)] rfl kr_ (fun R hB hR=>?_)
         refine D.ae ?_
         refine D.ag (.tail _ (.head _)) ?_
         refine D.ae ?_
         refine D.aa (bkT hb3 1) ?_
         refine D.convQ (c:=((at_:Nat):Int)) rfl rfl rfl rfl rfl rfl rfl rfl (by rw [IntKind.wrap_i64];omega) rfl rfl ?_
         refine D.ae ?_
         refine D.cX at_ st.length rfl rfl rfl rfl rfl rfl hst1 rfl rfl ?_
         refine D.ae ?_
         refine D.aa (bkT hb3 1) ?_
         refine D.cX next 7 rfl rfl rfl rfl rfl rfl (by decide) rfl rfl ?_
         refine D.convQ (c:=((next % 7:Nat):Int)) rfl rfl rfl rfl rfl rfl rfl rfl (by rw [IntKind.wrap_i64];omega) rfl rfl ?_
         refine D.aO (at_ % st.length*3) rfl rfl rfl rfl rfl rfl rfl rfl rfl rfl (fun _=>⟨by omega,by omega,by rw [Int.toNat_natCast]⟩) rfl rfl ?_
         refine D.ae ?_
         refine D.aW (j:=2) rfl rfl rfl rfl rfl rfl rfl rfl rfl rfl rfl (by show at_ % st.length*3+0+1<=((st.map stS).flatten).length;rw [bk steps_len];omega) ?_
         refine D.e4 5 6 7 11 hR ?_
         have esw:=step_write (v:=next % 7) hx
         refine G.perm (L':=.obj b7 (.cells ⟨[.slice (some ⟨g,0,none⟩) st.length c63,strV (qtx (rvT q 0 0))]⟩ 41 (0,0))::.arr (.slice B m2 d2) 48 1 ws.length (ws.map SV.enc).flatten::.arr (.slice (some ⟨g,0,none⟩) st.length c63) 50 3 (st.set (at_ % st.length) (next % 7,sa,sb)).length ((st.set (at_ % st.length) (next % 7,sa,sb)).map stS).flatten::rowsE ws (potP q)) (by rw [<- esw,List.length_set];exact perm3 _ _ _ _) ?_
         refine G.bK hlen (fun Cz hz hP _ hO hRr hSt=>?_)
         refine G.ay 0 mup (h_4 5 6 7 11) ⟨_,_,_,qtx (rvT q 0 0),B,m2,d2,st.set (at_ % st.length) (next % 7,sa,sb),potP q,⟨hSt,hP,by rw [List.length_set];omega,fun x hx=>by rcases List.mem_or_eq_of_mem_set hx with h | h;exact hsm x h;(subst h;exact ⟨by show next % 7<=1000;omega,hsx.2⟩),htl,hPl,hPr⟩,rfl,rfl⟩
        ·refine G.perm (L':=_::_::_) (List.Perm.swap _ _ _) ?_
         refine G.bK hlen (fun Cz hz hP _ hO hRr hSt=>?_)
         refine G.ay 0 mup (h_4 5 6 7 11) ⟨_,_,_,qtx (rvT q 0 0),B,m2,d2,st,potP q,⟨hSt,hP,by omega,hsm,htl,hPl,hPr⟩,rfl,rfl⟩
       ·refine G.z8 2 3 5 6 7 11 14 83 125 ?_
        refine G.cd (fun h125=>?_) fun h125=>?_
        ·refine G.z6 2 5 6 7 11 14 128 ?_
         refine G.cd (fun h128=>?_) fun h128=>?_
         ·have hst1:0<st.length:=by have:=of_decide_eq_true h128;omega
          refine G.rp 1 fun R hR=>?_
          refine D.ag (.tail _ (.head _)) ?_
          refine D.ae ?_
          refine D.i64 (((st.length-1:Nat):Int)) rfl rfl rfl rfl om_ om_ om_ rfl rfl ?_
          refine D.dH 0 (st.length-1) c63 rfl rfl rfl rfl rfl rfl rfl rfl rfl rfl rfl rfl (fun _=>⟨.inl ⟨rfl,rfl⟩,.inr ⟨_,rfl⟩,.inl ⟨rfl,rfl⟩,by omega,by omega,Nat.le_refl _⟩) rfl rfl ?_
          refine D.ae ?_
          refine D.ac (j:=1) ?_
          refine D.e4 5 6 7 11 hR ?_
          refine G.bK hlen (fun Cz hz hP _ hO hRr hSt=>?_)
          have hsub:=Sl.sub hSt (l:=0) (h:=st.length-1) (m:=c63) (Nat.zero_le _) (by simp) om_ (Nat.le_refl _)
          rw [show (((st.map stS).take (st.length-1)).drop 0)=(st.take (st.length-1)).map stS by rw [List.drop_zero,List.map_take]] at hsub
          refine G.ay 0 mup (h_4 5 6 7 11) ⟨_,_,_,qtx (rvT q 0 0),B,m2,d2,st.take (st.length-1),potP q,⟨hsub,hP,by rw [List.length_take];omega,fun x hx=>hsm x (List.mem_of_mem_take hx),htl,hPl,hPr⟩,rfl,rfl⟩
         ·refine G.perm (L':=_::_::_) (List.Perm.swap _ _ _) ?_
          refine G.bK hlen (fun Cz hz hP _ hO hRr hSt=>?_)
          refine G.ay 0 mup (h_4 5 6 7 11) ⟨_,_,_,qtx (rvT q 0 0),B,m2,d2,st,potP q,⟨hSt,hP,by omega,hsm,htl,hPl,hPr⟩,rfl,rfl⟩
        ·refine G.z7 2 3 5 6 7 11 83 135 ?_
         refine G.cd (fun h135=>?_) fun h135=>?_
         ·refine G.rowPos 0 rfl om_ (fun g cg hv=>?_)
          injection hv with e1 e2 e3
          subst e1 e2 e3
          have hkl:at_ % ws.length<ws.length:=Nat.mod_lt _ om_
          have hkq:at_ % ws.length<=q.l.length:=by omega
          obtain ⟨⟨A5,n5,c5⟩,hwk⟩:∃ wk,ws[at_ % ws.length]?=some wk:=⟨_,List.getElem?_eq_getElem hkl⟩
          have hrowk:=rowsE_at hwk (potP_at hkq)
          refine G.rowPos (at_ % ws.length+3) hrowk (by rw [ec];omega) (fun g2 cg2 hv2=>?_)
          injection hv2 with f1 f2 f3
          simp only at f1 f2 f3
          subst f1 f2 f3
          have hjl:next % (rowP q (at_ % ws.length)).length<(rowP q (at_ % ws.length)).length:=Nat.mod_lt _ (by rw [ec];omega)
          refine G.rp 2 fun R hR=>?_
          refine D.aa (bkT hb3 1) ?_
          refine D.bL (c:=((at_:Nat):Int)) rfl rfl rfl rfl rfl rfl rfl rfl (by rw [IntKind.wrap_i64];omega) fl_ ?_
          refine D.ps 2 ?_
          refine D.cX at_ ws.length rfl rfl rfl rfl rfl rfl om_ rfl rfl ?_
          refine D.aO (at_ % ws.length*1) rfl rfl rfl rfl rfl rfl rfl rfl rfl rfl (fun _=>⟨by omega,by omega,by rw [Int.toNat_natCast]⟩) rfl rfl ?_
          refine D.bh (v:=.slice (some ⟨g2,0,none⟩) (rowP q (at_ % ws.length)).length c5) (.head _) rfl rfl rfl rfl rfl rfl (fun _=>by show bl _ (List.take 1 _)=_;rw [bB sv_len hwk];rfl) rfl rfl ?_
          refine D.q6 1 3 5 6 7 11 15 hR ?_
          refine G.aI [0,1,2,3,4,5,6,7,8,9,10] [(3,0)] rfl kr_ (fun R hB hR=>?_)
          refine D.ps 2 ?_
          refine D.aa (bkT hb3 1) ?_
          refine D.convQ (c:=((next:Nat):Int)) rfl rfl rfl rfl rfl rfl rfl rfl (by rw [IntKind.wrap_i64];omega) rfl rfl ?_
          refine D.ps 2 ?_
          refine D.cX next (rowP q (at_ % ws.length)).length rfl rfl rfl rfl rfl rfl (by rw [ec];omega) rfl rfl ?_
          refine D.ae ?_
          refine D.aa (bkT hb3 1) ?_
          refine D.aO (next % (rowP q (at_ % ws.length)).length*1) rfl rfl rfl rfl rfl rfl rfl rfl rfl rfl (fun _=>⟨by omega,by omega,by rw [Int.toNat_natCast]⟩) rfl rfl ?_
          refine D.aW (j:=at_ % ws.length+3) rfl rfl rfl rfl rfl rfl hrowk rfl rfl rfl rfl (by show next % (rowP q (at_ % ws.length)).length*1+1<=(((rowP q (at_ % ws.length)).map encS).flatten).length;rw [bk encS_len];omega) ?_
          refine D.e4 5 6 7 11 hR ?_
          have erw:=be encS_len by_ hjl
          have hset:=rowsE_set ((rowP q (at_ % ws.length)).set (next % (rowP q (at_ % ws.length)).length) by_) hwk (show at_ % ws.length<(potP q).length by omega)
          refine G.perm (L':=.arr (.slice (some ⟨g,0,none⟩) ws.length d2) 48 1 ws.length (ws.map SV.enc).flatten::.obj b7 (.cells ⟨[.slice A63 st.length c63,strV (qtx (rvT q 0 0))]⟩ 41 (0,0))::.arr (.slice A63 st.length c63) 50 3 st.length (st.map stS).flatten::rowsE ws ((potP q).set (at_ % ws.length) ((rowP q (at_ % ws.length)).set (next % (rowP q (at_ % ws.length)).length) by_))) (by
           rw [<- hset,<- erw,List.length_set]
           exact perm_set (l:=_::_::_::rowsE ws (potP q)) (k:=at_ % ws.length+3) (by have:=(List.getElem?_eq_some_iff.1 hrowk).1;simp only [List.length_cons];omega)) ?_
          refine G.perm (L':=_::_::_) (List.Perm.swap _ _ _) ?_
          refine G.bK (by rw [List.length_set];exact hlen) (fun Cz hz hP _ hO hRr hSt=>?_)
          refine G.ay 0 mup (h_4 5 6 7 11) ⟨_,_,_,qtx (rvT q 0 0),_,_,_,st,_,⟨hSt,hP,by omega,hsm,htl,by rw [List.length_set];exact hPl,fun l hl=>by rcases List.mem_or_eq_of_mem_set hl with h | h;exact hPr l h;(subst h;exact ⟨by rw [List.length_set,ec];omega,fun s hs=>by rcases List.mem_or_eq_of_mem_set hs with h | h;exact Nat.le_trans (rowP_short ok.ok hkq s h) (by decide);(subst h;omega)⟩)⟩,rfl,rfl⟩
         ·refine G.z6 2 3 5 6 7 11 156 ?_
          refine G.cd (fun h156=>?_) fun h156=>?_
          ·refine G.rowAny 0 rfl (fun A' c' hv _ hmc2 hcM2=>?_)
           injection hv with e1 e2 e3
           subst e1 e2 e3
           refine G.rp 3 fun R hR=>?_
           refine D.i64 (((ws.length-1:Nat):Int)) rfl rfl rfl rfl om_ om_ om_ rfl rfl ?_
           refine D.dH 0 (ws.length-1) d2 rfl rfl rfl rfl rfl rfl rfl rfl rfl rfl rfl rfl (fun _=>⟨.inl ⟨rfl,rfl⟩,.inr ⟨_,rfl⟩,.inl ⟨rfl,rfl⟩,by omega,by omega,Nat.le_refl _⟩) rfl rfl ?_
           refine D.q4 1 5 6 7 11 hR ?_
           refine G.perm (L':=_::_::_) (List.Perm.swap _ _ _) ?_
           refine G.bK hlen (fun Cz hz hP _ hO hRr hSt=>?_)
           have hsub:=Sl.sub hO (l:=0) (h:=ws.length-1) (m:=d2) (Nat.zero_le _) (by simp) om_ (Nat.le_refl _)
           rw [show (((ws.map SV.enc).take (ws.length-1)).drop 0)=(ws.take (ws.length-1)).map SV.enc by rw [List.drop_zero,List.map_take]] at hsub
           refine G.ay 0 mup (h_4 5 6 7 11) ⟨_,_,_,qtx (rvT q 0 0),_,_,_,st,(potP q).take (ws.length-1),⟨hSt,⟨ws.take (ws.length-1),hsub,by rw [List.length_take,List.length_take];omega,fun i x l h1 h2=>hRr i x l (by rw [List.getElem?_take] at h1;split at h1;exact h1;cases h1) (by rw [List.getElem?_take] at h2;split at h2;exact h2;cases h2)⟩,by omega,hsm,htl,by rw [List.length_take];omega,fun l hl=>hPr l (List.mem_of_mem_take hl)⟩,rfl,rfl⟩
          ·refine G.rp 1 fun R hR=>?_
           refine D.ag (.tail _ (.head _)) ?_
           refine D.ae ?_
           refine D.aa (bkT hb3 1) ?_
           refine D.cX next 7 rfl rfl rfl rfl rfl rfl (by decide) rfl rfl ?_
           refine D.bL (c:=((next % 7:Nat):Int)) rfl rfl rfl rfl rfl rfl rfl rfl (by rw [IntKind.wrap_i64];omega) fl_ ?_
           refine D.ae ?_
           refine D.aa (bkT hb3 1) ?_
           refine D.cX at_ 6 rfl rfl rfl rfl rfl rfl (by decide) rfl rfl ?_
           refine D.bL (c:=((at_ % 6:Nat):Int)) rfl rfl rfl rfl rfl rfl rfl rfl (by rw [IntKind.wrap_i64];omega) fl_ ?_
           refine D.ae ?_
           refine D.aa (bkT hb3 1) ?_
           refine D.quo (p:=(at_:Int)) (q:=6) rfl rfl rfl rfl rfl rfl (by decide) om_ (by rw [IntKind.wrap_u8];omega) rfl rfl ?_
           refine D.bL (c:=((at_ / 6:Nat):Int)) rfl rfl rfl rfl rfl rfl rfl rfl (by rw [IntKind.wrap_i64];omega) fl_ ?_
           refine D.cX (at_ / 6) 6 rfl rfl rfl rfl rfl rfl (by decide) rfl rfl ?_
           refine D.build (stepC (next % 7) (at_ % 6) (at_ / 6 % 6)) rfl rfl rfl rfl rfl rfl rfl rfl ?_
           refine D.ah [stepC (next % 7) (at_ % 6) (at_ / 6 % 6)] (fun p100 C100 hle100 hs100=>?_)
           refine D.ak (j:=2) rfl rfl rfl rfl rfl rfl rfl rfl rfl rfl rfl (hs100.mono mup) rfl (by simp only [List.length_singleton,maxLen];omega) (by show (st.length+1)*24<=_;omega) fl_ (fun A101 n101 c101=>?_)
           refine D.ae ?_
           refine D.ac (j:=2) ?_
           refine D.e4 5 6 7 11 hR ?_
           refine G.perm (L':=.obj b7 (.cells ⟨[.slice A101 n101 c101,strV (qtx (rvT q 0 0))]⟩ 41 (0,0))::.arr (.slice B m2 d2) 48 1 ws.length (ws.map SV.enc).flatten::.arr (.slice A101 n101 c101) 50 3 (st++[(next % 7,at_ % 6,at_ / 6 % 6)]).length ((st++[(next % 7,at_ % 6,at_ / 6 % 6)]).map stS).flatten::rowsE ws (potP q)) (by
            rw [List.map_append,List.flatten_append,List.length_append]
            exact List.Perm.cons _ (List.Perm.swap _ _ _)) ?_
           refine G.bK hlen (fun Cz hz hP _ hO hRr hSt=>?_)
           refine G.ay 0 mup (h_4 5 6 7 11) ⟨_,_,_,qtx (rvT q 0 0),B,m2,d2,st++[(next % 7,at_ % 6,at_ / 6 % 6)],potP q,⟨hSt,hP,by rw [List.length_append];simp;omega,fun x hx=>by rcases List.mem_append.1 hx with h | h;exact hsm x h;(simp at h;subst h;exact ⟨by show next % 7<=1000;omega,by show at_ % 6<=1000;omega,by show at_ / 6 % 6<=1000;omega⟩),htl,hPl,hPr⟩,rfl,rfl⟩
     ·obtain ⟨D1 ,k1 ,d1 ,tt ,D2 ,k2 ,d3 ,st2 ,P2,hlaw,rfl,rfl⟩:=hI
      refine G.aI [0,1,2,3,4,5,6,7,8,9,10] [(3,1)] rfl kr_ (fun R hB hR=>?_)
      refine D.aa (bkT hb6 6) ?_
      refine D.ag (.head _) ?_
      refine D.ae ?_
      refine D.aP (fun _=>(alignment_fn _ (hT.mono mup) _ _ q (hQ.mono mup) ok.ok st2 _ (hlaw.s.mono mup) hlaw.sl hlaw.ss tt hlaw.tl _ P2 (hlaw.p.mono mup) hlaw.pl hlaw.pr)) ?_
      refine D.aa (bkT hb5 6) ?_
      refine D.ag (.head _) ?_
      refine D.ae ?_
      refine D.aJ (verify_fn _ (hT.mono mup) _ _ q (hQ.mono mup) ok st2 _ (hlaw.s.mono mup) hlaw.sl hlaw.ss tt hlaw.tl _ P2 (hlaw.p.mono mup) hlaw.pl hlaw.pr) (fun v170 C170 hle170 hq170=>?_)
      obtain ⟨e,rfl,he⟩:=hq170
      refine D.q1 3 4 hR ?_
      refine G.rf ?_
      refine ⟨?_,rfl⟩
      show Value.bool ((q.al.verB st2 (aK tt) (P2.map (·.map aK))) == (decide (e=0)))=_
      congr 1
      rw [beq_iff_eq,Bool.eq_iff_iff,decide_eq_true_eq]
      exact he.symm
open Go Go.Jog Go.ChangeShapes Go.WideShapes Go.ChangeAt Go.RowKit
set_option maxRecDepth 100000

theorem own:ownKnob Tryz.prog.godebug=none:=by kernel_rfl
section
variable {H:Type} {enc:TypeId × Value->H} {W:World} {spare:Nat->Bool} {held:Bool}
theorem u8_of {n:Nat}{c:Value}{y:DataW H × List MemPlace}(h:DataW.trod enc Tryz.prog W 0 spare held n 5 [c]=some y):∃ b:UInt8,c=.int .u8 b.toNat:=by
 obtain ⟨m,h1,_,h3⟩:=DataW.trod_int Tryz.underlying5 h
 simp only [List.cons.injEq,and_true] at h1
 subst h1
 have hb:0<=m/\m<256:=by
  simp [Lit.wf,IntKind.min,IntKind.max,IntKind.signed,IntKind.bits] at h3
  omega
 refine ⟨UInt8.ofNat m.toNat, ?_⟩
 congr 1
 simp only [UInt8.toNat_ofNat']
 omega
theorem u8n_of {n:Nat}{c:Value}{y:DataW H × List MemPlace}(h:DataW.trod enc Tryz.prog W 0 spare held n 5 [c]=some y):∃ m:Nat,c=.int .u8 m/\m<256:=by
 obtain ⟨b,rfl⟩:=u8_of h
 exact ⟨b.toNat,rfl,b.toNat_lt⟩
theorem arr_of {t e:TypeId}{k n:Nat}{cs:List Value}{y:DataW H × List MemPlace}(ht:Tryz.prog.underlying t=some (.array k e))(he:Tryz.prog.cellsOf e=1)(h:DataW.trod enc Tryz.prog W 0 spare held n t cs=some y) :
  ∃ m,∀ i,i<k->∃ z,DataW.trod enc Tryz.prog W 0 spare held m e ((cs.drop i).take 1)=some z:=by
 obtain ⟨xs,m,_,_,_,hx,hf⟩:=DataW.trod_array ht h
 refine ⟨m,fun i hi=>?_⟩
 have h1:=hf i hi
 rw [he,Nat.mul_one] at h1
 rw [h1,List.getElem?_eq_getElem om_]
 exact ⟨_,rfl⟩
theorem cells_u8:Tryz.prog.cellsOf 5=1:=by kernel_rfl
theorem cells_a4:Tryz.prog.cellsOf 23=4:=by kernel_rfl
theorem rat_strA {n:Nat}{c:Value}{y:DataW H × List MemPlace}(h:DataW.trod enc Tryz.prog W 0 spare held n 26 [c]=some y):∃ s:Str,c=strV s:=by
 obtain ⟨s,h1,_⟩:=DataW.trod_string Tryz.underlying26 h
 simp only [List.cons.injEq,and_true] at h1
 obtain ⟨⟨l⟩⟩:=s
 exact ⟨l,h1⟩
theorem bits_of {fuel:Nat}{v:Value}{x:DataW H × List MemPlace}(h:DataW.trod enc Tryz.prog W 0 spare held fuel 22 [v]=some x):∃ l:List Dp.Bit,Sl (memOf W) 3 v (l.map df)/\∀ b∈l,BitR b:=by
 obtain ⟨l,hl⟩:∃ l:List {b:Dp.Bit // BitR b},Sl (memOf W) 3 v (l.map fun b=>df b.1):=sl_of_arg (fun b:{b:Dp.Bit // BitR b}=>df b.1) Tryz.underlying22 kr_ (by decide) (fun n cs y hl hy=>by
  match cs,hl with
  | [c0,c1,c2],_ =>
   obtain ⟨y0,y1,y2,n',_,_,h0,h1,h2⟩:=Go.Deep.trod_struct3 Tryz.underlying153 hy
   simp only [cells_u8] at h0 h1 h2
   obtain ⟨a,rfl,ga⟩:=u8n_of h0
   obtain ⟨b,rfl,gb⟩:=u8n_of h1
   obtain ⟨c,rfl,gc⟩:=u8n_of h2
   exact ⟨⟨⟨a,b,c⟩,ga,gb,gc⟩,rfl⟩) h
 refine ⟨l.map (·.1),by rw [List.map_map];exact hl,fun r hr=>?_⟩
 obtain ⟨x,_,rfl⟩:=List.mem_map.1 hr
 exact x.2
theorem plan44_of {n:Nat}{cs:List Value}{y:DataW H × List MemPlace}(h:DataW.trod enc Tryz.prog W 0 spare held n 25 cs=some y) :
  ∃ (vl vr:Value)(l r:List Dp.Bit)(ks:KS),cs=[vl,vr,.int .u8 ks.a,.int .u8 ks.b,.int .u8 ks.c,.int .u8 ks.d]/\Sl (memOf W) 3 vl (l.map df)/\Sl (memOf W) 3 vr (r.map df)/\(∀ b∈l,BitR b)/\(∀ b∈r,BitR b)/\ks.R:=by
 obtain ⟨y0,y1,y2,n',_,hl,h0,h1,h2⟩:=Go.Deep.trod_struct3 Tryz.underlying25 h
 have hc:Tryz.prog.cellsOf 25=6:=by kernel_rfl
 have hs:Tryz.prog.cellsOf 22=1:=by kernel_rfl
 rw [hc] at hl
 match cs,hl with
 | [c0,c1,c2,c3,c4,c5],_ =>
  simp only [cells_a4,hs] at h0 h1 h2
  obtain ⟨l,g0,k0⟩:=bits_of h0
  obtain ⟨r,g1,k1⟩:=bits_of h1
  obtain ⟨m,ha⟩:=arr_of Tryz.underlying23 cells_u8 h2
  obtain ⟨z0,e0⟩:=ha 0 (by decide)
  obtain ⟨z1,e1⟩:=ha 1 (by decide)
  obtain ⟨z2,e2⟩:=ha 2 (by decide)
  obtain ⟨z3,e3⟩:=ha 3 (by decide)
  obtain ⟨a,rfl,ga⟩:=u8n_of e0
  obtain ⟨b,rfl,gb⟩:=u8n_of e1
  obtain ⟨c,rfl,gc⟩:=u8n_of e2
  obtain ⟨d,rfl,gd⟩:=u8n_of e3
  exact ⟨c0,c1,l,r,⟨a,b,c,d⟩,rfl,g0,g1,k0,k1,⟨ga,gb,gc,gd⟩⟩
theorem slip_of {n:Nat}{cs:List Value}{y:DataW H × List MemPlace}(h:DataW.trod enc Tryz.prog W 0 spare held n 28 cs=some y) :
  ∃ (how at_ next:Nat)(s:Str),cs=[.int .u8 how,.int .u8 at_,.int .u8 next,strV s]/\how<256/\at_<256/\next<256:=by
 obtain ⟨xs,n',_,_,hl,hlen,hf⟩:=DataW.trod_struct Tryz.underlying28 h
 have hc:Tryz.prog.cellsOf 28=4:=by kernel_rfl
 have hs:Tryz.prog.cellsOf 26=1:=by kernel_rfl
 rw [hc] at hl
 match xs,hlen,cs,hl with
 | [y0,y1,y2,y3],_,[c0,c1,c2,c3],_ =>
  have h0:DataW.trod enc Tryz.prog W 0 spare held n' 5 [c0]=some y0:=by simpa [cells_u8] using hf 0 _ rfl
  have h1:DataW.trod enc Tryz.prog W 0 spare held n' 5 [c1]=some y1:=by simpa [cells_u8] using hf 1 _ rfl
  have h2:DataW.trod enc Tryz.prog W 0 spare held n' 5 [c2]=some y2:=by simpa [cells_u8] using hf 2 _ rfl
  have h3:DataW.trod enc Tryz.prog W 0 spare held n' 26 [c3]=some y3:=by simpa [hs] using hf 3 _ rfl
  obtain ⟨a,rfl,ga⟩:=u8n_of h0
  obtain ⟨b,rfl,gb⟩:=u8n_of h1
  obtain ⟨c,rfl,gc⟩:=u8n_of h2
  obtain ⟨s,rfl⟩:=rat_strA h3
  exact ⟨a,b,c,s,rfl,ga,gb,gc⟩
end

def layCells (cs:Array Value):Obj->Obj
 | .cells _ t frozen=>.cells cs t frozen
 | o=>o
def db32Cells:Array Value:=(Lib.deBruijn32tab.map fun z:Nat=>Value.int .u8 (z:Int)).toArray
def db64Cells:Array Value:=(Lib.deBruijn64tab.map fun z:Nat=>Value.int .u8 (z:Int)).toArray
def pow10Cells:Array Value:=(Lib.pow10Tab.map fun z=>Value.int .u64 z).toArray
def rangeText:ByteArray:=⟨#[118,97,108,117,101,32,111,117,116,32,111,102,32,114,97,110,103,101]⟩
def syntaxText:ByteArray:=⟨#[105,110,118,97,108,105,100,32,115,121,110,116,97,120]⟩
noncomputable def low:Nat:=(World.holding Tryz.prog default ⟨#[],#[],[]⟩).heap.size
noncomputable def laidWorld (os:Os):World :=
 let w0:=World.holding Tryz.prog os ⟨#[.cells #[.string rangeText] 306,.cells #[.string syntaxText] 306],#[],[]⟩
 { w0 with heap:=((((w0.heap.modify 4 (layCells db32Cells)).modify 5 (layCells db64Cells)).modify 1 (layCells pow10Cells)).modify 3 (layCells #[.iface 304 (.pointer (some ⟨low,0,none⟩))])).modify 2 (layCells #[.iface 304 (.pointer (some ⟨low+1,0,none⟩))]) }
theorem tabs_of {W : World} (h : laidMet Tryz.prog [("math/bits.deBruijn32tab", Rows.laid_math_bits_deBruijn32tab), ("math/bits.deBruijn64tab", Rows.laid_math_bits_deBruijn64tab), ("internal/strconv.uint64pow10", Rows.laid_internal_strconv_uint64pow10), ("strconv.ErrRange", Rows.laid_strconv_ErrRange), ("strconv.ErrSyntax", Rows.laid_strconv_ErrSyntax)] W) : Tabs (memOf W) := by
 have h2:=h.tail.tail
 have e2:(Rows.laid_internal_strconv_uint64pow10:DataW Unit)=Lib.tabData .u64 Lib.pow10Tab:=by rfl
 rw [e2] at h2
 have t2:=Lib.tabIs_of_head (g:=1) (t:=296) (e:=220) (n:=20) kr_ kr_ Tryz.underlying296 Tryz.underlying220 kr_ kr_ h2
 exact ⟨VarC.ofWorld t2⟩
theorem laidOut':laidOutB Tryz.prog=true:=by kernel_rfl
section
variable {H:Type} {enc:TypeId × Value->H} {W:World} {spare:Nat->Bool} {held:Bool}
end
section
variable {H:Type} {enc:TypeId × Value->H} {W:World} {spare:Nat->Bool} {held:Bool}
end
end Go.Proofs.YtjhmlnebikbdbaaGreatDoor
