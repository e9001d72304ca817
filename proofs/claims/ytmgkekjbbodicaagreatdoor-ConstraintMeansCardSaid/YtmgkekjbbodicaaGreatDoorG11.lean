/- Laws that the proofs of this seat share, part 11. -/
import Derived.Test.YtmgkekjbbodicaaGreatDoorG10
import Derived.Test.YtmgkekjbbodicaaGreatDoorShelf
import Derived.Test.YtmgkekjbbodicaaGreatDoorCards
import Derived.Test.YtmgkekjbbodicaaGreatDoorTie
import Derived.Stop.LaidErr
import Derived.Lib.LaidTab
import Derived.Carry
import Derived.Deep.Strs
import Derived.Laws.IdiomArrays
set_option maxHeartbeats 4000000
namespace Go.Proofs.YtmgkekjbbodicaaGreatDoor
open Go Go.Jog
set_option maxRecDepth 100000

instance:DecidableEq RowQ:=fun a b=>decidable_of_iff (a.f=b.f/\a.b=b.b) (by cases a;cases b;simp)

instance (k:Nat) (q:Rat):Decidable (QB k q):=by unfold QB;infer_instance
instance (k:Nat) (p:Pt):Decidable (QP k p):=by unfold QP;infer_instance
instance (n:Nat) (t:Tri):Decidable (TriIn n t):=by unfold TriIn;infer_instance
theorem ex_good:Good exB.pts exB.tris :=
 ⟨⟨by decide +kernel,by decide +kernel,by decide +kernel,by decide +kernel,by decide +kernel,by decide,by decide⟩,by decide,by decide +kernel⟩
theorem ex_loc:locL exB.pts exB.tris (3,0)=[0]:=by decide +kernel
theorem qtx_nat5 {z:Int}{s:Str}(h:txt z=s):qtx ((z:Int):Rat)=s:=by rw [qtx_int,h]
theorem qtx_three:qtx 3=[51]:=qtx_nat5 (z:=3) (by decide +kernel)
theorem qtx_four:qtx 4=[52]:=qtx_nat5 (z:=4) (by decide +kernel)
theorem qtx_two:qtx 2=[50]:=qtx_nat5 (z:=2) (by decide +kernel)
theorem qtx_ten:qtx 10=[49,48]:=qtx_nat5 (z:=10) (by decide +kernel)
theorem qtx_mone:qtx (-1)=[45,49]:=qtx_nat5 (z:=-1) (by decide +kernel)
theorem ratOf_t (q:Rat){s:Str}(h:qtx q=s)(hq:QB 22 q):bg s=q:=by rw [<- h];exact dw (bf hq)
theorem ro4:bg [52]=4:=ratOf_t 4 qtx_four (by decide +kernel)
theorem ro3:bg [51]=3:=ratOf_t 3 qtx_three (by decide +kernel)
theorem ro2:bg [50]=2:=ratOf_t 2 qtx_two (by decide +kernel)
theorem ro0:bg [48]=0:=ratOf_t 0 qtx_zero (by decide +kernel)
theorem rom:bg [45,49]=-1:=ratOf_t (-1) qtx_mone (by decide +kernel)
theorem exO1_e:exO1=⟨2,[99],[51],[48],[52],[66],[65],[],[],[]⟩:=by rw [exO1,qtx_three,qtx_zero]
theorem exO2_e:exO2=⟨3,[100],[51],[48],[],[66],[65],[45,49],[48],[50]⟩:=by rw [exO2,qtx_three,qtx_zero,qtx_mone,qtx_two]
theorem ex_sh1:cK exO1=0:=by rw [exO1_e];decide +kernel
theorem ex_sh2:cK exO2=0:=by rw [exO2_e];decide +kernel
theorem ex_fld:fldZ exB.pts.length exB.terr=0:=by decide +kernel
theorem ex_pt1:ptO exO1=(3,0):=by rw [exO1_e];unfold ptO;rw [ro3,ro0]
theorem ex_pt2:ptO exO2=(3,0):=by rw [exO2_e];unfold ptO;rw [ro3,ro0]
theorem ex_ov1:eM exB.pts exB.tris exB.col exO1=0:=by
 unfold eM
 rw [if_neg (by rw [ex_sh1];decide),if_neg (by unfold conB;rw [ex_pt1,ex_loc];decide),if_neg (by rw [exO1_e];decide +kernel),if_neg (by rw [exO1_e];decide +kernel),if_neg (by rw [exO1_e];unfold depB;rw [ro4];decide +kernel),if_neg (by rw [exO1_e];decide +kernel)]
theorem ex_ov2:eM exB.pts exB.tris exB.col exO2=0:=by
 unfold eM
 rw [if_neg (by rw [ex_sh2];decide),if_neg (by unfold conB;rw [ex_pt2,ex_loc];decide),if_neg (by rw [exO2_e];decide +kernel),if_neg (by rw [exO2_e];decide +kernel),if_neg (by rw [exO2_e];unfold depB;decide),if_neg (by rw [exO2_e];decide +kernel)]
def exFs:List Rat:=[10,10,10]
theorem ex_terr:Terr exB exFs:=⟨by simp [exB,exFs,qtx_ten],rfl,by decide +kernel⟩
theorem ex_on:onQ exB.pts exFs (0,1,2) (3,0)=10:=by decide +kernel
theorem ex_val:valV exB.pts exB.tris exFs (3,0)=.tuple #[strV (qtx 10),.int .i64 0]:=by
 unfold valV
 rw [ex_loc]
 show numV (onQ exB.pts exFs (0,1,2) (3,0))=_
 rw [ex_on]
 unfold numV
 rw [if_pos (bf (by decide +kernel))]
theorem ex_at1:ObsAt exO1 (3,0):=⟨rfl,rfl,by decide +kernel,⟨bf (by decide +kernel),bf (by decide +kernel)⟩,fun _=>by decide +kernel⟩
theorem ex_at2:ObsAt exO2 (3,0):=⟨rfl,rfl,by decide +kernel,⟨bf (by decide +kernel),bf (by decide +kernel)⟩,fun h=>absurd h (by decide)⟩
theorem wgt_mod (pts:List Pt)(t:Tri)(p:Pt)(j:Nat):wgt pts t p j=wgt pts t p (j % 3):=by
 unfold wgt
 rw [show (j+1) % 3=(j % 3+1) % 3 by omega,show (j+2) % 3=(j % 3+2) % 3 by omega]
theorem triN_min (t:Tri)(j:Nat):triN t j=triN t (min j 2):=by
 unfold triN
 rcases (by omega:j=0∨j=1∨2<=j) with h | h | h
 ·subst h;rfl
 ·subst h;rfl
 ·rw [Nat.min_eq_right h,if_neg (by omega),if_neg (by omega)];rfl
theorem ex_w:∀ j,QB 22 (wgt exB.pts (0,1,2) (3,0) j):=by
 intro j
 rw [wgt_mod]
 rcases (by omega:j % 3=0∨j % 3=1∨j % 3=2) with h | h | h <;> rw [h] <;> decide +kernel
theorem ex_sl:∀ j,QP 22 (slf exB.pts (0,1,2) j):=by
 intro j
 unfold slf
 rw [triN_min]
 rcases (by omega:min j 2=0∨min j 2=1∨min j 2=2) with h | h | h <;> rw [h] <;> decide +kernel
def exR1:List RowQ:=[⟨[1/2,1/2,0],6⟩,⟨[-1/2, -1/2,0], -6⟩]
def exR2:List RowQ:=[⟨[-1/6,1/6,0],1/2⟩,⟨[1/6, -1/6,0], -1/2⟩,⟨[-1/4,0,1/4],0⟩,⟨[1/4,0, -1/4],0⟩]
theorem ex_rows1:rowsO exB exO1 (3,0) (0,1,2) 10=exR1:=by
 unfold rowsO hgtQ
 rw [exO1_e,ro4]
 decide +kernel
theorem ex_rows2:rowsO exB exO2 (3,0) (0,1,2) 10=exR2:=by
 unfold rowsO eastQ northQ
 rw [exO2_e,rom,ro2,ro0]
 decide +kernel
theorem ex_obr:∀ o∈exB.obs,ObsR o:=by
 intro o ho
 simp only [exB,List.mem_cons,List.not_mem_nil,or_false] at ho
 rcases ho with rfl | rfl
 ·rw [exO1_e];exact ⟨by decide,by decide,by decide,by decide,by decide,by decide,by decide,by decide,by decide⟩
 ·rw [exO2_e];exact ⟨by decide,by decide,by decide,by decide,by decide,by decide,by decide,by decide,by decide⟩
theorem ex_br:BookR exB:=by
 refine ⟨by decide, ?_,by decide,ex_obr⟩
 intro x hx
 simp only [exB,List.mem_cons,List.not_mem_nil,or_false] at hx
 rcases hx with rfl | rfl
 ·exact ⟨by decide +kernel,fun q h=>by simp at h,by decide⟩
 ·exact ⟨by decide +kernel,fun q h=>by simp at h,by decide⟩
theorem ex_colz:colZ exB.col=0:=by decide +kernel
theorem ex_bz:eS exB=0:=by
 have h1:obsF exB 1=0:=by
  have h0:obsF exB 0=0:=rfl
  show (if obsF exB 0≠0 then obsF exB 0 else obZ exB (exB.obs.take 0) (exB.obs.getD 0 noObs))=0
  rw [if_neg (by rw [h0];decide)]
  show obZ exB [] exO1=0
  unfold obZ
  rw [if_neg (by rw [ex_ov1];decide),if_neg (by decide)]
 have h2:obsF exB 2=0:=by
  show (if obsF exB 1≠0 then obsF exB 1 else obZ exB (exB.obs.take 1) (exB.obs.getD 1 noObs))=0
  rw [if_neg (by rw [h1];decide)]
  show obZ exB [exO1] exO2=0
  unfold obZ
  rw [if_neg (by rw [ex_ov2];decide),if_neg (by decide)]
 unfold eS
 rw [if_neg (by rw [ex_fld];decide),if_neg (by rw [ex_colz];decide),if_neg (by decide)]
 exact h2
def exRO (i:Nat):List RowQ:=if i=0 then exR1 else exR2
theorem ex_fine1:Fine exB exFs exO1 (3,0) 0 (0,1,2) 10 :=
 ⟨ex_at1,⟨[],ex_loc⟩,rfl,ex_val,by decide +kernel,by unfold hgtQ;rw [exO1_e,ro4];decide +kernel,ex_w,by rw [exO1_e];decide +kernel,ex_sl,fun _ h=>absurd rfl h,by
  rw [ex_rows1]
  unfold RowR
  decide +kernel⟩
theorem ex_fine2:Fine exB exFs exO2 (3,0) 0 (0,1,2) 10 :=
 ⟨ex_at2,⟨[],ex_loc⟩,rfl,ex_val,by decide +kernel,by unfold hgtQ;rw [if_neg (by decide)];decide +kernel,ex_w,by rw [exO2_e];decide +kernel,ex_sl,fun _ _=>by
  rw [exO2_e,rom,ro2,ro0]
  decide +kernel,by
  rw [ex_rows2]
  unfold RowR
  decide +kernel⟩
theorem ex_rich:Rich exB exFs exRO:=by
 refine ⟨ex_good,ex_br,ex_bz,ex_terr,by decide,fun i o ho=>?_⟩
 rcases (by have h:=(List.getElem?_eq_some_iff.1 ho).1;have h2:exB.obs.length=2:=rfl;omega:i=0∨i=1) with rfl | rfl
 ·simp only [exB,List.getElem?_cons_zero,Option.some.injEq] at ho
  subst ho
  exact ⟨_,_,_,_,ex_fine1,ex_rows1.symm⟩
 ·simp only [exB,List.getElem?_cons_succ,List.getElem?_cons_zero,Option.some.injEq] at ho
  subst ho
  exact ⟨_,_,_,_,ex_fine2,ex_rows2.symm⟩

theorem eX (C:Mem)(f1 f2:Value)(l:List Rat)(b:Rat)(s:Str)(rs:List (List Value))(h1:Sl C 1 f1 (l.map encQ))(h2:Sl C 1 f2 rs)(hr:l.map encQ=rs)(hs:qtx b=s) :
  Gives cx.P 36 [.agg ⟨[f1,strV (qtx b)]⟩,.agg ⟨[f2,strV s]⟩] C (.bool true):=by
 have h:=sameRow_fn C f1 f2 l l b b h1 (by rw [hr];exact h2)
 rw [decide_eq_true rfl,decide_eq_true rfl,hs] at h
 rw [hs]
 exact h
theorem q12:qtx (1/2)=[49,47,50]:=by decide +kernel
theorem qm12:qtx (-1/2)=[45,49,47,50]:=by decide +kernel
theorem q16:qtx (1/6)=[49,47,54]:=by decide +kernel
theorem qm16:qtx (-1/6)=[45,49,47,54]:=by decide +kernel
theorem q14:qtx (1/4)=[49,47,52]:=by decide +kernel
theorem qm14:qtx (-1/4)=[45,49,47,52]:=by decide +kernel
theorem q6:qtx 6=[54]:=by decide +kernel
theorem qm6:qtx (-6)=[45,54]:=by decide +kernel
theorem ex_count (C:Mem)(hT:Tabs C)(bv:Value)(hB:BookIn C bv exB):Gives cx.P 13 [bv] C (.tuple #[.int .i64 3,.int .i64 0]) :=
 count_fn C bv exB 0 (ex_rich.bookz hT hB)
theorem ex_of0 (C:Mem)(hT:Tabs C)(bv:Value)(hB:BookIn C bv exB):Pur cx.P 20 [bv,.int .i64 0] C fun u D=>∃ v,u=.tuple #[v,.int .i64 0]/\RowsIn D v exR1:=by
 have h:=of_rows C hT bv exB exFs exRO hB ex_rich 0
 rw [if_neg (by decide),if_neg (by decide)] at h
 exact h
theorem ex_of1 (C:Mem)(hT:Tabs C)(bv:Value)(hB:BookIn C bv exB):Pur cx.P 20 [bv,.int .i64 1] C fun u D=>∃ v,u=.tuple #[v,.int .i64 0]/\RowsIn D v exR2:=by
 have h:=of_rows C hT bv exB exFs exRO hB ex_rich 1
 rw [if_neg (by decide),if_neg (by decide)] at h
 exact h
theorem known_fn (C:Mem)(hT:Tabs C):Gives cx.P 11 [] C (.bool true):=by
 refine Fn.it (by kernel_rfl) Tryz.func11 78 fun w0=>?_
 refine G.rp 1 fun R hR=>?_
 refine D.done [] trivial (hR _ _ _ rfl ?_)
 refine G.rg fun R hR=>?_
 refine D.aU (example_fn _ (hT.mono mup)) (fun v8 C8 hle8 hq8=>?_)
 obtain ⟨v1,v2,tv,cv,ov,rfl,g1,g2,g3,g4,g5⟩:=id hq8.ex
 obtain ⟨B1,d1,rfl,_⟩:=id g1
 obtain ⟨B2,d2,rfl,_⟩:=id g2
 obtain ⟨B3,d3,rfl,_⟩:=id g3
 obtain ⟨B4,d4,rfl,_⟩:=id g4
 obtain ⟨B5,d5,rfl,_⟩:=id g5
 refine D.aq (fun b1=>?_)
 refine D.aj (j:=0) ?_
 refine D.e1 1 hR ?_
 refine G.freeze 0 rfl (fun C3 hle3 hb3=>?_)
 refine G.rg fun R hR=>?_
 refine D.aa (bkT hb3 5) ?_
 refine D.ah (ex_count _ (hT.mono mup) _ (hq8.mono mup)) ?_
 refine D.q3 5 1 2 3 hR ?_
 refine G.rg fun R hR=>?_
 refine D.aa (bkT hb3 5) ?_
 refine D.aU (ex_of0 _ (hT.mono mup) _ (hq8.mono mup)) (fun v16 C16 hle16 hq16=>?_)
 obtain ⟨rv1,rfl,vs1,hok1,hsv1⟩:=hq16
 refine D.q5 5 1 2 3 4 5 hR ?_
 refine G.rg fun R hR=>?_
 refine D.aa (bkT hb3 5) ?_
 refine D.aU (ex_of1 _ (hT.mono mup) _ (hq8.mono mup)) (fun v21 C21 hle21 hq21=>?_)
 obtain ⟨rv2,rfl,vs2,hok2,hsv2⟩:=hq21
 refine D.q6 5 2 3 4 5 6 7 hR ?_
 skip
 obtain ⟨E1,e1,rfl,_⟩:=id hsv1
 obtain ⟨E2,e2,rfl,_⟩:=id hsv2
 simp only [cV hok1.1,cV hok2.1] at hsv1 hsv2 ⊢
 refine G.rp 5 fun R hR=>?_
 refine D.aB ?_
 refine D.ps 3 ?_
 refine D.aB ?_
 refine D.ps 4 ?_
 refine D.aB ?_
 refine D.ps 3 ?_
 refine D.aB ?_
 refine D.ps 4 ?_
 refine D.aB ?_
 refine D.e3 4 6 47 hR ?_
 refine G.cd (fun h47=>?_) fun h47=>?_
 ·exact absurd h47 (by decide)
 ·obtain ⟨a0,a1,rfl⟩:∃ a b,vs1=[a,b]:=by
   have h:=hok1.1
   match vs1,h with
   | [a,b],_=>exact ⟨a,b,rfl⟩
  obtain ⟨c0,c1,c2,c3,rfl⟩:∃ a b c d,vs2=[a,b,c,d]:=by
   have h:=hok2.1
   match vs2,h with
   | [a,b,c,d],_=>exact ⟨a,b,c,d,rfl⟩
  have ha0:=hok1.2 0 a0 _ rfl rfl
  have ha1:=hok1.2 1 a1 _ rfl rfl
  have hc0:=hok2.2 0 c0 _ rfl rfl
  have hc3:=hok2.2 3 c3 _ rfl rfl
  refine G.rp 1 fun R hR=>?_
  refine D.ap (hsv1.mono mup) rfl rfl rfl rfl rfl rfl rfl rfl rfl rfl (by omega) rfl (fun _=>rfl) (fun p49 hp49=>?_)
  refine D.aa hp49 ?_
  refine D.aV [[strV [49,47,50]],[strV [49,47,50]],[strV [48]]] rfl rfl rfl rfl rfl rfl rfl rfl rfl rfl rfl rfl (fun _=>rfl) (fun b51 C51 hle51 hs51=>?_)
  refine D.ak [.slice (some ⟨b51,0,none⟩) 3 3,strV [54]] ?_
  refine D.af (eX _ _ _ _ _ _ _ (ha0.mono mup) (hs51.mono mup) (by simp only [List.map,encQ,q12,qtx_zero]) q6) rfl rfl rfl rfl rfl rfl rfl (fun _=>rfl) ?_
  refine D.ps 2 ?_
  refine D.index rfl rfl rfl rfl rfl rfl rfl rfl rfl rfl (fun hg=>⟨hsv1.mono mup,by omega,rfl⟩) (fun _=>rfl) rfl (fun p56 hp56=>?_)
  refine D.aY rfl rfl rfl rfl rfl rfl hp56 rfl rfl rfl ?_
  refine D.aV [[strV [45,49,47,50]],[strV [45,49,47,50]],[strV [48]]] rfl rfl rfl rfl rfl rfl rfl rfl rfl rfl rfl rfl (fun _=>rfl) (fun b58 C58 hle58 hs58=>?_)
  refine D.ak [.slice (some ⟨b58,0,none⟩) 3 3,strV [45,54]] ?_
  refine D.aD (fun _=>(eX _ _ _ _ _ _ _ (ha1.mono mup) (hs58.mono mup) (by simp only [List.map,encQ,qm12,qtx_zero]) qm6)) rfl rfl rfl rfl rfl rfl rfl rfl rfl ?_
  refine D.ay ?_
  refine D.ps 2 ?_
  refine D.index rfl rfl rfl rfl rfl rfl rfl rfl rfl rfl (fun hg=>⟨hsv2.mono mup,by omega,rfl⟩) (fun _=>rfl) rfl (fun p64 hp64=>?_)
  refine D.aY rfl rfl rfl rfl rfl rfl hp64 rfl rfl rfl ?_
  refine D.aV [[strV [45,49,47,54]],[strV [49,47,54]],[strV [48]]] rfl rfl rfl rfl rfl rfl rfl rfl rfl rfl rfl rfl (fun _=>rfl) (fun b66 C66 hle66 hs66=>?_)
  refine D.ak [.slice (some ⟨b66,0,none⟩) 3 3,strV [49,47,50]] ?_
  refine D.aD (fun _=>(eX _ _ _ _ _ _ _ (hc0.mono mup) (hs66.mono mup) (by simp only [List.map,encQ,q16,qm16,qtx_zero]) q12)) rfl rfl rfl rfl rfl rfl rfl rfl rfl ?_
  refine D.ay ?_
  refine D.ps 2 ?_
  refine D.index rfl rfl rfl rfl rfl rfl rfl rfl rfl rfl (fun hg=>⟨hsv2.mono mup,by omega,rfl⟩) (fun _=>rfl) rfl (fun p72 hp72=>?_)
  refine D.aY rfl rfl rfl rfl rfl rfl hp72 rfl rfl rfl ?_
  refine D.aV [[strV [49,47,52]],[strV [48]],[strV [45,49,47,52]]] rfl rfl rfl rfl rfl rfl rfl rfl rfl rfl rfl rfl (fun _=>rfl) (fun b74 C74 hle74 hs74=>?_)
  refine D.ak [.slice (some ⟨b74,0,none⟩) 3 3,strV [48]] ?_
  refine D.aD (fun _=>(eX _ _ _ _ _ _ _ (hc3.mono mup) (hs74.mono mup) (by simp only [List.map,encQ,q14,qm14,qtx_zero]) qtx_zero)) rfl rfl rfl rfl rfl rfl rfl rfl rfl ?_
  refine D.ay ?_
  refine D.q1 1 0 hR ?_
  refine G.rf ?_
  exact ⟨rfl,rfl⟩

def ptsZ (m:Nat)(u v:Int)(h:Bool):List Pt:=(shP m).map fun p=>(divS (p.1+u*1) (cM h*1),divS (p.2+v*1) (cM h*1))
theorem ptsK_Z (m:Nat)(a b:Int)(h:Bool):ptsK m a b h=ptsZ m (a.tmod 8) (b.tmod 8) h:=rfl
def goodB (pts:List Pt)(tris:List Tri):Bool :=
 pts.all (fun p=>decide (QP 1 p)) && (decide pts.Nodup && (tris.all (fun t=>decide (TriIn pts.length t)) && (tris.all (fun t=>decide (0<bY (pts.getD t.1 (0,0)) (pts.getD t.2.1 (0,0)) (pts.getD t.2.2 (0,0)))) && (decide (bT tris).Nodup && (wholeB pts tris && pts.all fun p=>decide (locL pts tris p≠[]))))))
theorem all0:∀ i<15,∀ j<15,∀ h:Bool,goodB (ptsZ 0 ((i:Nat)-7) ((j:Nat)-7) h) (shT 0)=true:=by decide +kernel

theorem sh1 {n x y u:Str}(hn:bO n=true)(hu:bO u=true)(hx:aR x=true)(hy:aR y=true):cK ⟨1,n,x,y,[],u,[],[],[],[]⟩=0:=by
 unfold cK
 rw [if_neg (by simp),if_neg (by simp [nameBad,hn,hu]),if_neg (by simp [numBad,hx,hy]),if_neg (by simp [formBad])]
theorem sh2 {n x y d u l:Str}(hn:bO n=true)(hu:bO u=true)(hl:bO l=true)(hx:aR x=true)(hy:aR y=true)(hd:aR d=true):cK ⟨2,n,x,y,d,u,l,[],[],[]⟩=0:=by
 unfold cK
 rw [if_neg (by simp),if_neg (by simp [nameBad,hn,hu,hl]),if_neg (by simp [numBad,hx,hy,hd]),if_neg (by simp [formBad])]
theorem sh3 {n x y u l a b c:Str}(hn:bO n=true)(hu:bO u=true)(hl:bO l=true)(hx:aR x=true)(hy:aR y=true)(ha:aR a=true)(hb:aR b=true)(hc:aR c=true):cK ⟨3,n,x,y,[],u,l,a,b,c⟩=0:=by
 unfold cK
 rw [if_neg (by simp),if_neg (by simp [nameBad,hn,hu,hl]),if_neg (by simp [numBad,hx,hy,ha,hb,hc]),if_neg (by simp [formBad])]
theorem lab_idx (j:Nat)(hj:j<3):idxF (isU (labU j)) colK 0=(j:Int):=by
 rcases (by omega:j=0∨j=1∨j=2) with rfl | rfl | rfl <;> decide +kernel
theorem lab_name (j:Nat)(hj:j<3):bO (labU j)=true:=by
 rcases (by omega:j=0∨j=1∨j=2) with rfl | rfl | rfl <;> decide +kernel
theorem nm_name (i:Nat)(hi:i<6):bO [111,UInt8.ofNat (49+i)]=true:=by
 rcases (by omega:i=0∨i=1∨i=2∨i=3∨i=4∨i=5) with rfl | rfl | rfl | rfl | rfl | rfl <;> decide +kernel
theorem nm_inj {i j:Nat}(hi:i<6)(hj:j<6)(h:([111,UInt8.ofNat (49+i)]:Str)=[111,UInt8.ofNat (49+j)]):i=j:=by
 have key:∀ a<6,∀ b<6,([111,UInt8.ofNat (49+a)]:Str)=[111,UInt8.ofNat (49+b)]->a=b:=by decide
 exact key i hi j hj h
theorem lo_lt_up (s:Sgt):min (loU s) (upU s)<max (loU s) (upU s):=by
 unfold loU upU
 split <;> omega
theorem dK (z:Int)(h:z.natAbs<100):QB 1 ((z:Int):Rat):=by
 refine ⟨?_, ?_⟩
 ·show z.natAbs<B9 ^ 1
  have:B9 ^ 1=1000000000:=by decide
  omega
 ·show 1<B9 ^ 1
  decide
theorem lastN_ne (z:Int):lastN z≠0:=by
 unfold lastN
 split
 ·decide
 ·assumption
theorem lastN_bd (z:Int):-5<lastN z/\lastN z<5:=by
 have:=tmod5 z
 unfold lastN
 split <;> omega
theorem ok1 {q:Rat}(h:QB 1 q):aR (qtx q)=true:=bf (h.le (by decide))
theorem dep_qb (n:Nat):QB 1 (divS ((n % 12:Nat):Int) 2):=divS_qb (by decide) (by omega) (by decide)
theorem dep_pos (n:Nat):¬ (divS ((n % 12:Nat):Int) 2<0):=by
 have key:∀ k<12,¬ (divS ((k:Nat):Int) 2<0):=by decide +kernel
 exact key _ (Nat.mod_lt _ (by decide))
theorem obs_over (S:Sht)(s:Sgt)(i:Nat)(hi:i<6)(hq:QP 1 (ptAt S s))(hl:locL (ptsK (S.kd % 8) S.a S.b S.h) (shT (S.kd % 8)) (ptAt S s)≠[]) :
  eM (ptsK (S.kd % 8) S.a S.b S.h) (shT (S.kd % 8)) colK (obsK S s i)=0:=by
 have hn:=nm_name i hi
 have hx:=ok1 hq.1
 have hy:=ok1 hq.2
 have hlu:=lo_lt_up s
 have hlo:=lo_le s
 have hup:=up_le s
 have hcon:∀ o:Obs,o.x=qtx (ptAt S s).1->o.y=qtx (ptAt S s).2->conB (ptsK (S.kd % 8) S.a S.b S.h) (shT (S.kd % 8)) o=true:=by
  intro o h1 h2
  unfold conB ptO
  rw [h1,h2,dw hx,dw hy]
  exact decide_eq_true hl
 have e1:=lab_idx (s.u1 % 3) (by omega)
 have e2:=lab_idx (max (loU s) (upU s)) (by omega)
 have e3:=lab_idx (min (loU s) (upU s)) (by omega)
 have n1:=lab_name (s.u1 % 3) (by omega)
 have n2:=lab_name (max (loU s) (upU s)) (by omega)
 have n3:=lab_name (min (loU s) (upU s)) (by omega)
 unfold obsK eM
 split
 ·rw [if_neg (by rw [sh1 hn n1 hx hy];decide),if_neg (by rw [hcon _ rfl rfl];decide),if_neg (by simp [unkB,e1] <;> omega),if_neg (by simp [ordB]),if_neg (by simp [depB]),if_neg (by simp [zerB])]
 ·split
  ·have hd:=ok1 (dep_qb s.depth)
   rw [if_neg (by rw [sh2 hn n2 n3 hx hy hd];decide),if_neg (by rw [hcon _ rfl rfl];decide),if_neg (by simp only [unkB,e2,e3];simp <;> omega),if_neg (by simp only [ordB,e2,e3];simp <;> omega),if_neg (by simp only [depB];rw [dw hd,decide_eq_false (dep_pos s.depth)];decide),if_neg (by simp [zerB])]
  ·have h0:=tmod5 s.n0
   have h1:=tmod5 s.n1
   have h2:=lastN_bd s.n2
   rw [if_neg (by rw [sh3 hn n2 n3 hx hy (ok1 (dK _ (by omega))) (ok1 (dK _ (by omega))) (ok1 (dK _ (by omega)))];decide),if_neg (by rw [hcon _ rfl rfl];decide),if_neg (by simp only [unkB,e2,e3];simp <;> omega),if_neg (by simp only [ordB,e2,e3];simp <;> omega),if_neg (by simp [depB]),if_neg ?_]
   intro h
   simp only [zerB,Bool.and_eq_true,decide_eq_true_eq] at h
   have h3:=h.2
   rw [<- qtx_zero] at h3
   have h4:=qtx_eq h3
   have h5:=lastN_ne s.n2
   exact h5 (by exact_mod_cast h4)

theorem all1:∀ i<15,∀ j<15,∀ h:Bool,goodB (ptsZ 1 ((i:Nat)-7) ((j:Nat)-7) h) (shT 1)=true:=by decide +kernel

theorem all2:∀ i<15,∀ j<15,∀ h:Bool,goodB (ptsZ 2 ((i:Nat)-7) ((j:Nat)-7) h) (shT 2)=true:=by decide +kernel

theorem all3:∀ i<15,∀ j<15,∀ h:Bool,goodB (ptsZ 3 ((i:Nat)-7) ((j:Nat)-7) h) (shT 3)=true:=by decide +kernel

theorem all4:∀ i<15,∀ j<15,∀ h:Bool,goodB (ptsZ 4 ((i:Nat)-7) ((j:Nat)-7) h) (shT 4)=true:=by decide +kernel

theorem all5:∀ i<15,∀ j<15,∀ h:Bool,goodB (ptsZ 5 ((i:Nat)-7) ((j:Nat)-7) h) (shT 5)=true:=by decide +kernel

theorem all6:∀ i<15,∀ j<15,∀ h:Bool,goodB (ptsZ 6 ((i:Nat)-7) ((j:Nat)-7) h) (shT 6)=true:=by decide +kernel

theorem all7:∀ i<15,∀ j<15,∀ h:Bool,goodB (ptsZ 7 ((i:Nat)-7) ((j:Nat)-7) h) (shT 7)=true:=by decide +kernel

theorem tmod8_nat (a:Int):∃ i:Nat,i<15/\a.tmod 8=(i:Int)-7:=by
 have h:=tmod8 a
 exact ⟨(a.tmod 8+7).toNat,by omega,by omega⟩
theorem shape_goodB (m:Nat)(hm:m<8)(a b:Int)(h:Bool):goodB (ptsK m a b h) (shT m)=true:=by
 obtain ⟨i,hi,hie⟩:=tmod8_nat a
 obtain ⟨j,hj,hje⟩:=tmod8_nat b
 rw [ptsK_Z,hie,hje]
 rcases (by omega:m=0∨m=1∨m=2∨m=3∨m=4∨m=5∨m=6∨m=7) with rfl | rfl | rfl | rfl | rfl | rfl | rfl | rfl
 ·exact all0 i hi j hj h
 ·exact all1 i hi j hj h
 ·exact all2 i hi j hj h
 ·exact all3 i hi j hj h
 ·exact all4 i hi j hj h
 ·exact all5 i hi j hj h
 ·exact all6 i hi j hj h
 ·exact all7 i hi j hj h
theorem shT_pos:∀ m:Nat,m<8->shT m≠[]/\(shT m).length<=800:=by decide
theorem good_of {pts:List Pt}{tris:List Tri}(h:goodB pts tris=true)(h0:tris≠[])(h1:tris.length<=800)(h2:pts.length<=400):Good pts tris/\∀ p∈pts,locL pts tris p≠[]:=by
 unfold goodB at h
 simp only [Bool.and_eq_true,List.all_eq_true,decide_eq_true_eq] at h
 obtain ⟨g1,g2,g3,g4,g5,g6,g7⟩:=h
 exact ⟨⟨⟨g1,g2,g3,g4,g5,h1,h2⟩,h0,g6⟩,g7⟩
theorem dO (m:Nat)(hm:m<8)(a b:Int)(h:Bool):Good (ptsK m a b h) (shT m)/\∀ p∈ptsK m a b h,locL (ptsK m a b h) (shT m) p≠[]:=by
 have hp:=ptsK_len m a b h
 obtain ⟨h0,h1⟩:=shT_pos m hm
 exact good_of (shape_goodB m hm a b h) h0 h1 (by omega)
theorem ptAt_ok (S:Sht)(s:Sgt)(hs:SgtR s):QP 1 (ptAt S s)/\locL (ptsK (S.kd % 8) S.a S.b S.h) (shT (S.kd % 8)) (ptAt S s)≠[]:=by
 obtain ⟨hG,hL⟩:=dO (S.kd % 8) (Nat.mod_lt _ (by decide)) S.a S.b S.h
 have hpos:0<(ptsK (S.kd % 8) S.a S.b S.h).length:=by rw [ptsK,List.length_map];exact shP_pos _
 unfold ptAt
 split
 ·rename_i h
  exact ⟨place_qp (by decide) (by decide) hs.px hs.py,h⟩
 ·have hil:s.depth % (ptsK (S.kd % 8) S.a S.b S.h).length<(ptsK (S.kd % 8) S.a S.b S.h).length:=Nat.mod_lt _ hpos
  rw [List.getD_eq_getElem?_getD,List.getElem?_eq_getElem hil,Option.getD_some]
  exact ⟨hG.ok.q _ (List.getElem_mem _),hL _ (List.getElem_mem _)⟩
theorem fg {q:Rat}(h:QB 1 q):(qtx q).length<=999998:=qtx_short (fs:=[q]) (k:=1) (by decide) (by intro y hy;rw [List.mem_singleton] at hy;rw [hy];exact h) _ (List.mem_singleton.2 rfl)
theorem obs_r (S:Sht)(s:Sgt)(i:Nat)(hs:SgtR s):ObsR (obsK S s i):=by
 have hq:=(ptAt_ok S s hs).1
 have hx:=fg hq.1
 have hy:=fg hq.2
 have hd:=fg (dep_qb s.depth)
 have h0:=tmod5 s.n0
 have h1:=tmod5 s.n1
 have h2:=lastN_bd s.n2
 have l0:=fg (dK (s.n0.tmod 5) (by omega))
 have l1:=fg (dK (s.n1.tmod 5) (by omega))
 have l2:=fg (dK (lastN s.n2) (by omega))
 unfold obsK
 split
 ·exact ⟨by simp,hx,hy,by simp,by simp [labU],by simp,by simp,by simp,by simp⟩
 ·split
  ·exact ⟨by simp,hx,hy,hd,by simp [labU],by simp [labU],by simp,by simp,by simp⟩
  ·exact ⟨by simp,hx,hy,by simp,by simp [labU],by simp [labU],l0,l1,l2⟩
theorem obsK_name (S:Sht)(s:Sgt)(i:Nat):(obsK S s i).name=[111,UInt8.ofNat (49+i)]:=by
 unfold obsK
 split
 ·rfl
 ·split <;> rfl
theorem eT {S:Sht}{H:Hts}{l:List Sgt}{i:Nat}{o:Obs}(h:(bh S H l).obs[i]?=some o):i<6/\∃ s,l[i]?=some s/\o=obsK S s i:=by
 have h1:=(List.getElem?_eq_some_iff.1 h).1
 have h2:i<(obsL S l).length:=h1
 rw [obsL_len] at h2
 have h3:=obsL_at S (List.getElem?_eq_getElem (show i<l.length by omega)) (show i<6 by omega)
 have h4:(obsL S l)[i]?=some o:=h
 rw [h3] at h4
 exact ⟨by omega,_,List.getElem?_eq_getElem (by omega),(Option.some.inj h4).symm⟩
theorem bookK_zero (S:Sht)(H:Hts)(l:List Sgt)(hs:∀ s∈l,SgtR s):eS (bh S H l)=0:=by
 have hf:∀ n,n<=(bh S H l).obs.length->obsF (bh S H l) n=0:=by
  intro n
  induction n with
  | zero=>intro _;rfl
  | succ n ih =>
   intro hn
   have h0:=ih (by omega)
   have hat:(bh S H l).obs[n]?=some (bh S H l).obs[n]:=List.getElem?_eq_getElem hn
   rw [obs_step h0 hat]
   obtain ⟨hn6,s,hsl,he⟩:=eT hat
   rw [he]
   have hp:=ptAt_ok S s (hs s (List.mem_of_getElem? hsl))
   unfold obZ
   rw [if_neg (by
    have:=obs_over S s n hn6 hp.1 hp.2
    intro h
    exact h this),if_neg]
   intro hm
   obtain ⟨o,ho,hname⟩:=List.mem_map.1 hm
   obtain ⟨k,hk,hko⟩:=List.mem_take_iff_getElem.1 ho
   have hk2:(bh S H l).obs[k]?=some o:=by rw [<- hko];exact List.getElem?_eq_getElem _
   obtain ⟨hk6,s2,_,he2⟩:=eT hk2
   rw [he2,obsK_name,obsK_name] at hname
   have:=nm_inj hk6 hn6 hname
   omega
 unfold eS
 have hlen:(bh S H l).obs.length<=6:=by
  show (obsL S l).length<=6
  rw [obsL_len];omega
 have h1:fldZ (bh S H l).pts.length (bh S H l).terr=0:=by
  unfold fldZ
  rw [if_pos (by show ((fsK _ H).map qtx).length=_;rw [List.length_map,fsK_len];rfl)]
  show chkZ (((fsK _ H).map qtx).all aR)=0
  rw [all_right (fun q hq=>ok1 (fsK_qb _ H q hq))]
  rfl
 have h2:colZ (bh S H l).col=0:=by
  show colZ colK=0
  decide +kernel
 rw [if_neg (by rw [h1];decide),if_neg (by rw [h2];decide),if_neg (by omega)]
 exact hf _ (Nat.le_refl _)
theorem col_r:∀ x∈colK,LayR x:=by
 intro x hx
 simp only [colK,List.mem_cons,List.not_mem_nil,or_false] at hx
 rcases hx with rfl | rfl | rfl
 ·exact ⟨by decide +kernel,fun q h=>by simp at h,by decide⟩
 ·exact ⟨by decide +kernel,fun q h=>by simp at h;subst h;decide +kernel,by decide⟩
 ·exact ⟨by decide +kernel,fun q h=>by simp at h,by decide⟩
theorem bookK_r (S:Sht)(H:Hts)(l:List Sgt)(hs:∀ s∈l,SgtR s):BookR (bh S H l):=by
 refine ⟨?_,col_r,(by show colK.length<=1000000;decide), ?_⟩
 ·intro s h
  obtain ⟨q,hq,rfl⟩:=List.mem_map.1 h
  exact fg (fsK_qb _ H q hq)
 ·intro o ho
  obtain ⟨i,hi⟩:=List.mem_iff_getElem?.1 ho
  obtain ⟨_,s,hsl,rfl⟩:=eT hi
  exact obs_r S s i (hs s (List.mem_of_getElem? hsl))
theorem bookK_bs (S:Sht)(H:Hts)(l:List Sgt):bs (bh S H l)=2:=rfl
theorem bookK_bp (S:Sht)(H:Hts)(l:List Sgt):0<bp (bh S H l)/\bp (bh S H l)<=6:=by
 refine ⟨?_,ptsK_len _ _ _ _⟩
 show 0<(ptsK (S.kd % 8) S.a S.b S.h).length
 rw [ptsK,List.length_map]
 exact shP_pos _

def PlanIn (C:Mem)(pv:Value)(S:Sht)(H:Hts)(l:List Sgt):Prop:=∃ A c,pv=.agg ⟨planC S H (.slice A l.length c)⟩/\Sl C 9 (.slice A l.length c) (l.map sgtC)
structure PlanR (S:Sht)(H:Hts)(l:List Sgt):Prop where
 kd:S.kd<256
 h:HtsR H
 s:∀ s∈l,SgtR s
def varOut (s p:Nat)(a b:Int):Prop:=a<0∨(s:Int)<=a∨b<0∨(p:Int)<=b
instance (s p:Nat) (a b:Int):Decidable (varOut s p a b):=by unfold varOut;infer_instance
def plaOut (n:Nat)(x:Int):Prop:=x<0∨(n:Int)<=x
instance (n:Nat) (x:Int):Decidable (plaOut n x):=by unfold plaOut;infer_instance
open Go Go.Jog Go.ChangeShapes Go.WideShapes Go.ChangeAt Go.RowKit
set_option maxRecDepth 100000

theorem own:ownKnob Tryz.prog.godebug=none:=by kernel_rfl
section
variable {H:Type} {enc:TypeId × Value->H} {W:World} {spare:Nat->Bool} {held:Bool}
theorem u8_of {n:Nat}{c:Value}{y:DataW H × List MemPlace}(h:DataW.trod enc Tryz.prog W 0 spare held n 5 [c]=some y):∃ b:UInt8,c=.int .u8 b.toNat:=by
 obtain ⟨m,h1,_,h3⟩:=DataW.trod_int Tryz.underlying5 h
 simp only [List.cons.injEq,and_true] at h1
 subst h1
 have hb:0<=m/\m<256:=by
  simp [Lit.wf,IntKind.min,IntKind.max,IntKind.signed,IntKind.bits] at h3
  omega
 refine ⟨UInt8.ofNat m.toNat, ?_⟩
 congr 1
 simp only [UInt8.toNat_ofNat']
 omega
theorem u8n_of {n:Nat}{c:Value}{y:DataW H × List MemPlace}(h:DataW.trod enc Tryz.prog W 0 spare held n 5 [c]=some y):∃ m:Nat,c=.int .u8 m/\m<256:=by
 obtain ⟨b,rfl⟩:=u8_of h
 exact ⟨b.toNat,rfl,b.toNat_lt⟩
theorem i8_of {n:Nat}{c:Value}{y:DataW H × List MemPlace}(h:DataW.trod enc Tryz.prog W 0 spare held n 22 [c]=some y):∃ m:Int,c=.int .i8 m/\-128<=m/\m<=127:=by
 obtain ⟨m,h1,_,h3⟩:=DataW.trod_int Tryz.underlying22 h
 simp only [List.cons.injEq,and_true] at h1
 refine ⟨m,h1, ?_⟩
 simp [Lit.wf,IntKind.min,IntKind.max,IntKind.signed,IntKind.bits] at h3
 omega
theorem bool_of {n:Nat}{c:Value}{y:DataW H × List MemPlace}(h:DataW.trod enc Tryz.prog W 0 spare held n 4 [c]=some y):∃ b:Bool,c=.bool b:=by
 obtain ⟨b,h1,_⟩:=DataW.trod_bool Tryz.underlying4 h
 simp only [List.cons.injEq,and_true] at h1
 exact ⟨b,h1⟩
theorem arr_of {t e:TypeId}{k n:Nat}{cs:List Value}{y:DataW H × List MemPlace}(ht:Tryz.prog.underlying t=some (.array k e))(he:Tryz.prog.cellsOf e=1)(h:DataW.trod enc Tryz.prog W 0 spare held n t cs=some y) :
  ∃ m,∀ i,i<k->∃ z,DataW.trod enc Tryz.prog W 0 spare held m e ((cs.drop i).take 1)=some z:=by
 obtain ⟨xs,m,_,_,_,hx,hf⟩:=DataW.trod_array ht h
 refine ⟨m,fun i hi=>?_⟩
 have h1:=hf i hi
 rw [he,Nat.mul_one] at h1
 rw [h1,List.getElem?_eq_getElem (by omega)]
 exact ⟨_,rfl⟩
theorem cells_u8:Tryz.prog.cellsOf 5=1:=by kernel_rfl
theorem cells_i8:Tryz.prog.cellsOf 22=1:=by kernel_rfl
theorem cells_bool:Tryz.prog.cellsOf 4=1:=by kernel_rfl
theorem cells_a2i:Tryz.prog.cellsOf 23=2:=by kernel_rfl
theorem cells_a2u:Tryz.prog.cellsOf 104=2:=by kernel_rfl
theorem cells_a3:Tryz.prog.cellsOf 105=3:=by kernel_rfl
theorem cells_a6:Tryz.prog.cellsOf 26=6:=by kernel_rfl
theorem sheet_of {n:Nat}{c0 c1 c2 c3:Value}{y:DataW H × List MemPlace}(h:DataW.trod enc Tryz.prog W 0 spare held n 25 [c0,c1,c2,c3]=some y):∃ S:Sht,[c0,c1,c2,c3]=([.int .u8 S.kd,.int .i8 S.a,.int .i8 S.b,.bool S.h]:List Value)/\S.kd<256:=by
 obtain ⟨y0,y1,y2,n',_,hl,h0,h1,h2⟩:=Go.Deep.trod_struct3 Tryz.underlying25 h
 simp only [cells_u8,cells_a2i,cells_bool] at h0 h1 h2
 obtain ⟨kd,rfl,hk⟩:=u8n_of h0
 obtain ⟨m,ha⟩:=arr_of Tryz.underlying23 cells_i8 h1
 obtain ⟨z0,e0⟩:=ha 0 (by decide)
 obtain ⟨z1,e1⟩:=ha 1 (by decide)
 obtain ⟨a,rfl,_⟩:=i8_of e0
 obtain ⟨b,rfl,_⟩:=i8_of e1
 obtain ⟨hh,rfl⟩:=bool_of h2
 exact ⟨⟨kd,a,b,hh⟩,rfl,hk⟩
theorem heights_of {n:Nat}{c0 c1 c2 c3 c4 c5 c6:Value}{y:DataW H × List MemPlace}(h:DataW.trod enc Tryz.prog W 0 spare held n 28 [c0,c1,c2,c3,c4,c5,c6]=some y):∃ G:Hts,[c0,c1,c2,c3,c4,c5,c6]=htsC G/\HtsR G:=by
 obtain ⟨y0,y1,n',_,hl,h0,h1⟩:=Go.ChangeShapes.trod_struct2 Tryz.underlying28 h
 simp only [cells_a6,cells_bool] at h0 h1
 obtain ⟨m,ha⟩:=arr_of Tryz.underlying26 cells_i8 h0
 obtain ⟨z0,e0⟩:=ha 0 (by decide)
 obtain ⟨z1,e1⟩:=ha 1 (by decide)
 obtain ⟨z2,e2⟩:=ha 2 (by decide)
 obtain ⟨z3,e3⟩:=ha 3 (by decide)
 obtain ⟨z4,e4⟩:=ha 4 (by decide)
 obtain ⟨z5,e5⟩:=ha 5 (by decide)
 obtain ⟨x0,rfl,g0⟩:=i8_of e0
 obtain ⟨x1,rfl,g1⟩:=i8_of e1
 obtain ⟨x2,rfl,g2⟩:=i8_of e2
 obtain ⟨x3,rfl,g3⟩:=i8_of e3
 obtain ⟨x4,rfl,g4⟩:=i8_of e4
 obtain ⟨x5,rfl,g5⟩:=i8_of e5
 obtain ⟨hh,rfl⟩:=bool_of h1
 refine ⟨⟨x0,x1,x2,x3,x4,x5,hh⟩,rfl, ?_⟩
 intro z hz
 simp only [htsL,List.mem_cons,List.not_mem_nil,or_false] at hz
 rcases hz with rfl | rfl | rfl | rfl | rfl | rfl <;> assumption
theorem trod_struct5 {P:Program}{t:TypeId}{f0 f1 f2 f3 f4:Field}{fuel:Nat}{cs:List Value}{x:DataW H × List MemPlace}(ht:P.underlying t=some (.struct #[f0,f1,f2,f3,f4]))(h:DataW.trod enc P W 0 spare held fuel t cs=some x) :
  ∃ y0 y1 y2 y3 y4 n,DataW.trod enc P W 0 spare held n f0.type ((cs.drop f0.offset).take (P.cellsOf f0.type))=some y0/\DataW.trod enc P W 0 spare held n f1.type ((cs.drop f1.offset).take (P.cellsOf f1.type))=some y1/\DataW.trod enc P W 0 spare held n f2.type ((cs.drop f2.offset).take (P.cellsOf f2.type))=some y2 /\
   DataW.trod enc P W 0 spare held n f3.type ((cs.drop f3.offset).take (P.cellsOf f3.type))=some y3/\DataW.trod enc P W 0 spare held n f4.type ((cs.drop f4.offset).take (P.cellsOf f4.type))=some y4:=by
 obtain ⟨xs,n,_,rfl,hl,hlen,hf⟩:=DataW.trod_struct ht h
 match xs,hlen with
 | [y0,y1,y2,y3,y4],_=>exact ⟨y0,y1,y2,y3,y4,n,by simpa using hf 0 f0 rfl,by simpa using hf 1 f1 rfl,by simpa using hf 2 f2 rfl,by simpa using hf 3 f3 rfl,by simpa using hf 4 f4 rfl⟩
theorem sight_of {n:Nat}{cs:List Value}{y:DataW H × List MemPlace}(hl:cs.length=9)(h:DataW.trod enc Tryz.prog W 0 spare held n 107 cs=some y):∃ s:{s:Sgt // SgtR s},cs=sgtC s.1:=by
 obtain ⟨y0,y1,y2,y3,y4,n',h0,h1,h2,h3,h4⟩:=trod_struct5 Tryz.underlying107 h
 match cs,hl with
 | [c0,c1,c2,c3,c4,c5,c6,c7,c8],_ =>
   simp only [cells_u8,cells_a2i,cells_a2u,cells_a3] at h0 h1 h2 h3 h4
   obtain ⟨kd,rfl,hk⟩:=u8n_of h0
   obtain ⟨m1,a1⟩:=arr_of Tryz.underlying23 cells_i8 h1
   obtain ⟨w0,e0⟩:=a1 0 (by decide)
   obtain ⟨w1,e1⟩:=a1 1 (by decide)
   obtain ⟨px,rfl,hpx⟩:=i8_of e0
   obtain ⟨py,rfl,hpy⟩:=i8_of e1
   obtain ⟨m2,a2⟩:=arr_of Tryz.underlying104 cells_u8 h2
   obtain ⟨w2,e2⟩:=a2 0 (by decide)
   obtain ⟨w3,e3⟩:=a2 1 (by decide)
   obtain ⟨u0,rfl,hu0⟩:=u8n_of e2
   obtain ⟨u1,rfl,hu1⟩:=u8n_of e3
   obtain ⟨d,rfl,hd⟩:=u8n_of h3
   obtain ⟨m4,a4⟩:=arr_of Tryz.underlying105 cells_i8 h4
   obtain ⟨w4,e4⟩:=a4 0 (by decide)
   obtain ⟨w5,e5⟩:=a4 1 (by decide)
   obtain ⟨w6,e6⟩:=a4 2 (by decide)
   obtain ⟨n0,rfl,hn0⟩:=i8_of e4
   obtain ⟨n1,rfl,hn1⟩:=i8_of e5
   obtain ⟨n2,rfl,hn2⟩:=i8_of e6
   exact ⟨⟨⟨kd,px,py,u0,u1,d,n0,n1,n2⟩,⟨hk,hpx,hpy,hu0,hu1,hd,hn0,hn1,hn2⟩⟩,rfl⟩
theorem sights_of {fuel:Nat}{v:Value}{x:DataW H × List MemPlace}(h:DataW.trod enc Tryz.prog W 0 spare held fuel 29 [v]=some x):∃ l:List Sgt,Sl (memOf W) 9 v (l.map sgtC)/\∀ s∈l,SgtR s:=by
 obtain ⟨l,hl⟩:=sl_of_arg (fun s:{s:Sgt // SgtR s}=>sgtC s.1) Tryz.underlying29 (by kernel_rfl) (by decide) (fun n cs y hl hy=>sight_of hl hy) h
 refine ⟨l.map (·.1),by rw [List.map_map];exact hl,fun s hs=>?_⟩
 obtain ⟨z,_,rfl⟩:=List.mem_map.1 hs
 exact z.2
theorem plan_of {n:Nat}{cs:List Value}{y:DataW H × List MemPlace}(h:DataW.trod enc Tryz.prog W 0 spare held n 31 cs=some y):∃ S G l,PlanIn (memOf W) (.agg ⟨cs⟩) S G l/\PlanR S G l:=by
 obtain ⟨y0,y1,y2,n',_,hl,h0,h1,h2⟩:=Go.Deep.trod_struct3 Tryz.underlying31 h
 have hc:Tryz.prog.cellsOf 31=12:=by kernel_rfl
 have h4:Tryz.prog.cellsOf 25=4:=by kernel_rfl
 have h7:Tryz.prog.cellsOf 28=7:=by kernel_rfl
 have hs:Tryz.prog.cellsOf 29=1:=by kernel_rfl
 rw [hc] at hl
 match cs,hl with
 | [c0,c1,c2,c3,c4,c5,c6,c7,c8,c9,c10,c11],_ =>
  simp only [h4,h7,hs] at h0 h1 h2
  obtain ⟨S,e0,hk⟩:=sheet_of h0
  obtain ⟨G,e1,hG⟩:=heights_of h1
  obtain ⟨l,hsl,hR⟩:=sights_of h2
  obtain ⟨A,c,rfl,_⟩:=id hsl
  simp only [List.cons.injEq,and_true] at e0
  obtain ⟨rfl,rfl,rfl,rfl⟩:=e0
  simp only [htsC,List.cons.injEq,and_true] at e1
  obtain ⟨rfl,rfl,rfl,rfl,rfl,rfl,rfl⟩:=e1
  simp only [List.length_map] at hsl ⊢
  exact ⟨S,G,l,⟨A,c,rfl,hsl⟩,hk,hG,hR⟩
end

def layCells (cs:Array Value):Obj->Obj
 | .cells _ t frozen=>.cells cs t frozen
 | o=>o
def db32Cells:Array Value:=(Lib.deBruijn32tab.map fun z:Nat=>Value.int .u8 (z:Int)).toArray
def db64Cells:Array Value:=(Lib.deBruijn64tab.map fun z:Nat=>Value.int .u8 (z:Int)).toArray
def pow10Cells:Array Value:=(Lib.pow10Tab.map fun z=>Value.int .u64 z).toArray
def rangeText:ByteArray:=⟨#[118,97,108,117,101,32,111,117,116,32,111,102,32,114,97,110,103,101]⟩
def syntaxText:ByteArray:=⟨#[105,110,118,97,108,105,100,32,115,121,110,116,97,120]⟩
noncomputable def low:Nat:=(World.holding Tryz.prog default ⟨#[],#[],[]⟩).heap.size
noncomputable def laidWorld (os:Os):World :=
 let w0:=World.holding Tryz.prog os ⟨#[.cells #[.string rangeText] 331,.cells #[.string syntaxText] 331],#[],[]⟩
 { w0 with heap:=((((w0.heap.modify 4 (layCells db32Cells)).modify 5 (layCells db64Cells)).modify 3 (layCells pow10Cells)).modify 2 (layCells #[.iface 329 (.pointer (some ⟨low,0,none⟩))])).modify 1 (layCells #[.iface 329 (.pointer (some ⟨low+1,0,none⟩))]) }
theorem tabs_of {W : World} (h : laidMet Tryz.prog [("math/bits.deBruijn32tab", Rows.laid_math_bits_deBruijn32tab), ("math/bits.deBruijn64tab", Rows.laid_math_bits_deBruijn64tab), ("internal/strconv.uint64pow10", Rows.laid_internal_strconv_uint64pow10), ("strconv.ErrRange", Rows.laid_strconv_ErrRange), ("strconv.ErrSyntax", Rows.laid_strconv_ErrSyntax)] W) : Tabs (memOf W) := by
 have h2:=h.tail.tail
 have e2:(Rows.laid_internal_strconv_uint64pow10:DataW Unit)=Lib.tabData .u64 Lib.pow10Tab:=by rfl
 rw [e2] at h2
 have t2:=Lib.tabIs_of_head (g:=3) (t:=326) (e:=267) (n:=20) (by kernel_rfl) (by kernel_rfl) Tryz.underlying326 Tryz.underlying267 (by kernel_rfl) (by kernel_rfl) h2
 exact ⟨VarC.ofWorld t2⟩
theorem laidOut':laidOutB Tryz.prog=true:=by kernel_rfl
section
variable {H:Type} {enc:TypeId × Value->H} {W:World} {spare:Nat->Bool} {held:Bool}
end
section
variable {H:Type} {enc:TypeId × Value->H} {W:World} {spare:Nat->Bool} {held:Bool}
theorem okWide_array' {P:Program}{w:World}{r:Reach}{base:Nat}{t e:TypeId}{k:Nat}{v:Value}(ht:P.underlying t=some (.array k e))(h:Value.okWide P w r base t v):∃ cs,v=.agg cs/\cs.size=P.cellsOf t:=by
 simp only [Value.okWide,ht] at h
 obtain ⟨cs,h1,h2,_⟩:=h
 exact ⟨cs,h1,h2⟩
end
end Go.Proofs.YtmgkekjbbodicaaGreatDoor
