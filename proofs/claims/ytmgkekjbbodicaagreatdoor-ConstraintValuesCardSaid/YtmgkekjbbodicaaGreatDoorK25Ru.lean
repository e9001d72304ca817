/- FOR ANY PLAN AND ANY NUMBERS ConstraintValues ANSWERS true, and leaves them as they were. -/
import Derived.Test.YtmgkekjbbodicaaGreatDoorG11
import Derived.Test.YtmgkekjbbodicaaGreatDoorShelf
set_option maxHeartbeats 4000000
namespace Go.Proofs.YtmgkekjbbodicaaGreatDoor
open Go Go.Jog
set_option maxRecDepth 100000

section
variable {H:Type} {enc:TypeId × Value->H} {W:World} {spare:Nat->Bool} {held:Bool}
theorem rat_strA {n:Nat}{c:Value}{y:DataW H × List MemPlace}(h:DataW.trod enc Tryz.prog W 0 spare held n 54 [c]=some y):∃ s:Str,c=strV s:=by
 obtain ⟨s,h1,_⟩:=DataW.trod_string Tryz.underlying54 h
 simp only [List.cons.injEq,and_true] at h1
 obtain ⟨⟨l⟩⟩:=s
 exact ⟨l,h1⟩
theorem ratL_of {fuel:Nat}{v:Value}{x:DataW H × List MemPlace}(h:DataW.trod enc Tryz.prog W 0 spare held fuel 38 [v]=some x):∃ l:List Str,Sl (memOf W) 1 v (l.map cg) :=
 sl_of_arg cg Tryz.underlying38 (by kernel_rfl) (by decide) (fun n cs y hl hy=>by
  match cs,hl with
  | [c],_ =>
   obtain ⟨s,rfl⟩:=rat_strA hy
   exact ⟨s,rfl⟩) h
end
end Go.Proofs.YtmgkekjbbodicaaGreatDoor
namespace Go.Jog
open Go
end Go.Jog
namespace Go.Proofs.YtmgkekjbbodicaaGreatDoor
open Go Go.Jog
set_option maxRecDepth 100000



/-! Small parts: numbers of quarters and of halves. -/
theorem rat_quot {q:Rat}{z w:Int}(hw:w≠0)(h:q*w=z):q=divS z w:=by
 have hw':(w:Rat)≠0:=by simpa using hw
 unfold divS
 rw [Rat.mkRat_eq_div]
 have hq:q=z / w:=by grind
 rw [hq]
 split
 ·rename_i hn
  have:((w.natAbs:Nat):Int)=-w:=by omega
  rw [show ((w.natAbs:Nat):Rat)=(((w.natAbs:Nat):Int):Rat) from rfl,this]
  simp only [Rat.intCast_neg]
  grind
 ·have:((w.natAbs:Nat):Int)=w:=by omega
  rw [show ((w.natAbs:Nat):Rat)=(((w.natAbs:Nat):Int):Rat) from rfl,this]
theorem divS_mul {z w:Int}(hw:w≠0):divS z w*w=z:=by
 have hw':(w:Rat)≠0:=by simpa using hw
 have h:=rat_quot (q:=(z:Rat) / w) (z:=z) hw (by grind)
 rw [<- h]
 grind
theorem qb_quot {q:Rat}{z w:Int}(hw:w≠0)(h:q*w=z)(hz:z.natAbs<1000000000)(hwl:w.natAbs<1000000000):QB 1 q:=by
 rw [rat_quot hw h];exact divS_qb hw hz hwl
def iA (x0 y0 x1 y1 x2 y2:Int):Int:=(x1-x0)*(y2-y0)-(y1-y0)*(x2-x0)
def At4 (p:Pt)(x y:Int):Prop:=p.1*4=x/\p.2*4=y
def Qtr (p:Pt):Prop:=∃ x y:Int,At4 p x y/\(-600<=x/\x<=600)/\(-600<=y/\y<=600)
def Hlf (z:Rat):Prop:=∃ k:Int,z*2=k/\(-38<=k/\k<=38)
theorem area_int {a b c:Pt}{x0 y0 x1 y1 x2 y2:Int}(ha:At4 a x0 y0)(hb:At4 b x1 y1)(hc:At4 c x2 y2):ci a b c*16=(iA x0 y0 x1 y1 x2 y2:Int):=by
 unfold iA ci
 simp only [Rat.intCast_sub,Rat.intCast_mul]
 rw [<- ha.1,<- ha.2,<- hb.1,<- hb.2,<- hc.1,<- hc.2]
 grind
theorem mul_bd {a b:Int}{M K:Nat}(ha:a.natAbs<=M)(hb:b.natAbs<=K):(a*b).natAbs<=M*K:=by
 rw [Int.natAbs_mul];exact Nat.mul_le_mul ha hb
theorem iA_bd {x0 y0 x1 y1 x2 y2:Int}(h:(-600<=x0/\x0<=600)/\(-600<=y0/\y0<=600)/\(-600<=x1/\x1<=600)/\(-600<=y1/\y1<=600)/\(-600<=x2/\x2<=600)/\(-600<=y2/\y2<=600)):(iA x0 y0 x1 y1 x2 y2).natAbs<=2880000:=by
 have h1:=mul_bd (a:=x1-x0) (b:=y2-y0) (M:=1200) (K:=1200) (by omega) (by omega)
 have h2:=mul_bd (a:=y1-y0) (b:=x2-x0) (M:=1200) (K:=1200) (by omega) (by omega)
 unfold iA
 omega
theorem rat_scale {n d:Rat}{N W:Int}(hn:n*16=N)(hd:d*16=W)(h0:d≠0):W≠0/\n / d*W=N:=by
 constructor
 ·intro h
  subst h
  exact h0 (by grind)
 ·grind
theorem wgt_qb {pts:List Pt}{t:Tri}{p:Pt}(hc:∀ j,Qtr (cor pts t j))(hA:ci (cor pts t 0) (cor pts t 1) (cor pts t 2)≠0)(hp:Qtr p)(j:Nat):QB 1 (wgt pts t p j):=by
 obtain ⟨x0,y0,h0,b0,d0⟩:=hc 0
 obtain ⟨x1,y1,h1,b1,d1⟩:=hc 1
 obtain ⟨x2,y2,h2,b2,d2⟩:=hc 2
 obtain ⟨x3,y3,h3,b3,d3⟩:=hc ((j+1) % 3)
 obtain ⟨x4,y4,h4,b4,d4⟩:=hc ((j+2) % 3)
 obtain ⟨x5,y5,h5,b5,d5⟩:=hp
 obtain ⟨hW,hq⟩:=rat_scale (area_int h5 h3 h4) (area_int h0 h1 h2) hA
 have k1:=iA_bd (x0:=x5) (y0:=y5) (x1:=x3) (y1:=y3) (x2:=x4) (y2:=y4) ⟨b5,d5,b3,d3,b4,d4⟩
 have k2:=iA_bd (x0:=x0) (y0:=y0) (x1:=x1) (y1:=y1) (x2:=x2) (y2:=y2) ⟨b0,d0,b1,d1,b2,d2⟩
 exact qb_quot hW hq (by omega) (by omega)
theorem slope_int {c0 c1 c2:Pt}{z0 z1 z2:Rat}{x0 y0 x1 y1 x2 y2 k0 k1 k2:Int}(h0:At4 c0 x0 y0)(h1:At4 c1 x1 y1)(h2:At4 c2 x2 y2)(e0:z0*2=k0)(e1:z1*2=k1)(e2:z2*2=k2)(hA:ci c0 c1 c2≠0) :
  iA x0 y0 x1 y1 x2 y2≠0/\(slopeQ c0 c1 c2 z0 z1 z2).1*(iA x0 y0 x1 y1 x2 y2:Int)=((2*((k1-k0)*(y2-y0)-(y1-y0)*(k2-k0)):Int):Rat)/\(slopeQ c0 c1 c2 z0 z1 z2).2*(iA x0 y0 x1 y1 x2 y2:Int)=((2*((x1-x0)*(k2-k0)-(k1-k0)*(x2-x0)):Int):Rat):=by
 have hw:=area_int h0 h1 h2
 have hD:cI (c1.1-c0.1) (c1.2-c0.2) (c2.1-c0.1) (c2.2-c0.2)=ci c0 c1 c2:=by unfold cI ci;grind
 refine ⟨fun h=>hA (by rw [h] at hw;grind), ?_, ?_⟩
 ·unfold slopeQ
  simp only
  rw [hD,<- hw]
  unfold cI
  simp only [Rat.intCast_sub,Rat.intCast_mul]
  rw [<- h0.2,<- h1.2,<- h2.2,<- e0,<- e1,<- e2]
  generalize ci c0 c1 c2=d at hA
  grind
 ·unfold slopeQ
  simp only
  rw [hD,<- hw]
  unfold cI
  simp only [Rat.intCast_sub,Rat.intCast_mul]
  rw [<- h0.1,<- h1.1,<- h2.1,<- e0,<- e1,<- e2]
  generalize ci c0 c1 c2=d at hA
  grind
theorem cross_bd {a b c d:Int}(h:a.natAbs<=76/\b.natAbs<=1200/\c.natAbs<=1200/\d.natAbs<=76):(a*b-c*d).natAbs<=182400:=by
 have h1:=mul_bd h.1 h.2.1
 have h2:=mul_bd h.2.2.1 h.2.2.2
 omega
theorem slope_qp {pts:List Pt}{t:Tri}{fs:List Rat}(hc:∀ j,Qtr (cor pts t j))(hA:ci (cor pts t 0) (cor pts t 1) (cor pts t 2)≠0)(hz:∀ j,Hlf (fz fs t j)):QP 1 (bY pts fs t):=by
 obtain ⟨x0,y0,h0,b0,d0⟩:=hc 0
 obtain ⟨x1,y1,h1,b1,d1⟩:=hc 1
 obtain ⟨x2,y2,h2,b2,d2⟩:=hc 2
 obtain ⟨k0,e0,f0⟩:=hz 0
 obtain ⟨k1,e1,f1⟩:=hz 1
 obtain ⟨k2,e2,f2⟩:=hz 2
 obtain ⟨hW,g1,g2⟩:=slope_int h0 h1 h2 e0 e1 e2 hA
 have k3:=iA_bd (x0:=x0) (y0:=y0) (x1:=x1) (y1:=y1) (x2:=x2) (y2:=y2) ⟨b0,d0,b1,d1,b2,d2⟩
 have k4:=cross_bd (a:=k1-k0) (b:=y2-y0) (c:=y1-y0) (d:=k2-k0) ⟨by omega,by omega,by omega,by omega⟩
 have k5:=cross_bd (a:=k1-k0) (b:=x2-x0) (c:=x1-x0) (d:=k2-k0) ⟨by omega,by omega,by omega,by omega⟩
 unfold bY
 exact ⟨qb_quot hW g1 (by omega) (by omega),qb_quot hW g2 (by omega) (by omega)⟩
theorem on_qb {pts:List Pt}{t:Tri}{fs:List Rat}{p:Pt}(hc:∀ j,Qtr (cor pts t j))(hA:ci (cor pts t 0) (cor pts t 1) (cor pts t 2)≠0)(hz:∀ j,Hlf (fz fs t j))(hp:Qtr p):QB 1 (onQ pts fs t p):=by
 obtain ⟨x0,y0,h0,b0,d0⟩:=hc 0
 obtain ⟨x1,y1,h1,b1,d1⟩:=hc 1
 obtain ⟨x2,y2,h2,b2,d2⟩:=hc 2
 obtain ⟨x3,y3,h3,b3,d3⟩:=hp
 obtain ⟨k0,e0,f0⟩:=hz 0
 obtain ⟨k1,e1,f1⟩:=hz 1
 obtain ⟨k2,e2,f2⟩:=hz 2
 obtain ⟨hW,g1,g2⟩:=slope_int h0 h1 h2 e0 e1 e2 hA
 have k3:=iA_bd (x0:=x0) (y0:=y0) (x1:=x1) (y1:=y1) (x2:=x2) (y2:=y2) ⟨b0,d0,b1,d1,b2,d2⟩
 have k4:=cross_bd (a:=k1-k0) (b:=y2-y0) (c:=y1-y0) (d:=k2-k0) ⟨by omega,by omega,by omega,by omega⟩
 have k5:=cross_bd (a:=k1-k0) (b:=x2-x0) (c:=x1-x0) (d:=k2-k0) ⟨by omega,by omega,by omega,by omega⟩
 have m0:=mul_bd (show k0.natAbs<=38 by omega) k3
 have m1:=mul_bd k4 (show (x3-x0).natAbs<=1200 by omega)
 have m2:=mul_bd (show ((x1-x0)*(k2-k0)-(k1-k0)*(x2-x0)).natAbs<=182400 by omega) (show (y3-y0).natAbs<=1200 by omega)
 refine qb_quot (w:=2*iA x0 y0 x1 y1 x2 y2) (z:=k0*iA x0 y0 x1 y1 x2 y2+((k1-k0)*(y2-y0)-(y1-y0)*(k2-k0))*(x3-x0)+((x1-x0)*(k2-k0)-(k1-k0)*(x2-x0))*(y3-y0)) (by omega) ?_ (by omega) (by omega)
 unfold onQ sumQ
 simp only [List.foldl_cons,List.foldl_nil]
 have g1':=g1
 have g2':=g2
 unfold bY
 generalize (slopeQ (cor pts t 0) (cor pts t 1) (cor pts t 2) (fz fs t 0) (fz fs t 1) (fz fs t 2)).1=s1 at g1' ⊢
 generalize (slopeQ (cor pts t 0) (cor pts t 1) (cor pts t 2) (fz fs t 0) (fz fs t 1) (fz fs t 2)).2=s2 at g2' ⊢
 clear g1 g2
 generalize ((k1-k0)*(y2-y0)-(y1-y0)*(k2-k0))=n1 at g1' ⊢
 generalize ((x1-x0)*(k2-k0)-(k1-k0)*(x2-x0))=n2 at g2' ⊢
 generalize iA x0 y0 x1 y1 x2 y2=w at g1' g2' ⊢
 simp only [Rat.intCast_sub,Rat.intCast_mul,Rat.intCast_add] at g1' g2' ⊢
 have p0:=h0.1
 have p1:=h0.2
 have p2:=h3.1
 have p3:=h3.2
 generalize fz fs t 0=z0 at e0 ⊢
 rw [<- p0,<- p1,<- p2,<- p3,<- e0]
 have t2:((2:Int):Rat)=2:=rfl
 rw [t2] at g1' g2' ⊢
 grind
theorem divS_at4 {z w:Int}(hw:w=1∨w=2∨w=4)(hz:-150<=z/\z<=150):∃ x:Int,divS z w*4=x/\(-600<=x/\x<=600):=by
 have h:=divS_mul (z:=z) (w:=w) (by omega)
 have t1:((1:Int):Rat)=1:=rfl
 have t2:((2:Int):Rat)=2:=rfl
 have t4:((4:Int):Rat)=4:=rfl
 rcases hw with rfl | rfl | rfl
 ·refine ⟨4*z, ?_,by omega⟩
  rw [Rat.intCast_mul,<- h,t1,t4]
  grind
 ·refine ⟨2*z, ?_,by omega⟩
  rw [Rat.intCast_mul,<- h,t2]
  grind
 ·exact ⟨z,h,by omega⟩
theorem place_qtr {a b:Int}{h:Bool}{x y n:Int}(hn:n=1∨n=2)(hx:-128<=x/\x<=127)(hy:-128<=y/\y<=127):Qtr (bN a b h x y n):=by
 have ha:=tmod8 a
 have hb:=tmod8 b
 have hh:ce h=1∨ce h=2:=by cases h <;> simp [ce]
 have hw:ce h*n=1∨ce h*n=2∨ce h*n=4:=by rcases hh with e | e <;> rcases hn with f | f <;> rw [e,f] <;> omega
 obtain ⟨u,hu,bu⟩:=divS_at4 (z:=x+a.tmod 8*n) hw (by rcases hn with f | f <;> subst f <;> omega)
 obtain ⟨v,hv,bv⟩:=divS_at4 (z:=y+b.tmod 8*n) hw (by rcases hn with f | f <;> subst f <;> omega)
 exact ⟨u,v,⟨hu,hv⟩,bu,bv⟩
theorem ptsK_qtr {m:Nat}{a b:Int}{h:Bool}:∀ p∈ptsK m a b h,Qtr p:=by
 intro p hp
 obtain ⟨x,hx,rfl⟩:=List.mem_map.1 hp
 have:=shP_bd m x hx
 exact place_qtr (.inl rfl) (by omega) (by omega)
theorem zero_qtr:Qtr (0,0):=⟨0,0,⟨by decide +kernel,by decide +kernel⟩,by decide,by decide⟩
theorem getD_all {α:Type}{P:α->Prop}{l:List α}{i:Nat}{d:α}(h:∀ x∈l,P x)(h0:P d):P (l.getD i d):=by
 rw [List.getD_eq_getElem?_getD]
 cases h1:l[i]? with
 | none=>exact h0
 | some x=>exact h x (List.mem_of_getElem? h1)
theorem cor_qtr {m:Nat}{a b:Int}{h:Bool}{t:Tri}(j:Nat):Qtr (cor (ptsK m a b h) t j):=getD_all ptsK_qtr zero_qtr
theorem fsK_hlf (n:Nat)(H:Hts):∀ q∈fsK n H,Hlf q:=by
 intro q hq
 obtain ⟨i,_,rfl⟩:=List.mem_map.1 hq
 have hb:=tmod20 ((htsL H).getD (i % 6) 0)
 generalize ((htsL H).getD (i % 6) 0).tmod 20=z at hb ⊢
 have t1:((1:Int):Rat)=1:=rfl
 have t2:((2:Int):Rat)=2:=rfl
 rcases halfZ_or H.half with e | e
 ·have h:=divS_mul (z:=z) (w:=1) (by decide)
  rw [e]
  refine ⟨2*z, ?_,by omega⟩
  rw [Rat.intCast_mul,<- h,t1,t2]
  grind
 ·rw [e]
  exact ⟨z,divS_mul (by decide),by omega⟩
theorem zero_hlf:Hlf 0:=⟨0,by decide +kernel,by decide⟩
theorem one_hlf:Hlf 1:=⟨2,by decide +kernel,by decide⟩
theorem fz_hlf {n:Nat}{H:Hts}{t:Tri}(j:Nat):Hlf (fz (fsK n H) t j):=getD_all (fsK_hlf n H) zero_hlf
theorem unit_hlf {n k:Nat}{t:Tri}(j:Nat):Hlf (fz (unitF n k) t j):=getD_all (fun q hq=>by
 rcases unitF_01 q hq with rfl | rfl
 ·exact zero_hlf
 ·exact one_hlf) zero_hlf
theorem ptAt_qtr (S:Sht)(s:Sgt)(hs:SgtR s):Qtr (ptAt S s):=by
 unfold ptAt
 split
 ·exact place_qtr (.inr rfl) hs.px hs.py
 ·exact getD_all ptsK_qtr zero_qtr
theorem rowF_all {P:Rat->Prop}{n:Nat}{m:List (Nat × Rat)}(h0:P 0)(h:∀ x∈m,P x.2):∀ q∈rowF n m,P q:=by
 intro q hq
 obtain ⟨j,_,rfl⟩:=List.mem_map.1 hq
 cases h1:mget m j with
 | none=>exact h0
 | some v =>
  exact h _ (dF h1)
theorem rowR_ok {s p k:Nat}{fm:List (Nat × Rat)}{b sg:Rat}(hf:∀ x∈fm,QB 1 x.2)(hb:QB 3 b)(hs:QB 1 sg):RowR (rowR s p k fm b sg):=by
 refine ⟨rowF_all (QB_zero.le (by decide)) ?_,(QB_mulx hs hb).le (by decide)⟩
 intro x hx
 obtain ⟨y,hy,rfl⟩:=List.mem_map.1 hx
 exact (QB_mulx hs (hf y hy)).le (by decide)
theorem rowsO_ok {B:Bk}{o:Obs}{p:Pt}{t:Tri}{z:Rat}(hw:∀ j,QB 1 (wgt B.pts t p j))(hs:∀ j,QP 1 (slf B.pts t j))(hh:QB 3 (hgtQ o z))(he:o.kind≠1->o.kind≠2->QB 3 (eastQ o)/\QB 3 (northQ o)):∀ r∈rowsO B o p t z,RowR r:=by
 have f1:∀ x∈atT t (wgt B.pts t p),QB 1 x.2:=eu (hw 0) (hw 1) (hw 2)
 have f2:∀ x∈atT t (fun j=>(slf B.pts t j).1),QB 1 x.2:=eu (hs 0).1 (hs 1).1 (hs 2).1
 have f3:∀ x∈atT t (fun j=>(slf B.pts t j).2),QB 1 x.2:=eu (hs 0).2 (hs 1).2 (hs 2).2
 intro r hr
 unfold rowsO at hr
 split at hr
 ·rcases List.mem_append.1 hr with h | h
  ·split at h
   ·rw [List.mem_singleton.1 h];exact rowR_ok f1 hh QB_one
   ·simp at h
  ·split at h
   ·rw [List.mem_singleton.1 h];exact rowR_ok f1 hh neg_one_qb
   ·simp at h
 ·rename_i h1
  split at hr
  ·obtain ⟨k,_,h⟩:=List.mem_flatMap.1 hr
   obtain ⟨sg,hsg,rfl⟩:=List.mem_map.1 h
   exact rowR_ok f1 hh (sq_two sg hsg)
  ·rename_i h2
   obtain ⟨e1,e2⟩:=he h1 h2
   obtain ⟨k,_,h⟩:=List.mem_flatMap.1 hr
   rcases List.mem_append.1 h with h | h
   ·obtain ⟨sg,hsg,rfl⟩:=List.mem_map.1 h
    exact rowR_ok f2 e1 (sq_two sg hsg)
   ·obtain ⟨sg,hsg,rfl⟩:=List.mem_map.1 h
    exact rowR_ok f3 e2 (sq_two sg hsg)
def tiK (S:Sht)(s:Sgt):Nat:=(locL (ptsK (S.kd % 8) S.a S.b S.h) (shT (S.kd % 8)) (ptAt S s)).headD 0
def tK (S:Sht)(s:Sgt):Tri:=(shT (S.kd % 8)).getD (tiK S s) (0,0,0)
def zK (S:Sht)(H:Hts)(s:Sgt):Rat:=onQ (ptsK (S.kd % 8) S.a S.b S.h) (fsK (ptsK (S.kd % 8) S.a S.b S.h).length H) (tK S s) (ptAt S s)
noncomputable def roK (S:Sht)(H:Hts)(l:List Sgt)(i:Nat):List RowQ:=rowsO (aX S H l) (obsK S (l.getD i noSgt) i) (ptAt S (l.getD i noSgt)) (tK S (l.getD i noSgt)) (zK S H (l.getD i noSgt))
theorem obsK_at (S:Sht)(s:Sgt)(i:Nat)(hs:SgtR s):ObsAt (obsK S s i) (ptAt S s):=by
 have hq:=(ptAt_ok S s hs).1
 refine ⟨?_, ?_,(qp1_ok hq).1,(qp1_ok hq).2, ?_⟩
 ·unfold obsK;split
  ·rfl
  ·split <;> rfl
 ·unfold obsK;split
  ·rfl
  ·split <;> rfl
 ·unfold obsK;split
  ·intro h;exact absurd (show (1:Int)=2 from h) (by decide)
  ·split
   ·intro _;exact ok1 (dep_qb s.depth)
   ·intro h;exact absurd (show (3:Int)=2 from h) (by decide)
theorem obsK_up (S:Sht)(s:Sgt)(i:Nat):0<=idxF (isU (obsK S s i).upper) colK 0:=by
 have hlo:=lo_le s
 have hup:=up_le s
 have e1:=lab_idx (s.u1 % 3) (by omega)
 have e2:=lab_idx (max (loU s) (upU s)) (by omega)
 unfold obsK;split
 ·simp only;rw [e1];omega
 ·split <;> (simp only;rw [e2];omega)
theorem obsK_nr (S:Sht)(s:Sgt)(i:Nat):(obsK S s i).kind≠1->(obsK S s i).kind≠2->(aG (obsK S s i).nx=true/\aG (obsK S s i).ny=true/\aG (obsK S s i).nz=true)/\QB 1 (bx (obsK S s i).nx)/\QB 1 (bx (obsK S s i).ny)/\QB 1 (bx (obsK S s i).nz)/\bx (obsK S s i).nz≠0:=by
 have h0:=tmod5 s.n0
 have h1:=tmod5 s.n1
 have h2:=lastN_bd s.n2
 have l0:=db (s.n0.tmod 5) (by omega)
 have l1:=db (s.n1.tmod 5) (by omega)
 have l2:=db (lastN s.n2) (by omega)
 have hne:=lastN_ne s.n2
 unfold obsK;split
 ·intro h;exact absurd rfl h
 ·split
  ·intro _ h;exact absurd rfl h
  ·intro _ _
   simp only
   rw [cT (ok1 l0),cT (ok1 l1),cT (ok1 l2)]
   exact ⟨⟨ok1 l0,ok1 l1,ok1 l2⟩,l0,l1,l2,by simpa using hne⟩
theorem obsK_dep (S:Sht)(s:Sgt)(i:Nat):(obsK S s i).kind=2->(obsK S s i).depth=qtx (divS ((s.depth % 12:Nat):Int) 2):=by
 unfold obsK;split
 ·intro h;exact absurd (show (1:Int)=2 from h) (by decide)
 ·split
  ·intro _;rfl
  ·intro h;exact absurd (show (3:Int)=2 from h) (by decide)
theorem obsK_hgt (S:Sht)(s:Sgt)(i:Nat){z:Rat}(hz:QB 1 z):QB 3 (hgtQ (obsK S s i) z):=by
 unfold hgtQ;split
 ·rename_i h
  rw [obsK_dep S s i h,cT (ok1 (dep_qb s.depth))]
  have h:=cX hz (dep_qb s.depth)
  exact h.le (by decide)
 ·exact hz.le (by decide)
theorem obsK_east (S:Sht)(s:Sgt)(i:Nat)(h1:(obsK S s i).kind≠1)(h2:(obsK S s i).kind≠2):QB 3 (eastQ (obsK S s i))/\QB 3 (northQ (obsK S s i)):=by
 obtain ⟨_,l0,l1,l2,hne⟩:=obsK_nr S s i h1 h2
 exact ⟨(QB_div (QB_neg l0) l2 hne).le (by decide),(QB_div (QB_neg l1) l2 hne).le (by decide)⟩
theorem locK (S:Sht)(s:Sgt)(hs:SgtR s):(∃ r,locL (ptsK (S.kd % 8) S.a S.b S.h) (shT (S.kd % 8)) (ptAt S s)=tiK S s::r)/\(shT (S.kd % 8))[tiK S s]?=some (tK S s):=by
 have hne:=(ptAt_ok S s hs).2
 unfold tK tiK
 cases h:locL (ptsK (S.kd % 8) S.a S.b S.h) (shT (S.kd % 8)) (ptAt S s) with
 | nil=>exact absurd h hne
 | cons i r =>
  have hm:i∈locL (ptsK (S.kd % 8) S.a S.b S.h) (shT (S.kd % 8)) (ptAt S s):=by rw [h];exact List.mem_cons_self
  unfold locL at hm
  have hlt:=List.mem_range.1 (List.mem_filter.1 hm).1
  refine ⟨⟨r,rfl⟩, ?_⟩
  simp only [List.headD_cons]
  rw [List.getD_eq_getElem?_getD,List.getElem?_eq_getElem hlt]
  rfl
theorem fineK (S:Sht)(H:Hts)(l:List Sgt)(s:Sgt)(i:Nat)(hs:SgtR s) :
  Fine (aX S H l) (fsK (ptsK (S.kd % 8) S.a S.b S.h).length H) (obsK S s i) (ptAt S s) (tiK S s) (tK S s) (zK S H s):=by
 obtain ⟨hG,_⟩:=shape_good (S.kd % 8) (Nat.mod_lt _ (by decide)) S.a S.b S.h
 obtain ⟨⟨r,hr⟩,ht⟩:=locK S s hs
 have hA:=good_pos hG.ok (List.mem_of_getElem? ht)
 have hp:=ptAt_qtr S s hs
 have hw:∀ j,QB 1 (wgt (ptsK (S.kd % 8) S.a S.b S.h) (tK S s) (ptAt S s) j):=wgt_qb (fun j=>cor_qtr j) hA hp
 have hsl:∀ j,QP 1 (slf (ptsK (S.kd % 8) S.a S.b S.h) (tK S s) j):=fun j=>slope_qp (fun j=>cor_qtr j) hA (fun j=>unit_hlf j)
 have hz:QB 1 (zK S H s):=on_qb (fun j=>cor_qtr j) hA (fun j=>fz_hlf j) hp
 have hh:=obsK_hgt S s i hz
 refine ⟨obsK_at S s i hs,⟨r,hr⟩,ht, ?_,hz.le (by decide),hh.le (by decide),fun j=>(hw j).le (by decide),obsK_up S s i,fun j=>(hsl j).le (by decide), ?_, ?_⟩
 ·show valV (ptsK (S.kd % 8) S.a S.b S.h) (shT (S.kd % 8)) _ _=_
  unfold valV
  rw [hr]
  show numV (zK S H s)=_
  unfold numV
  rw [if_pos (ok1 hz)]
 ·intro h1 h2
  obtain ⟨h0,l0,l1,l2,hne⟩:=obsK_nr S s i h1 h2
  exact ⟨h0,l0.le (by decide),l1.le (by decide),l2.le (by decide),hne⟩
 ·exact rowsO_ok hw hsl hh (obsK_east S s i)
theorem bookK_rich (S:Sht)(H:Hts)(l:List Sgt)(hs:∀ s∈l,SgtR s):Rich (aX S H l) (fsK (ptsK (S.kd % 8) S.a S.b S.h).length H) (roK S H l):=by
 refine ⟨(shape_good (S.kd % 8) (Nat.mod_lt _ (by decide)) S.a S.b S.h).1,bookK_r S H l hs,bookK_zero S H l hs,⟨rfl,fsK_len _ _,fun q hq=>(fsK_qb _ H q hq).le (by decide)⟩, ?_, ?_⟩
 ·have:=(bookK_bp S H l).2
  rw [bookK_bs]
  omega
 ·intro i o ho
  obtain ⟨hi,s,hsl,rfl⟩:=bookK_obs ho
  refine ⟨_,_,_,_,fineK S H l s i (hs s (List.mem_of_getElem? hsl)), ?_⟩
  unfold roK
  rw [List.getD_eq_getElem?_getD,hsl]
  rfl




instance:DecidableEq SrcQ:=fun a b=>decidable_of_iff (a.n=b.n/\a.r=b.r) (by cases a;cases b;simp)

theorem SrcsIn.mono {C D:Mem}{v:Value}{l:List SrcQ}(h:SrcsIn C v l)(hl:C.le D):SrcsIn D v l:=by
 obtain ⟨vs,h1,h2⟩:=h
 exact ⟨vs,h1.mono hl,h2.mono hl⟩

theorem chunk_all {k:Nat}{li:List Str}{i:Nat}(h:li.all aG=true):(el k li i).all aG=true:=by
 rw [List.all_eq_true] at h ⊢
 exact fun x hx=>h x (List.mem_of_mem_take (List.mem_of_mem_drop hx))
theorem chunk_len {k:Nat}{li:List Str}{i s:Nat}(h:li.length=s*k)(hi:i<s):(el k li i).length=k:=by
 have h1:(i+1)*k<=s*k:=Nat.mul_le_mul_right _ hi
 have h2:(i+1)*k=i*k+k:=Nat.succ_mul _ _
 unfold el
 rw [List.length_drop,List.length_take]
 omega
theorem chunks_two {k:Nat}{li:List Str}(h:li.length=2*k):(chunks 2 k li).flatten=li:=by
 have e:chunks 2 k li=[el k li 0,el k li 1]:=rfl
 rw [e]
 simp only [List.flatten_cons,List.flatten_nil,List.append_nil]
 unfold el
 rw [Nat.zero_add,Nat.one_mul,Nat.zero_mul,List.drop_zero,show (1+1)*k=li.length by omega,List.take_length,List.take_append_drop]
theorem valE_chunks {k:Nat}{li:List Str}(h:li.length=2*k)(ha:li.all aG=true):valE 2 k (chunks 2 k li)=0:=by
 have hz:∀ i,i<2->fldZ k (el k li i)=0:=fun i hi=>by
  unfold fldZ
  rw [if_pos (chunk_len h hi),chunk_all ha]
  rfl
 unfold valE
 have e:chunks 2 k li=[el k li 0,el k li 1]:=rfl
 rw [e]
 show bh (fun j=>fldZ k ([el k li 0,el k li 1].getD j [])) 2=0
 exact eg (eg rfl (hz 0 (by omega))) (hz 1 (by omega))
theorem same13_refl (C:Mem)(v w:Value)(m:List Str)(hv:Sl C 1 v (m.map cg))(hw:Sl C 1 w (m.map cg)):Gives cx.P 24 [v,w] C (.bool true):=by
 have h:=same13_fn C v w m m hv hw
 rw [decide_eq_true rfl] at h
 exact h
theorem fields_take {C:Mem}{v:Value}{vs:List Value}{FF:List (List Str)}(hl:vs.length=FF.length)(hr:∀ (i:Nat)(w:Value)(l:List Str),vs[i]?=some w->FF[i]?=some l->Sl C 1 w (l.map cg))(h:Sl C 1 v (((vs.map fun w=>[w]).take 1).drop 0)):FieldsIn C v (FF.take 1):=by
 refine ⟨vs.take 1,by rw [List.length_take,List.length_take,hl],fun i w l2 h1 h2=>?_,by rw [List.map_take];exact h⟩
 rw [List.getElem?_take] at h1 h2
 split at h1
 ·rw [if_pos (by assumption)] at h2
  exact hr i w l2 h1 h2
 ·cases h1
theorem lvalues_fn (C:Mem)(hT:Tabs C)(pv lv:Value)(S:Sht)(H:Hts)(l:List Sgt)(li:List Str)(hP:PlanIn C pv S H l)(hPl:PlanR S H l)(hl:Sl C 1 lv (li.map cg)) :
  Gives cx.P 6 [pv,lv] C (.bool true):=by
 obtain ⟨A,c,rfl,hsv⟩:=hP
 have hl0:=hl
 obtain ⟨Al,cl,rfl,hlc,hlc2,_⟩:=id hl
 have hmx:maxLen<=9223372036854775807:=by simp [maxLen]
 simp only [List.length_map] at hl hl0 hlc ⊢
 have hRi:=bookK_rich S H l hPl.s
 have hG:=hRi.good
 have hbp:=bookK_bp S H l
 have hbk:bp (aX S H l)=(aX S H l).pts.length:=rfl
 have hcl3:(aX S H l).col.length=3:=rfl
 have hh60:bs (aX S H l)*bp (aX S H l)<=60:=by rw [bookK_bs];omega
 obtain ⟨ez,hez⟩:∃ ez:Int,fldsE 2 (aX S H l).pts.length li=ez:=⟨_,rfl⟩
 obtain ⟨FF,hFF⟩:∃ FF,(if ez=0 then chunks 2 (aX S H l).pts.length li else [])=FF:=⟨_,rfl⟩
 refine Fn.it (by kernel_rfl) Tryz.func6 142 fun w0=>?_
 refine G.rg fun R hR=>?_
 refine D.aD (fun b2=>?_)
 refine D.aa ?_
 refine D.e2 1 2 hR ?_;clear hR R
 refine G.freeze 0 rfl (fun C1 hle1 hb1=>?_)
 refine G.rg fun R hR=>?_
 refine D.ag (known_fn _ (hT.mono mup)) ?_
 iterate 3 refine D.aa ?_
 refine D.aW rfl rfl rfl rfl rfl rfl (fun _=>PtrTo.blockT (Mem.get hb1 mup) _ 1) rfl rfl rfl ?_
 iterate 2 refine D.aa ?_
 refine D.aE rfl rfl rfl rfl rfl rfl rfl rfl ?_
 iterate 4 refine D.aa ?_
 refine D.aE rfl rfl rfl rfl rfl rfl rfl rfl ?_
 refine D.e3 1 2 29 hR ?_;clear hR R
 refine G.cond rfl (fun h29=>?_) (fun h29=>?_)
 ·refine G.rg fun R hR=>?_
  refine D.ag (known_fn _ (hT.mono mup)) ?_
  refine D.aa ?_
  refine D.e1 4 hR ?_;clear hR R
  refine G.rf ?_
  exact ⟨rfl,rfl⟩
 ·have hl14:li.length<=14:=by
   simp only [Bool.or_eq_false_iff,decide_eq_false_iff_not] at h29
   omega
  refine G.rg fun R hR=>?_
  refine D.ac (bkT hb1 12) ?_
  refine D.aV (make24_fn _ (hT.mono mup) S H _ l hPl.kd hPl.h (hsv.mono mup) hPl.s hG) (fun v32 C32 hle32 hq32=>?_)
  obtain ⟨v1,v2,tv,cv,ov,rfl,g1,g2,g3,g4,g5⟩:=id hq32.ex
  obtain ⟨B1,d1,rfl,_⟩:=id g1
  obtain ⟨B2,d2,rfl,_⟩:=id g2
  obtain ⟨B3,d3,rfl,_⟩:=id g3
  obtain ⟨B4,d4,rfl,_⟩:=id g4
  obtain ⟨B5,d5,rfl,_⟩:=id g5
  simp only [List.length_map] at hq32 ⊢
  refine D.aq (fun b5=>?_)
  refine D.aj (j:=0) ?_
  refine D.e2 1 5 hR ?_;clear hR R
  refine G.freeze 0 rfl (fun C5 hle5 hb5=>?_)
  refine G.rg fun R hR=>?_
  refine D.aa ?_
  refine D.e3 1 5 6 hR ?_;clear hR R
  refine G.loop (fun fr C' L' μ=>∃ (i:Nat),(i<=li.length/\∀ x∈li.take i,x.length<=40)/\fr=[(1,[],.slice Al li.length cl),(5,[],.pointer (some ⟨b5,0,none⟩)),(6,[],.int .i64 i)]/\L'=[]/\μ=li.length-i) (fr':=[(1,[],_),(5,[],_),(6,[],_)]) ⟨rfl,rfl,rfl,trivial⟩ ⟨0,⟨Nat.zero_le _,by simp⟩,rfl,rfl,rfl⟩ (fun fr C0' L0' m hle0 hI=>?_)
  obtain ⟨i,⟨hi,h40⟩,rfl,rfl,rfl⟩:=hI
  refine G.rg fun R hR=>?_
  iterate 4 refine D.aa ?_
  refine D.e4 1 5 6 36 hR ?_;clear hR R
  refine G.cond rfl (fun h36=>?_) (fun h36=>?_)
  ·have hil:i<li.length:=by
    have:=of_decide_eq_true h36
    omega
   obtain ⟨s,hsi⟩:∃ s,li[i]?=some s:=⟨li[i],List.getElem?_eq_getElem hil⟩
   refine G.rg fun R hR=>?_
   iterate 2 refine D.aa ?_
   refine D.am (hl.mono mup) rfl rfl rfl rfl rfl rfl rfl rfl rfl rfl (by omega) (bl hsi) (fun _=>rfl) (fun p41 hp41=>?_)
   refine D.ac hp41 ?_
   iterate 2 refine D.aa ?_
   refine D.e4 1 5 6 44 hR ?_;clear hR R
   refine G.cond rfl (fun h44=>?_) (fun h44=>?_)
   ·refine G.rg fun R hR=>?_
    refine D.aa ?_
    refine D.e1 4 hR ?_;clear hR R
    refine G.rf ?_
    exact ⟨rfl,rfl⟩
   ·have hs40:s.length<=40:=by
     have:¬ ((s.length:Int) > 40):=of_decide_eq_false h44
     omega
    refine G.rg fun R hR=>?_
    refine D.aa ?_
    refine D.al _ rfl ?_
    refine D.aa ?_
    refine D.e3 1 5 6 hR ?_;clear hR R
    refine G.aw (m':=li.length-(i+1)) (by omega) hle0 (fr':=[(1,[],_),(5,[],_),(6,[],_)]) ⟨rfl,rfl,rfl,trivial⟩ ⟨i+1,⟨by omega,fun x hx=>by
     rw [List.take_add_one,hsi] at hx
     rcases List.mem_append.1 hx with h | h
     ·exact h40 x h
     ·simp only [Option.toList_some,List.mem_singleton] at h
      subst h
      exact hs40⟩,rfl,rfl,rfl⟩
  ·have hil:i=li.length:=by
    have:=of_decide_eq_false h36
    omega
   rw [hil,List.take_length] at h40
   have hlen:∀ x∈li,x.length<=999998:=fun x hx=>Nat.le_trans (h40 x hx) (by decide)
   refine G.rg fun R hR=>?_
   refine D.ac (bkT hb5 5) ?_
   refine D.aa ?_
   refine D.aL (fields_fn _ (hT.mono mup) _ _ (aX S H l) li (hq32.mono mup) (bookK_z _ (hT.mono mup) _ S H l hPl.s (hq32.mono mup)) hh60 (hl.mono mup) hlen (by omega)) rfl rfl rfl rfl rfl rfl rfl (fun _=>rfl) (fun v48 C48 hle48 hq48=>?_)
   obtain ⟨fv,rfl,hfv⟩:=hq48
   rw [show fldsE (bs (aX S H l)) (bp (aX S H l)) li=ez from hez] at hfv ⊢
   rw [show (if ez=0 then chunks (bs (aX S H l)) (bp (aX S H l)) li else [])=FF from hFF] at hfv
   obtain ⟨fvs,hfl,hfr,hfs⟩:=id hfv
   obtain ⟨Af,cf,rfl,hcf1,_⟩:=id hfs
   rw [List.length_map,hfl] at hfs hfv hcf1 ⊢
   iterate 5 refine D.aa ?_
   refine D.e4 1 5 7 8 hR ?_;clear hR R
   refine G.rg fun R hR=>?_
   refine D.aa ?_
   refine D.e5 1 5 7 8 9 hR ?_;clear hR R
   refine G.rg fun R hR=>?_
   refine D.aa ?_
   refine D.e6 1 5 7 8 9 10 hR ?_;clear hR R
   refine G.loop (fun fr C' L' μ=>∃ (j:Nat)(z:Int),(j<=li.length/\z=chkZ ((li.take j).all aG))/\fr=[(1,[],.slice Al li.length cl),(5,[],.pointer (some ⟨b5,0,none⟩)),(7,[],.slice Af FF.length cf),(8,[],.int .i64 ez),(9,[],.int .i64 z),(10,[],.int .i64 j)]/\L'=[]/\μ=li.length-j) (fr':=[(1,[],_),(5,[],_),(7,[],_),(8,[],_),(9,[],_),(10,[],_)]) ⟨rfl,rfl,rfl,rfl,rfl,rfl,trivial⟩ ⟨0,0,⟨Nat.zero_le _,by simp [chkZ]⟩,rfl,rfl,rfl⟩ (fun fr C1' L1' m hle1 hI=>?_)
   obtain ⟨j,z,⟨hj,hz⟩,rfl,rfl,rfl⟩:=hI
   refine G.rg fun R hR=>?_
   iterate 4 refine D.aa ?_
   refine D.e7 1 5 7 8 9 10 54 hR ?_;clear hR R
   refine G.cond rfl (fun h54=>?_) (fun h54=>?_)
   ·have hjl:j<li.length:=by
     have:=of_decide_eq_true h54
     omega
    obtain ⟨s,hsj⟩:∃ s,li[j]?=some s:=⟨li[j],List.getElem?_eq_getElem hjl⟩
    have hst:(li.take (j+1)).all aG=((li.take j).all aG && aG s):=by rw [List.take_add_one,hsj,List.all_append];simp
    refine G.rg fun R hR=>?_
    iterate 2 refine D.aa ?_
    refine D.am (hl.mono mup) rfl rfl rfl rfl rfl rfl rfl rfl rfl rfl (by omega) (bl hsj) (fun _=>rfl) (fun p59 hp59=>?_)
    refine D.ac hp59 ?_
    refine D.ag (right2_fn _ (hT.mono mup) s (hlen s (List.mem_of_getElem? hsj))) ?_
    refine D.aa ?_
    refine D.e7 1 5 7 8 9 10 62 hR ?_;clear hR R
    refine G.cond rfl (fun h62=>?_) (fun h62=>?_)
    ·have hno:aG s=false:=by simpa using h62
     refine G.rg fun R hR=>?_
     refine D.aa ?_
     refine D.e6 1 5 7 8 9 10 hR ?_;clear hR R
     refine G.rg fun R hR=>?_
     refine D.aa ?_
     refine D.al _ rfl ?_
     refine D.aa ?_
     refine D.e6 1 5 7 8 9 10 hR ?_;clear hR R
     refine G.aw (m':=li.length-(j+1)) (by omega) hle1 (fr':=[(1,[],_),(5,[],_),(7,[],_),(8,[],_),(9,[],_),(10,[],_)]) ⟨rfl,rfl,rfl,rfl,rfl,rfl,trivial⟩ ⟨j+1,2,⟨by omega,by rw [hst,hno,Bool.and_false];rfl⟩,rfl,rfl,rfl⟩
    ·have hyes:aG s=true:=by simpa using h62
     refine G.rg fun R hR=>?_
     refine D.aa ?_
     refine D.al _ rfl ?_
     refine D.aa ?_
     refine D.e6 1 5 7 8 9 10 hR ?_;clear hR R
     refine G.aw (m':=li.length-(j+1)) (by omega) hle1 (fr':=[(1,[],_),(5,[],_),(7,[],_),(8,[],_),(9,[],_),(10,[],_)]) ⟨rfl,rfl,rfl,rfl,rfl,rfl,trivial⟩ ⟨j+1,z,⟨by omega,by rw [hst,hyes,Bool.and_true];exact hz⟩,rfl,rfl,rfl⟩
   ·have hjl:j=li.length:=by
     have:=of_decide_eq_false h54
     omega
    rw [hjl,List.take_length] at hz
    refine G.rg fun R hR=>?_
    iterate 2 refine D.aa ?_
    refine D.ac (bkT hb5 5) ?_
    refine D.ag (plcount_fn _ _ S H l (hq32.mono mup)) ?_
    refine D.aa ?_
    refine D.e6 1 5 7 8 9 67 hR ?_;clear hR R
    refine G.cond rfl (fun h67=>?_) (fun h67=>?_)
    ·have hne:¬ li.length=2*(aX S H l).pts.length:=by
      intro e
      rw [e] at h67
      simp at h67
     have hez5:ez=5:=by rw [<- hez];unfold fldsE;rw [if_neg hne]
     subst hez5
     rw [if_neg (by decide)] at hFF
     subst hFF
     refine G.rg fun R hR=>?_
     refine D.aa ?_
     refine D.e5 1 5 7 8 9 hR ?_;clear hR R
     refine G.rg fun R hR=>?_
     iterate 2 refine D.aa ?_
     refine D.e6 1 5 7 8 9 69 hR ?_;clear hR R
     refine G.cond rfl (fun h69=>?_) (fun h69=>?_)
     ·refine G.rg fun R hR=>?_
      iterate 7 refine D.aa ?_
      refine D.ap ?_
      refine D.aa ?_
      refine D.e1 4 hR ?_;clear hR R
      refine G.rf ?_
      exact ⟨rfl,rfl⟩
     ·exact absurd h69 (by decide)
    ·have heq:li.length=2*(aX S H l).pts.length:=by
      have h:((li.length:Nat):Int)=((2*(aX S H l).pts.length:Nat):Int):=by simpa using h67
      omega
     have hzz:z=ez:=by rw [hz,<- hez];unfold fldsE;rw [if_pos heq]
     subst hzz
     refine G.rg fun R hR=>?_
     iterate 2 refine D.aa ?_
     refine D.e6 1 5 7 8 9 69 hR ?_;clear hR R
     refine G.cond rfl (fun h69b=>?_) (fun h69b=>?_)
     ·have hz0:¬ z=0:=by simpa using h69b
      rw [if_neg hz0] at hFF
      subst hFF
      refine G.rg fun R hR=>?_
      iterate 7 refine D.aa ?_
      refine D.ap ?_
      refine D.aa ?_
      refine D.e1 4 hR ?_;clear hR R
      refine G.rf ?_
      exact ⟨by simp,rfl⟩
     ·have hz0:z=0:=by simpa using h69b
      rw [if_pos hz0] at hFF
      have hall:li.all aG=true:=by
       rcases cL (li.all aG) with ⟨h1,h2⟩ | ⟨h1,h2⟩
       ·exact h2
       ·rw [<- hz,hz0] at h1;exact absurd h1 (by decide)
      subst hz0
      have hFl:FF.length=2:=by rw [<- hFF];rfl
      have hcl:(li.map cg).length=li.length:=List.length_map _
      rw [hFl] at hfs hcf1 ⊢
      have hfv2:FieldsIn _ (.slice Af 2 cf) FF:=⟨fvs,hfl,hfr,hfs⟩
      refine G.rg fun R hR=>?_
      iterate 6 refine D.aa ?_
      refine D.aW rfl rfl rfl rfl rfl rfl (fun _=>PtrTo.blockT (Mem.get hb5 mup) _ 1) rfl rfl rfl ?_
      refine D.aa ?_
      refine D.al _ rfl ?_
      refine D.aa ?_
      refine D.aE rfl rfl rfl rfl rfl rfl rfl rfl ?_
      refine D.e4 1 5 7 88 hR ?_;clear hR R
      refine G.cond rfl (fun h88=>?_) (fun h88=>?_)
      ·exact absurd (show false=true from h88) (by decide)
      ·refine G.rg fun R hR=>?_
       iterate 2 refine D.aa ?_
       refine D.ac (bkT hb5 1) ?_
       iterate 2 refine D.aa ?_
       refine D.e4 1 5 7 11 hR ?_;clear hR R
       refine G.rg fun R hR=>?_
       refine D.aa ?_
       refine D.e5 1 5 7 11 12 hR ?_;clear hR R
       refine G.loop (fun fr C' L' μ=>∃ (i:Nat),(i<=2)/\fr=[(1,[],.slice Al li.length cl),(5,[],.pointer (some ⟨b5,0,none⟩)),(7,[],.slice Af 2 cf),(11,[],.int .i64 (aX S H l).pts.length),(12,[],.int .i64 i)]/\L'=[]/\μ=2-i) (fr':=[(1,[],_),(5,[],_),(7,[],_),(11,[],_),(12,[],_)]) ⟨rfl,rfl,rfl,rfl,rfl,trivial⟩ ⟨0,Nat.zero_le _,rfl,rfl,rfl⟩ (fun fr C2' L2' m hle2 hI=>?_)
       obtain ⟨i,hi,rfl,rfl,rfl⟩:=hI
       refine G.rg fun R hR=>?_
       iterate 4 refine D.aa ?_
       refine D.e6 1 5 7 11 12 96 hR ?_;clear hR R
       refine G.cond rfl (fun h96=>?_) (fun h96=>?_)
       ·have hi2:i<2:=by
         have:=of_decide_eq_true h96
         omega
        obtain ⟨w,hw⟩:∃ w,fvs[i]?=some w:=⟨fvs[i]'(by omega),List.getElem?_eq_getElem _⟩
        have hck:FF[i]?=some (el (aX S H l).pts.length li i):=by
         rw [<- hFF]
         unfold chunks
         rw [List.getElem?_map,List.getElem?_range hi2]
         rfl
        have hsw:=hfr i w _ hw hck
        have hjp:(i+1)*(aX S H l).pts.length<=2*(aX S H l).pts.length:=Nat.mul_le_mul_right _ hi2
        have hjq:(i+1)*(aX S H l).pts.length=i*(aX S H l).pts.length+(aX S H l).pts.length:=Nat.succ_mul _ _
        have hsub:=Sl.sub hl (l:=i*(aX S H l).pts.length) (h:=i*(aX S H l).pts.length+(aX S H l).pts.length) (m:=cl) (by omega) (by rw [hcl];omega) (by omega) (Nat.le_refl _)
        rw [<- List.map_take,<- List.map_drop,<- hjq] at hsub
        rw [hjq] at hsub
        refine G.aI [0,1,2,3,4,5,6,7,8,9,10,11,12,13,14,15] [(14,1)] rfl (by kernel_rfl) (fun R hB hR=>?_)
        iterate 2 refine D.aa ?_
        refine D.am (hfs.mono mup) rfl rfl rfl rfl rfl rfl rfl rfl rfl rfl (by omega) (bl hw) (fun _=>rfl) (fun p101 hp101=>?_)
        refine D.ac hp101 ?_
        iterate 3 refine D.aa ?_
        refine D.al (((i*(aX S H l).pts.length:Nat):Int)) (Int.natCast_mul _ _) ?_
        iterate 2 refine D.aa ?_
        refine D.al (((i*(aX S H l).pts.length:Nat):Int)) (Int.natCast_mul _ _) ?_
        refine D.aa ?_
        refine D.cC (((i*(aX S H l).pts.length+(aX S H l).pts.length:Nat):Int)) rfl rfl rfl rfl (by omega) (by omega) (by omega) rfl rfl ?_
        refine D.cR (i*(aX S H l).pts.length) (i*(aX S H l).pts.length+(aX S H l).pts.length) cl rfl rfl rfl rfl rfl rfl rfl rfl rfl rfl rfl rfl (fun _=>⟨.inr ⟨_,rfl⟩,.inr ⟨_,rfl⟩,.inl ⟨rfl,rfl⟩,by omega,by omega,by omega⟩) rfl rfl ?_
        refine D.aC (fun _=>(same13_refl _ _ _ (el (aX S H l).pts.length li i) (hsw.mono mup) (by unfold el;rw [hjq];exact hsub.mono mup))) rfl rfl rfl rfl rfl rfl rfl rfl rfl ?_
        refine D.aa ?_
        refine D.e6 1 5 7 11 12 114 hR ?_;clear hR hB R
        refine G.cond rfl (fun h114=>?_) (fun h114=>?_)
        ·exact absurd h114 (by decide)
        ·refine G.rg fun R hR=>?_
         refine D.aa ?_
         refine D.al _ rfl ?_
         refine D.aa ?_
         refine D.e5 1 5 7 11 12 hR ?_;clear hR R
         refine G.aw (m':=2-(i+1)) (by omega) hle2 (fr':=[(1,[],_),(5,[],_),(7,[],_),(11,[],_),(12,[],_)]) ⟨rfl,rfl,rfl,rfl,rfl,trivial⟩ ⟨i+1,(by omega),rfl,rfl,rfl⟩
       ·have hFz:valE (bs (aX S H l)) (bp (aX S H l)) FF=0:=by rw [<- hFF];exact valE_chunks heq hall
        have hFf:FF.flatten=li:=by rw [<- hFF];exact chunks_two heq
        have hFs:∀ m∈FF,∀ x∈m,x.length<=999998:=by
         intro m hm x hx
         refine hlen x ?_
         rw [<- hFf]
         exact List.mem_flatten.2 ⟨m,hm,hx⟩
        have hF5:valE (bs (aX S H l)) (bp (aX S H l)) (FF.take 1)=5:=by rw [<- hFF];rfl
        refine G.rg fun R hR=>?_
        refine D.ac (bkT hb5 5) ?_
        refine D.aa ?_
        refine D.aL (valuesX_fn _ (hT.mono mup) _ _ (aX S H l) FF (hq32.mono mup) hG (bookK_z _ (hT.mono mup) _ S H l hPl.s (hq32.mono mup)) hh60 (hfv2.mono mup) hFs (by omega)) rfl rfl rfl rfl rfl rfl rfl (fun _=>rfl) (fun v118 C118 hle118 hq118=>?_)
        obtain ⟨bkv,rfl,hbkv⟩:=hq118
        rw [if_pos hFz,hFf] at hbkv
        rw [hFz]
        iterate 5 refine D.aa ?_
        refine D.e5 1 5 7 13 14 hR ?_;clear hR R
        have hsub:=Sl.sub hfs (l:=0) (h:=1) (m:=cf) (by omega) (by rw [List.length_map,hfl];omega) (by have:=hfs.cap;omega) (Nat.le_refl _)
        have hfv3:=fields_take hfl hfr hsub
        refine G.aI [0,1,2,3,4,5,6,7,8,9,10,11] [] rfl (by kernel_rfl) (fun R hB hR=>?_)
        refine D.ac (bkT hb5 5) ?_
        iterate 3 refine D.aa ?_
        refine D.cC (((1:Nat):Int)) rfl rfl rfl rfl (by omega) (by omega) (by omega) rfl rfl ?_
        refine D.cR 0 1 cf rfl rfl rfl rfl rfl rfl rfl rfl rfl rfl rfl rfl (fun _=>⟨.inl ⟨rfl,rfl⟩,.inr ⟨_,rfl⟩,.inl ⟨rfl,rfl⟩,by omega,by omega,by omega⟩) rfl rfl ?_
        refine D.aL (valuesX_fn _ (hT.mono mup) _ _ (aX S H l) (FF.take 1) (hq32.mono mup) hG (bookK_z _ (hT.mono mup) _ S H l hPl.s (hq32.mono mup)) hh60 (hfv3.mono mup) (fun m hm=>hFs m (List.mem_of_mem_take hm)) (by rw [List.length_take];omega)) rfl rfl rfl rfl rfl rfl rfl (fun _=>rfl) (fun v128 C128 hle128 hq128=>?_)
        obtain ⟨bkw,rfl,_⟩:=hq128
        rw [hF5]
        iterate 5 refine D.aa ?_
        refine D.e4 1 13 14 16 hR ?_;clear hR hB R
        refine G.rg fun R hR=>?_
        iterate 5 refine D.aa ?_
        refine D.a7 (fun _=>(same13_refl _ _ _ li (hbkv.mono mup) (hl.mono mup))) ?_
        refine D.ap ?_
        iterate 3 refine D.aa ?_
        refine D.ap ?_
        refine D.aa ?_
        refine D.e1 4 hR ?_;clear hR R
        refine G.rf ?_
        exact ⟨rfl,rfl⟩
open Go Go.Jog Go.ChangeShapes Go.WideShapes Go.ChangeAt Go.RowKit
set_option maxRecDepth 100000
set_option maxHeartbeats 40000000

namespace lawConstraintValues
theorem laid_met (os:Os)(args:Array Value):laidMetH Tryz.prog Rows.constraintValuesRow.laid ((laidWorld os).forCall (fun _ _=>0) ⟨#[],args,[]⟩).memory :=
 laidMet_of_run' 8 (by kernel_rfl) (by kernel_rfl)
theorem contract (H:Type)(enc:TypeId × Value->H)(W:World)(base:Nat)(args:Array Value)(ds gs:List (DataW H))(before:List MemPlace)
  (hval:∀ (j:Nat) t v,Tryz.f6.params[j]?=some t->args[j]?=some v->Value.okWide Tryz.prog W .any base t v)
  (hW:DataW.Whole enc Tryz.prog Tryz.f6.params.toList Rows.constraintValuesSpec.vars false W args.toList ds gs before) (hL:laidMet Tryz.prog Rows.constraintValuesRow.laid W) :
  Calls Tryz.prog 6 args W fun e W'=>∃ v,e=.returned v/\Rows.constraintValuesSpec.post enc Tryz.prog Tryz.f6 false true false false W args v W':=by
 have hW':=hW
 obtain ⟨p,q,hA0,hV,rfl,hfz,hnd⟩:=hW
 have hA:DataW.TrodAll enc Tryz.prog W 0 (fun _=>true) true Tryz.f6.params.toList args.toList ds p:=hA0
 rw [Tryz.params6] at hA hval
 obtain ⟨v0,vs0,d0,ds0,p0,q0,hargs0,rfl,rfl,h0,r0⟩:=trodAll_cons hA
 obtain ⟨v1,vs1,d1,ds1,p1,q1,hargs1,rfl,rfl,h1,r1⟩:=trodAll_cons r0
 obtain ⟨rfl,rfl,rfl⟩:=trodAll_nil r1
 obtain rfl:args=#[v0,v1]:=by cases args;simp_all
 obtain ⟨rfl,rfl⟩:=trodVars_none hV
 obtain ⟨S0,G0,l0,hpl0,hpr0⟩:∃ S G l,PlanIn (memOf W) v0 S G l/\PlanR S G l:=by
  obtain ⟨cs,rfl,_⟩:=okWide_struct Tryz.underlying31 (hval 0 31 v0 rfl rfl)
  obtain ⟨n,hn⟩:=(id h0)
  exact plan_of hn
 obtain ⟨a1,len1,cap1,rfl⟩:=okWide_slice Tryz.underlying38 (hval 1 38 v1 rfl rfl)
 obtain ⟨l1,hl1⟩:∃ l:List Str,Sl (memOf W) 1 (.slice a1 len1 cap1) (l.map cg):=by
  obtain ⟨n,hn⟩:=(id h1)
  exact ratL_of hn
 simp only [List.append_nil] at hW'
 have hlt0:∀ x∈p0,x.block<W.heap.size:=fun x hx=>hW'.lt x (by simp [hx])
 have hlt1:∀ x∈p1,x.block<W.heap.size:=fun x hx=>hW'.lt x (by simp [hx])
 have main:=gives_below (lvalues_fn (memOf W) (tabs_of hL) _ _ S0 G0 l0 l1 hpl0 hpr0 hl1)
 refine Calls.mono main fun e W' ⟨he,hb⟩=>?_
 subst he
 refine ⟨_,rfl,post_of_below (pa:=p0++(p1++([]))) (pv:=[]) hW' (fun _ _ _=>trodAll_cons_mk (shut_bool Tryz.underlying4 _) trodAll_mk0) (fun sp hsp=>?_) (fun _ _=>rfl) (by simp) hb (ok_one (by kernel_rfl) rfl (okWide_bool_mk Tryz.underlying4 _))⟩
 exact trodAll_cons_mk (WideElems.Trod_stays laidOut' (by kernel_rfl) (of_decide_eq_true (by kernel_rfl)) h0 (fun x hx=>hb.same (hlt0 x hx)) (fun x hx=>hsp x (by simp [hx]))) (trodAll_cons_mk (WideElems.Trod_stays laidOut' (by kernel_rfl) (of_decide_eq_true (by kernel_rfl)) h1 (fun x hx=>hb.same (hlt1 x hx)) (fun x hx=>hsp x (by simp [hx]))) (trodAll_mk0))

theorem reads (os:Os){H:Type}(enc:TypeId × Value->H):∃ places,DataW.whole enc Tryz.prog ((laidWorld os).forCall (fun _ _=>0) ⟨#[],#[.agg ⟨[.int .u8 0,.int .i8 0,.int .i8 0,.bool false,.int .i8 0,.int .i8 0,.int .i8 0,.int .i8 0,.int .i8 0,.int .i8 0,.bool false,.slice none 0 0]⟩,.slice none 0 0],[]⟩).memory Tryz.f6.params.toList Rows.constraintValuesSpec.vars false (#[.agg ⟨[.int .u8 0,.int .i8 0,.int .i8 0,.bool false,.int .i8 0,.int .i8 0,.int .i8 0,.int .i8 0,.int .i8 0,.int .i8 0,.bool false,.slice none 0 0]⟩,.slice none 0 0]:Array Value).toList 8=some ([.agg [.agg [.lit (.int .u8 0),.agg [.lit (.int .i8 0),.lit (.int .i8 0)],.lit (.bool false)],.agg [.agg [.lit (.int .i8 0),.lit (.int .i8 0),.lit (.int .i8 0),.lit (.int .i8 0),.lit (.int .i8 0),.lit (.int .i8 0)],.lit (.bool false)],.nil],.nil],[],places) :=
 ⟨[],by kernel_rfl⟩

theorem lifted (os:Os)(started:os.Started)(H:Type)(enc:TypeId × Value->H)(F:Stop.Interp) :
  ReturnsInHanded {} Tryz.checked os 6 .any ((OpenSpec.ofChange Rows.constraintValuesSpec).preRow enc Tryz.prog Tryz.f6 Rows.constraintValuesRow.domain false Rows.constraintValuesRow.laid) (((OpenSpec.ofChange Rows.constraintValuesSpec).at F).post enc Tryz.prog Tryz.f6 false true false false):=by
 obtain ⟨places,hx⟩:=reads os enc
 refine returnsInHanded_of_row (C:=Tryz.checked) (s:=OpenSpec.ofChange Rows.constraintValuesSpec) own started (by kernel_rfl) Tryz.func6
  (witness_row_at (enc:=enc) (C:=Tryz.checked) false (laidWorld os) #[.agg ⟨[.int .u8 0,.int .i8 0,.int .i8 0,.bool false,.int .i8 0,.int .i8 0,.int .i8 0,.int .i8 0,.int .i8 0,.int .i8 0,.bool false,.slice none 0 0]⟩,.slice none 0 0] rfl (by kernel_rfl) (by kernel_rfl) (by kernel_rfl)
   (OpenSpec.preRow_of_cond 8 hx (by kernel_rfl) (fun k hk=>by cases hk) (by kernel_rfl) (laid_met os _))) ?_
 intro W base args ds gs before hval hW _ _ _ hL _ _
 exact contract H enc W base args ds gs before hval hW hL

theorem bothB {a b:Bool}(h:a=true)(k:b=true):(a && b)=true:=by rw [h,k];rfl
theorem said:Rows.ConstraintValuesSaid :=
 OpenClaim.holds_of_cond 6 Tryz.f6 rfl rfl rfl rfl rfl rfl rfl ⟨rfl,rfl,rfl,rfl,rfl⟩ rfl rfl rfl rfl rfl (by as_aux_lemma=>kernel_rfl) Tryz.func6 (by unfold joinedFacts;repeat' (with_reducible refine bothB ?_ ?_);all_goals (as_aux_lemma=>kernel_rfl))
  (of_decide_eq_true (by as_aux_lemma=>kernel_rfl)) (by unfold Func.isWrapper;first | (rw [if_pos (by decide +kernel)];kernel_rfl) | (rw [if_neg (by decide +kernel)];exact ⟨rfl,rfl⟩))
  (fun os started H enc _ F=>by rw [OpenClaim.pre_eq_preRow];exact lifted os started H enc F)

theorem plain (f : FuncId) (fn : Func) (hf : Tryz.pinned.checked.prog.funcNamed "klippe/klippelaw25.ConstraintValues" = some f) (hfn : Tryz.pinned.checked.prog.funcs[f]? = some fn) :
  true=Tryz.pinned.checked.prog.looks []/\∀ (j:Nat) t,fn.params[j]?=some t->Tryz.pinned.checked.prog.wantsStandIn t=false:=by
 obtain rfl : f = 6 := Option.some.inj ((show Tryz.prog.funcNamed "klippe/klippelaw25.ConstraintValues" = some 6 by kernel_rfl).symm.trans hf) |>.symm
 obtain rfl:fn=Tryz.f6:=(Option.some.inj (Tryz.func6.symm.trans hfn)).symm
 refine ⟨by kernel_rfl,fun j t ht=>?_⟩
 rw [Tryz.params6] at ht
 have hm:=Array.mem_of_getElem? ht
 simp only [List.mem_toArray,List.mem_cons,List.not_mem_nil,or_false] at hm
 rcases hm with rfl | rfl
 ·exact (show Tryz.prog.wantsStandIn 31=false by kernel_rfl)
 ·exact (show Tryz.prog.wantsStandIn 38=false by kernel_rfl)
end lawConstraintValues

theorem constraintValues_card:Rows.ConstraintValuesCardSaid :=
 Claim7.holds_tied_plain_at .later [] _ _ _ _ lawConstraintValues.said (fun _ h=>by cases h) (by kernel_rfl) (fun _ h=>by cases h) constraintValues_row_tie rfl ⟨rfl,rfl⟩ (by kernel_rfl) rfl lawConstraintValues.plain (by kernel_rfl)
#print axioms constraintValues_card
end Go.Proofs.YtmgkekjbbodicaaGreatDoor
