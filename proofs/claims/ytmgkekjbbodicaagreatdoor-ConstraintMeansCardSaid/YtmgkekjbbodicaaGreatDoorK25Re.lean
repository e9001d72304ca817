/- FOR ANY PLAN AND ANY TWO DESCRIBED SURFACES ConstraintMeans ANSWERS true, and leaves them as they were. -/
import Derived.Test.YtmgkekjbbodicaaGreatDoorG11
import Derived.Test.YtmgkekjbbodicaaGreatDoorShelf
set_option maxHeartbeats 4000000
namespace Go.Jog
open Go
end Go.Jog
namespace Go.Proofs.YtmgkekjbbodicaaGreatDoor
open Go Go.Jog
set_option maxRecDepth 100000



/-! Small parts: numbers of quarters and of halves. -/
theorem rat_quot {q:Rat}{z w:Int}(hw:w≠0)(h:q*w=z):q=divS z w:=by
 have hw':(w:Rat)≠0:=by simpa using hw
 unfold divS
 rw [Rat.mkRat_eq_div]
 have hq:q=z / w:=by grind
 rw [hq]
 split
 ·rename_i hn
  have:((w.natAbs:Nat):Int)=-w:=by omega
  rw [show ((w.natAbs:Nat):Rat)=(((w.natAbs:Nat):Int):Rat) from rfl,this]
  simp only [Rat.intCast_neg]
  grind
 ·have:((w.natAbs:Nat):Int)=w:=by omega
  rw [show ((w.natAbs:Nat):Rat)=(((w.natAbs:Nat):Int):Rat) from rfl,this]
theorem divS_mul {z w:Int}(hw:w≠0):divS z w*w=z:=by
 have hw':(w:Rat)≠0:=by simpa using hw
 have h:=rat_quot (q:=(z:Rat) / w) (z:=z) hw (by grind)
 rw [<- h]
 grind
theorem qb_quot {q:Rat}{z w:Int}(hw:w≠0)(h:q*w=z)(hz:z.natAbs<1000000000)(hwl:w.natAbs<1000000000):QB 1 q:=by
 rw [rat_quot hw h];exact divS_qb hw hz hwl
def iA (x0 y0 x1 y1 x2 y2:Int):Int:=(x1-x0)*(y2-y0)-(y1-y0)*(x2-x0)
def At4 (p:Pt)(x y:Int):Prop:=p.1*4=x/\p.2*4=y
def Qtr (p:Pt):Prop:=∃ x y:Int,At4 p x y/\(-600<=x/\x<=600)/\(-600<=y/\y<=600)
def Hlf (z:Rat):Prop:=∃ k:Int,z*2=k/\(-38<=k/\k<=38)
theorem area_int {a b c:Pt}{x0 y0 x1 y1 x2 y2:Int}(ha:At4 a x0 y0)(hb:At4 b x1 y1)(hc:At4 c x2 y2):bY a b c*16=(iA x0 y0 x1 y1 x2 y2:Int):=by
 unfold iA bY
 simp only [Rat.intCast_sub,Rat.intCast_mul]
 rw [<- ha.1,<- ha.2,<- hb.1,<- hb.2,<- hc.1,<- hc.2]
 grind
theorem mul_bd {a b:Int}{M K:Nat}(ha:a.natAbs<=M)(hb:b.natAbs<=K):(a*b).natAbs<=M*K:=by
 rw [Int.natAbs_mul];exact Nat.mul_le_mul ha hb
theorem iA_bd {x0 y0 x1 y1 x2 y2:Int}(h:(-600<=x0/\x0<=600)/\(-600<=y0/\y0<=600)/\(-600<=x1/\x1<=600)/\(-600<=y1/\y1<=600)/\(-600<=x2/\x2<=600)/\(-600<=y2/\y2<=600)):(iA x0 y0 x1 y1 x2 y2).natAbs<=2880000:=by
 have h1:=mul_bd (a:=x1-x0) (b:=y2-y0) (M:=1200) (K:=1200) (by omega) (by omega)
 have h2:=mul_bd (a:=y1-y0) (b:=x2-x0) (M:=1200) (K:=1200) (by omega) (by omega)
 unfold iA
 omega
theorem rat_scale {n d:Rat}{N W:Int}(hn:n*16=N)(hd:d*16=W)(h0:d≠0):W≠0/\n / d*W=N:=by
 constructor
 ·intro h
  subst h
  exact h0 (by grind)
 ·grind
theorem wgt_qb {pts:List Pt}{t:Tri}{p:Pt}(hc:∀ j,Qtr (cor pts t j))(hA:bY (cor pts t 0) (cor pts t 1) (cor pts t 2)≠0)(hp:Qtr p)(j:Nat):QB 1 (wgt pts t p j):=by
 obtain ⟨x0,y0,h0,b0,d0⟩:=hc 0
 obtain ⟨x1,y1,h1,b1,d1⟩:=hc 1
 obtain ⟨x2,y2,h2,b2,d2⟩:=hc 2
 obtain ⟨x3,y3,h3,b3,d3⟩:=hc ((j+1) % 3)
 obtain ⟨x4,y4,h4,b4,d4⟩:=hc ((j+2) % 3)
 obtain ⟨x5,y5,h5,b5,d5⟩:=hp
 obtain ⟨hW,hq⟩:=rat_scale (area_int h5 h3 h4) (area_int h0 h1 h2) hA
 have k1:=iA_bd (x0:=x5) (y0:=y5) (x1:=x3) (y1:=y3) (x2:=x4) (y2:=y4) ⟨b5,d5,b3,d3,b4,d4⟩
 have k2:=iA_bd (x0:=x0) (y0:=y0) (x1:=x1) (y1:=y1) (x2:=x2) (y2:=y2) ⟨b0,d0,b1,d1,b2,d2⟩
 exact qb_quot hW hq (by omega) (by omega)
theorem slope_int {c0 c1 c2:Pt}{z0 z1 z2:Rat}{x0 y0 x1 y1 x2 y2 k0 k1 k2:Int}(h0:At4 c0 x0 y0)(h1:At4 c1 x1 y1)(h2:At4 c2 x2 y2)(e0:z0*2=k0)(e1:z1*2=k1)(e2:z2*2=k2)(hA:bY c0 c1 c2≠0) :
  iA x0 y0 x1 y1 x2 y2≠0/\(slopeQ c0 c1 c2 z0 z1 z2).1*(iA x0 y0 x1 y1 x2 y2:Int)=((2*((k1-k0)*(y2-y0)-(y1-y0)*(k2-k0)):Int):Rat)/\(slopeQ c0 c1 c2 z0 z1 z2).2*(iA x0 y0 x1 y1 x2 y2:Int)=((2*((x1-x0)*(k2-k0)-(k1-k0)*(x2-x0)):Int):Rat):=by
 have hw:=area_int h0 h1 h2
 have hD:cL (c1.1-c0.1) (c1.2-c0.2) (c2.1-c0.1) (c2.2-c0.2)=bY c0 c1 c2:=by unfold cL bY;grind
 refine ⟨fun h=>hA (by rw [h] at hw;grind), ?_, ?_⟩
 ·unfold slopeQ
  simp only
  rw [hD,<- hw]
  unfold cL
  simp only [Rat.intCast_sub,Rat.intCast_mul]
  rw [<- h0.2,<- h1.2,<- h2.2,<- e0,<- e1,<- e2]
  generalize bY c0 c1 c2=d at hA
  grind
 ·unfold slopeQ
  simp only
  rw [hD,<- hw]
  unfold cL
  simp only [Rat.intCast_sub,Rat.intCast_mul]
  rw [<- h0.1,<- h1.1,<- h2.1,<- e0,<- e1,<- e2]
  generalize bY c0 c1 c2=d at hA
  grind
theorem cross_bd {a b c d:Int}(h:a.natAbs<=76/\b.natAbs<=1200/\c.natAbs<=1200/\d.natAbs<=76):(a*b-c*d).natAbs<=182400:=by
 have h1:=mul_bd h.1 h.2.1
 have h2:=mul_bd h.2.2.1 h.2.2.2
 omega
theorem slope_qp {pts:List Pt}{t:Tri}{fs:List Rat}(hc:∀ j,Qtr (cor pts t j))(hA:bY (cor pts t 0) (cor pts t 1) (cor pts t 2)≠0)(hz:∀ j,Hlf (fz fs t j)):QP 1 (aZ pts fs t):=by
 obtain ⟨x0,y0,h0,b0,d0⟩:=hc 0
 obtain ⟨x1,y1,h1,b1,d1⟩:=hc 1
 obtain ⟨x2,y2,h2,b2,d2⟩:=hc 2
 obtain ⟨k0,e0,f0⟩:=hz 0
 obtain ⟨k1,e1,f1⟩:=hz 1
 obtain ⟨k2,e2,f2⟩:=hz 2
 obtain ⟨hW,g1,g2⟩:=slope_int h0 h1 h2 e0 e1 e2 hA
 have k3:=iA_bd (x0:=x0) (y0:=y0) (x1:=x1) (y1:=y1) (x2:=x2) (y2:=y2) ⟨b0,d0,b1,d1,b2,d2⟩
 have k4:=cross_bd (a:=k1-k0) (b:=y2-y0) (c:=y1-y0) (d:=k2-k0) ⟨by omega,by omega,by omega,by omega⟩
 have k5:=cross_bd (a:=k1-k0) (b:=x2-x0) (c:=x1-x0) (d:=k2-k0) ⟨by omega,by omega,by omega,by omega⟩
 unfold aZ
 exact ⟨qb_quot hW g1 (by omega) (by omega),qb_quot hW g2 (by omega) (by omega)⟩
theorem on_qb {pts:List Pt}{t:Tri}{fs:List Rat}{p:Pt}(hc:∀ j,Qtr (cor pts t j))(hA:bY (cor pts t 0) (cor pts t 1) (cor pts t 2)≠0)(hz:∀ j,Hlf (fz fs t j))(hp:Qtr p):QB 1 (onQ pts fs t p):=by
 obtain ⟨x0,y0,h0,b0,d0⟩:=hc 0
 obtain ⟨x1,y1,h1,b1,d1⟩:=hc 1
 obtain ⟨x2,y2,h2,b2,d2⟩:=hc 2
 obtain ⟨x3,y3,h3,b3,d3⟩:=hp
 obtain ⟨k0,e0,f0⟩:=hz 0
 obtain ⟨k1,e1,f1⟩:=hz 1
 obtain ⟨k2,e2,f2⟩:=hz 2
 obtain ⟨hW,g1,g2⟩:=slope_int h0 h1 h2 e0 e1 e2 hA
 have k3:=iA_bd (x0:=x0) (y0:=y0) (x1:=x1) (y1:=y1) (x2:=x2) (y2:=y2) ⟨b0,d0,b1,d1,b2,d2⟩
 have k4:=cross_bd (a:=k1-k0) (b:=y2-y0) (c:=y1-y0) (d:=k2-k0) ⟨by omega,by omega,by omega,by omega⟩
 have k5:=cross_bd (a:=k1-k0) (b:=x2-x0) (c:=x1-x0) (d:=k2-k0) ⟨by omega,by omega,by omega,by omega⟩
 have m0:=mul_bd (show k0.natAbs<=38 by omega) k3
 have m1:=mul_bd k4 (show (x3-x0).natAbs<=1200 by omega)
 have m2:=mul_bd (show ((x1-x0)*(k2-k0)-(k1-k0)*(x2-x0)).natAbs<=182400 by omega) (show (y3-y0).natAbs<=1200 by omega)
 refine qb_quot (w:=2*iA x0 y0 x1 y1 x2 y2) (z:=k0*iA x0 y0 x1 y1 x2 y2+((k1-k0)*(y2-y0)-(y1-y0)*(k2-k0))*(x3-x0)+((x1-x0)*(k2-k0)-(k1-k0)*(x2-x0))*(y3-y0)) (by omega) ?_ (by omega) (by omega)
 unfold onQ sumQ
 simp only [List.foldl_cons,List.foldl_nil]
 have g1':=g1
 have g2':=g2
 unfold aZ
 generalize (slopeQ (cor pts t 0) (cor pts t 1) (cor pts t 2) (fz fs t 0) (fz fs t 1) (fz fs t 2)).1=s1 at g1' ⊢
 generalize (slopeQ (cor pts t 0) (cor pts t 1) (cor pts t 2) (fz fs t 0) (fz fs t 1) (fz fs t 2)).2=s2 at g2' ⊢
 clear g1 g2
 generalize ((k1-k0)*(y2-y0)-(y1-y0)*(k2-k0))=n1 at g1' ⊢
 generalize ((x1-x0)*(k2-k0)-(k1-k0)*(x2-x0))=n2 at g2' ⊢
 generalize iA x0 y0 x1 y1 x2 y2=w at g1' g2' ⊢
 simp only [Rat.intCast_sub,Rat.intCast_mul,Rat.intCast_add] at g1' g2' ⊢
 have p0:=h0.1
 have p1:=h0.2
 have p2:=h3.1
 have p3:=h3.2
 generalize fz fs t 0=z0 at e0 ⊢
 rw [<- p0,<- p1,<- p2,<- p3,<- e0]
 have t2:((2:Int):Rat)=2:=rfl
 rw [t2] at g1' g2' ⊢
 grind
theorem divS_at4 {z w:Int}(hw:w=1∨w=2∨w=4)(hz:-150<=z/\z<=150):∃ x:Int,divS z w*4=x/\(-600<=x/\x<=600):=by
 have h:=divS_mul (z:=z) (w:=w) (by omega)
 have t1:((1:Int):Rat)=1:=rfl
 have t2:((2:Int):Rat)=2:=rfl
 have t4:((4:Int):Rat)=4:=rfl
 rcases hw with rfl | rfl | rfl
 ·refine ⟨4*z, ?_,by omega⟩
  rw [Rat.intCast_mul,<- h,t1,t4]
  grind
 ·refine ⟨2*z, ?_,by omega⟩
  rw [Rat.intCast_mul,<- h,t2]
  grind
 ·exact ⟨z,h,by omega⟩
theorem place_qtr {a b:Int}{h:Bool}{x y n:Int}(hn:n=1∨n=2)(hx:-128<=x/\x<=127)(hy:-128<=y/\y<=127):Qtr (cB a b h x y n):=by
 have ha:=tmod8 a
 have hb:=tmod8 b
 have hh:cM h=1∨cM h=2:=by cases h <;> simp [cM]
 have hw:cM h*n=1∨cM h*n=2∨cM h*n=4:=by rcases hh with e | e <;> rcases hn with f | f <;> rw [e,f] <;> omega
 obtain ⟨u,hu,bu⟩:=divS_at4 (z:=x+a.tmod 8*n) hw (by rcases hn with f | f <;> subst f <;> omega)
 obtain ⟨v,hv,bv⟩:=divS_at4 (z:=y+b.tmod 8*n) hw (by rcases hn with f | f <;> subst f <;> omega)
 exact ⟨u,v,⟨hu,hv⟩,bu,bv⟩
theorem ptsK_qtr {m:Nat}{a b:Int}{h:Bool}:∀ p∈ptsK m a b h,Qtr p:=by
 intro p hp
 obtain ⟨x,hx,rfl⟩:=List.mem_map.1 hp
 have:=shP_bd m x hx
 exact place_qtr (.inl rfl) (by omega) (by omega)
theorem zero_qtr:Qtr (0,0):=⟨0,0,⟨by decide +kernel,by decide +kernel⟩,by decide,by decide⟩
theorem fj {α:Type}{P:α->Prop}{l:List α}{i:Nat}{d:α}(h:∀ x∈l,P x)(h0:P d):P (l.getD i d):=by
 rw [List.getD_eq_getElem?_getD]
 cases h1:l[i]? with
 | none=>exact h0
 | some x=>exact h x (List.mem_of_getElem? h1)
theorem cor_qtr {m:Nat}{a b:Int}{h:Bool}{t:Tri}(j:Nat):Qtr (cor (ptsK m a b h) t j):=fj ptsK_qtr zero_qtr
theorem fsK_hlf (n:Nat)(H:Hts):∀ q∈fsK n H,Hlf q:=by
 intro q hq
 obtain ⟨i,_,rfl⟩:=List.mem_map.1 hq
 have hb:=tmod20 ((htsL H).getD (i % 6) 0)
 generalize ((htsL H).getD (i % 6) 0).tmod 20=z at hb ⊢
 have t1:((1:Int):Rat)=1:=rfl
 have t2:((2:Int):Rat)=2:=rfl
 rcases halfZ_or H.half with e | e
 ·have h:=divS_mul (z:=z) (w:=1) (by decide)
  rw [e]
  refine ⟨2*z, ?_,by omega⟩
  rw [Rat.intCast_mul,<- h,t1,t2]
  grind
 ·rw [e]
  exact ⟨z,divS_mul (by decide),by omega⟩
theorem zero_hlf:Hlf 0:=⟨0,by decide +kernel,by decide⟩
theorem one_hlf:Hlf 1:=⟨2,by decide +kernel,by decide⟩
theorem fz_hlf {n:Nat}{H:Hts}{t:Tri}(j:Nat):Hlf (fz (fsK n H) t j):=fj (fsK_hlf n H) zero_hlf
theorem unit_hlf {n k:Nat}{t:Tri}(j:Nat):Hlf (fz (dI n k) t j):=fj (fun q hq=>by
 rcases unitF_01 q hq with rfl | rfl
 ·exact zero_hlf
 ·exact one_hlf) zero_hlf
theorem ptAt_qtr (S:Sht)(s:Sgt)(hs:SgtR s):Qtr (ptAt S s):=by
 unfold ptAt
 split
 ·exact place_qtr (.inr rfl) hs.px hs.py
 ·exact fj ptsK_qtr zero_qtr
theorem rowF_all {P:Rat->Prop}{n:Nat}{m:List (Nat × Rat)}(h0:P 0)(h:∀ x∈m,P x.2):∀ q∈rowF n m,P q:=by
 intro q hq
 obtain ⟨j,_,rfl⟩:=List.mem_map.1 hq
 cases h1:mget m j with
 | none=>exact h0
 | some v =>
  exact h _ (el h1)
theorem rowR_ok {s p k:Nat}{fm:List (Nat × Rat)}{b sg:Rat}(hf:∀ x∈fm,QB 1 x.2)(hb:QB 3 b)(hs:QB 1 sg):RowR (rowR s p k fm b sg):=by
 refine ⟨rowF_all (QB_zero.le (by decide)) ?_,(fu hs hb).le (by decide)⟩
 intro x hx
 obtain ⟨y,hy,rfl⟩:=List.mem_map.1 hx
 exact (fu hs (hf y hy)).le (by decide)
theorem rowsO_ok {B:Bk}{o:Obs}{p:Pt}{t:Tri}{z:Rat}(hw:∀ j,QB 1 (wgt B.pts t p j))(hs:∀ j,QP 1 (slf B.pts t j))(hh:QB 3 (hgtQ o z))(he:o.kind≠1->o.kind≠2->QB 3 (eastQ o)/\QB 3 (northQ o)):∀ r∈rowsO B o p t z,RowR r:=by
 have f1:∀ x∈atT t (wgt B.pts t p),QB 1 x.2:=dC (hw 0) (hw 1) (hw 2)
 have f2:∀ x∈atT t (fun j=>(slf B.pts t j).1),QB 1 x.2:=dC (hs 0).1 (hs 1).1 (hs 2).1
 have f3:∀ x∈atT t (fun j=>(slf B.pts t j).2),QB 1 x.2:=dC (hs 0).2 (hs 1).2 (hs 2).2
 intro r hr
 unfold rowsO at hr
 split at hr
 ·rcases List.mem_append.1 hr with h | h
  ·split at h
   ·rw [List.mem_singleton.1 h];exact rowR_ok f1 hh QB_one
   ·simp at h
  ·split at h
   ·rw [List.mem_singleton.1 h];exact rowR_ok f1 hh neg_one_qb
   ·simp at h
 ·rename_i h1
  split at hr
  ·obtain ⟨k,_,h⟩:=List.mem_flatMap.1 hr
   obtain ⟨sg,hsg,rfl⟩:=List.mem_map.1 h
   exact rowR_ok f1 hh (sq_two sg hsg)
  ·rename_i h2
   obtain ⟨e1,e2⟩:=he h1 h2
   obtain ⟨k,_,h⟩:=List.mem_flatMap.1 hr
   rcases List.mem_append.1 h with h | h
   ·obtain ⟨sg,hsg,rfl⟩:=List.mem_map.1 h
    exact rowR_ok f2 e1 (sq_two sg hsg)
   ·obtain ⟨sg,hsg,rfl⟩:=List.mem_map.1 h
    exact rowR_ok f3 e2 (sq_two sg hsg)
def tiK (S:Sht)(s:Sgt):Nat:=(locL (ptsK (S.kd % 8) S.a S.b S.h) (shT (S.kd % 8)) (ptAt S s)).headD 0
def tK (S:Sht)(s:Sgt):Tri:=(shT (S.kd % 8)).getD (tiK S s) (0,0,0)
def zK (S:Sht)(H:Hts)(s:Sgt):Rat:=onQ (ptsK (S.kd % 8) S.a S.b S.h) (fsK (ptsK (S.kd % 8) S.a S.b S.h).length H) (tK S s) (ptAt S s)
noncomputable def roK (S:Sht)(H:Hts)(l:List Sgt)(i:Nat):List RowQ:=rowsO (bh S H l) (obsK S (l.getD i noSgt) i) (ptAt S (l.getD i noSgt)) (tK S (l.getD i noSgt)) (zK S H (l.getD i noSgt))
theorem obsK_at (S:Sht)(s:Sgt)(i:Nat)(hs:SgtR s):ObsAt (obsK S s i) (ptAt S s):=by
 have hq:=(ptAt_ok S s hs).1
 refine ⟨?_, ?_,(qp1_ok hq).1,(qp1_ok hq).2, ?_⟩
 ·unfold obsK;split
  ·rfl
  ·split <;> rfl
 ·unfold obsK;split
  ·rfl
  ·split <;> rfl
 ·unfold obsK;split
  ·intro h;exact absurd (show (1:Int)=2 from h) (by decide)
  ·split
   ·intro _;exact ok1 (dep_qb s.depth)
   ·intro h;exact absurd (show (3:Int)=2 from h) (by decide)
theorem obsK_up (S:Sht)(s:Sgt)(i:Nat):0<=idxF (isU (obsK S s i).upper) colK 0:=by
 have hlo:=lo_le s
 have hup:=up_le s
 have e1:=lab_idx (s.u1 % 3) (by omega)
 have e2:=lab_idx (max (loU s) (upU s)) (by omega)
 unfold obsK;split
 ·simp only;rw [e1];omega
 ·split <;> (simp only;rw [e2];omega)
theorem obsK_nr (S:Sht)(s:Sgt)(i:Nat):(obsK S s i).kind≠1->(obsK S s i).kind≠2->(aR (obsK S s i).nx=true/\aR (obsK S s i).ny=true/\aR (obsK S s i).nz=true)/\QB 1 (bg (obsK S s i).nx)/\QB 1 (bg (obsK S s i).ny)/\QB 1 (bg (obsK S s i).nz)/\bg (obsK S s i).nz≠0:=by
 have h0:=tmod5 s.n0
 have h1:=tmod5 s.n1
 have h2:=lastN_bd s.n2
 have l0:=dK (s.n0.tmod 5) (by omega)
 have l1:=dK (s.n1.tmod 5) (by omega)
 have l2:=dK (lastN s.n2) (by omega)
 have hne:=lastN_ne s.n2
 unfold obsK;split
 ·intro h;exact absurd rfl h
 ·split
  ·intro _ h;exact absurd rfl h
  ·intro _ _
   simp only
   rw [dw (ok1 l0),dw (ok1 l1),dw (ok1 l2)]
   exact ⟨⟨ok1 l0,ok1 l1,ok1 l2⟩,l0,l1,l2,by simpa using hne⟩
theorem obsK_dep (S:Sht)(s:Sgt)(i:Nat):(obsK S s i).kind=2->(obsK S s i).depth=qtx (divS ((s.depth % 12:Nat):Int) 2):=by
 unfold obsK;split
 ·intro h;exact absurd (show (1:Int)=2 from h) (by decide)
 ·split
  ·intro _;rfl
  ·intro h;exact absurd (show (3:Int)=2 from h) (by decide)
theorem obsK_hgt (S:Sht)(s:Sgt)(i:Nat){z:Rat}(hz:QB 1 z):QB 3 (hgtQ (obsK S s i) z):=by
 unfold hgtQ;split
 ·rename_i h
  rw [obsK_dep S s i h,dw (ok1 (dep_qb s.depth))]
  have h:=dD hz (dep_qb s.depth)
  exact h.le (by decide)
 ·exact hz.le (by decide)
theorem obsK_east (S:Sht)(s:Sgt)(i:Nat)(h1:(obsK S s i).kind≠1)(h2:(obsK S s i).kind≠2):QB 3 (eastQ (obsK S s i))/\QB 3 (northQ (obsK S s i)):=by
 obtain ⟨_,l0,l1,l2,hne⟩:=obsK_nr S s i h1 h2
 exact ⟨(QB_div (QB_neg l0) l2 hne).le (by decide),(QB_div (QB_neg l1) l2 hne).le (by decide)⟩
theorem locK (S:Sht)(s:Sgt)(hs:SgtR s):(∃ r,locL (ptsK (S.kd % 8) S.a S.b S.h) (shT (S.kd % 8)) (ptAt S s)=tiK S s::r)/\(shT (S.kd % 8))[tiK S s]?=some (tK S s):=by
 have hne:=(ptAt_ok S s hs).2
 unfold tK tiK
 cases h:locL (ptsK (S.kd % 8) S.a S.b S.h) (shT (S.kd % 8)) (ptAt S s) with
 | nil=>exact absurd h hne
 | cons i r =>
  have hm:i∈locL (ptsK (S.kd % 8) S.a S.b S.h) (shT (S.kd % 8)) (ptAt S s):=by rw [h];exact List.mem_cons_self
  unfold locL at hm
  have hlt:=List.mem_range.1 (List.mem_filter.1 hm).1
  refine ⟨⟨r,rfl⟩, ?_⟩
  simp only [List.headD_cons]
  rw [List.getD_eq_getElem?_getD,List.getElem?_eq_getElem hlt]
  rfl
theorem fineK (S:Sht)(H:Hts)(l:List Sgt)(s:Sgt)(i:Nat)(hs:SgtR s) :
  Fine (bh S H l) (fsK (ptsK (S.kd % 8) S.a S.b S.h).length H) (obsK S s i) (ptAt S s) (tiK S s) (tK S s) (zK S H s):=by
 obtain ⟨hG,_⟩:=dO (S.kd % 8) (Nat.mod_lt _ (by decide)) S.a S.b S.h
 obtain ⟨⟨r,hr⟩,ht⟩:=locK S s hs
 have hA:=ep hG.ok (List.mem_of_getElem? ht)
 have hp:=ptAt_qtr S s hs
 have hw:∀ j,QB 1 (wgt (ptsK (S.kd % 8) S.a S.b S.h) (tK S s) (ptAt S s) j):=wgt_qb (fun j=>cor_qtr j) hA hp
 have hsl:∀ j,QP 1 (slf (ptsK (S.kd % 8) S.a S.b S.h) (tK S s) j):=fun j=>slope_qp (fun j=>cor_qtr j) hA (fun j=>unit_hlf j)
 have hz:QB 1 (zK S H s):=on_qb (fun j=>cor_qtr j) hA (fun j=>fz_hlf j) hp
 have hh:=obsK_hgt S s i hz
 refine ⟨obsK_at S s i hs,⟨r,hr⟩,ht, ?_,hz.le (by decide),hh.le (by decide),fun j=>(hw j).le (by decide),obsK_up S s i,fun j=>(hsl j).le (by decide), ?_, ?_⟩
 ·show valV (ptsK (S.kd % 8) S.a S.b S.h) (shT (S.kd % 8)) _ _=_
  unfold valV
  rw [hr]
  show numV (zK S H s)=_
  unfold numV
  rw [if_pos (ok1 hz)]
 ·intro h1 h2
  obtain ⟨h0,l0,l1,l2,hne⟩:=obsK_nr S s i h1 h2
  exact ⟨h0,l0.le (by decide),l1.le (by decide),l2.le (by decide),hne⟩
 ·exact rowsO_ok hw hsl hh (obsK_east S s i)
theorem bookK_rich (S:Sht)(H:Hts)(l:List Sgt)(hs:∀ s∈l,SgtR s):Rich (bh S H l) (fsK (ptsK (S.kd % 8) S.a S.b S.h).length H) (roK S H l):=by
 refine ⟨(dO (S.kd % 8) (Nat.mod_lt _ (by decide)) S.a S.b S.h).1,bookK_r S H l hs,bookK_zero S H l hs,⟨rfl,fsK_len _ _,fun q hq=>(fsK_qb _ H q hq).le (by decide)⟩, ?_, ?_⟩
 ·have:=(bookK_bp S H l).2
  rw [bookK_bs]
  omega
 ·intro i o ho
  obtain ⟨hi,s,hsl,rfl⟩:=eT ho
  refine ⟨_,_,_,_,fineK S H l s i (hs s (List.mem_of_getElem? hsl)), ?_⟩
  unfold roK
  rw [List.getD_eq_getElem?_getD,hsl]
  rfl



theorem obsK_upper (S:Sht)(s:Sgt)(i:Nat):∃ j<3,(obsK S s i).upper=labU j:=by
 have hlo:=lo_le s
 have hup:=up_le s
 unfold obsK;split
 ·exact ⟨s.u1 % 3,by omega,rfl⟩
 ·split <;> exact ⟨max (loU s) (upU s),by omega,rfl⟩
theorem lab_only:∀ j<3,∀ k<3,labU k=labU j ↔ k=j:=by decide
theorem obsK_only (S:Sht)(H:Hts)(l:List Sgt)(s:Sgt)(i:Nat):∀ k x,(bh S H l).col[k]?=some x->(x.unit=(obsK S s i).upper ↔ k=upN (bh S H l) (obsK S s i)):=by
 obtain ⟨j,hj,e⟩:=obsK_upper S s i
 intro k x hx
 have hu:upN (bh S H l) (obsK S s i)=j:=by
  unfold upN
  rw [e]
  show (idxF (isU (labU j)) colK 0).toNat=j
  rw [lab_idx j hj];rfl
 have hx2:colK[k]?=some x:=hx
 have hk:k<3:=(List.getElem?_eq_some_iff.1 hx2).1
 have hxu:x.unit=labU k:=by
  rcases (by omega:k=0∨k=1∨k=2) with rfl | rfl | rfl <;> (cases hx2;rfl)
 rw [hu,e,hxu]
 exact lab_only j hj k hk

instance:DecidableEq SrcQ:=fun a b=>decidable_of_iff (a.n=b.n/\a.r=b.r) (by cases a;cases b;simp)

theorem SrcsIn.mono {C D:Mem}{v:Value}{l:List SrcQ}(h:SrcsIn C v l)(hl:C.le D):SrcsIn D v l:=by
 obtain ⟨vs,h1,h2⟩:=h
 exact ⟨vs,h1.mono hl,h2.mono hl⟩
theorem bookK_on (S:Sht)(H:Hts)(l:List Sgt):(bh S H l).obs.length<=6:=by
 show (obsL S l).length<=6
 rw [obsL_len];omega

def RowD (r:RowQ):Prop:=∃ W:Int,W≠0/\W.natAbs<=2880000/\∀ q∈r.f,∃ N:Int,q*W=N/\N.natAbs<=2880000
theorem dot_int {f x:List Rat}{W:Int}(hf:∀ q∈f,∃ N:Int,q*W=N/\N.natAbs<=2880000)(hx:∀ y∈x,Hlf y):∀ n:Nat,∃ z:Int,dotV f x n*((2*W:Int):Rat)=z/\z.natAbs<=109440000*n
 | 0=>⟨0,by simp only [dotV];rw [Rat.zero_mul];rfl,Nat.zero_le _⟩
 | n+1=>by
  obtain ⟨z,h1,h2⟩:=dot_int hf hx n
  obtain ⟨N,h3,h4⟩:∃ N:Int,f.getD n 0*W=N/\N.natAbs<=2880000:=fj (P:=fun q:Rat=>∃ N:Int,q*(W:Rat)=N/\N.natAbs<=2880000) hf ⟨0,by rw [Rat.zero_mul];rfl,by decide⟩
  obtain ⟨k,h5,h6⟩:Hlf (x.getD n 0):=fj hx zero_hlf
  have h7:=mul_bd h4 (show k.natAbs<=38 by omega)
  refine ⟨z+N*k, ?_,by omega⟩
  simp only [dotV]
  have e:((2*W:Int):Rat)=2*(W:Rat):=by rw [Rat.intCast_mul];rfl
  have e2:((N*k:Int):Rat)=N*(k:Rat):=Rat.intCast_mul _ _
  rw [Rat.intCast_add,e2,<- h1,<- h3,<- h5,e]
  grind
theorem dot_over {f x:List Rat}:∀ n:Nat,f.length<=n->dotV f x n=dotV f x f.length
 | 0,h=>by rw [show f.length=0 by omega]
 | n+1,h=>by
  rcases Nat.lt_or_ge n f.length with h1 | h1
  ·rw [show f.length=n+1 by omega]
  ·simp only [dotV]
   rw [List.getD_eq_getElem?_getD,List.getElem?_eq_none h1,dot_over n h1]
   simp only [Option.getD_none]
   grind
theorem dot_qb {r:RowQ}{x:List Rat}(hr:RowD r)(hx:∀ y∈x,Hlf y)(hl:r.f.length<=60)(n:Nat):QB 2 (dotV r.f x n):=by
 obtain ⟨W,h1,h2,h3⟩:=hr
 have key:∀ n,n<=60->QB 2 (dotV r.f x n):=by
  intro n hn
  obtain ⟨z,h4,h5⟩:=dot_int h3 hx n
  rw [rat_quot (w:=2*W) (by omega) h4]
  unfold divS
  have e:B9 ^ 2=1000000000000000000:=by decide +kernel
  refine mk_bound (by omega) ?_ ?_
  ·rw [e];split <;> omega
  ·rw [e];omega
 rcases Nat.lt_or_ge n 60 with h | h
 ·exact key n (by omega)
 ·rw [dot_over n (by omega)]
  exact key _ hl
theorem rowR_d {s p k:Nat}{fm:List (Nat × Rat)}{b sg:Rat}{W:Int}(hW:W≠0)(hWl:W.natAbs<=2880000)(hf:∀ x∈fm,∃ N:Int,x.2*W=N/\N.natAbs<=2880000)(hs:sg=1∨sg=-1):RowD (rowR s p k fm b sg):=by
 refine ⟨W,hW,hWl,rowF_all ⟨0,by rw [Rat.zero_mul];rfl,by decide⟩ ?_⟩
 intro x hx
 obtain ⟨y,hy,rfl⟩:=List.mem_map.1 hx
 obtain ⟨N,h1,h2⟩:=hf y hy
 rcases hs with rfl | rfl
 ·exact ⟨N,by rw [<- h1];show 1*y.2*_=_;grind,h2⟩
 ·exact ⟨-N,by rw [Rat.intCast_neg,<- h1];show -1*y.2*_=_;grind,by omega⟩
theorem sgn_two:∀ q∈([1, -1]:List Rat),q=1∨q=-1:=by
 intro q hq
 simpa using hq
theorem rowsO_d {B:Bk}{o:Obs}{p:Pt}{t:Tri}{z:Rat}{W:Int}(hW:W≠0)(hWl:W.natAbs<=2880000)(hw:∀ j,∃ N:Int,wgt B.pts t p j*W=N/\N.natAbs<=2880000)
  (hs:∀ j,(∃ N:Int,(slf B.pts t j).1*W=N/\N.natAbs<=2880000)/\∃ N:Int,(slf B.pts t j).2*W=N/\N.natAbs<=2880000):∀ r∈rowsO B o p t z,RowD r:=by
 have f1:∀ x∈atT t (wgt B.pts t p),∃ N:Int,x.2*W=N/\N.natAbs<=2880000:=dC (hw 0) (hw 1) (hw 2)
 have f2:∀ x∈atT t (fun j=>(slf B.pts t j).1),∃ N:Int,x.2*W=N/\N.natAbs<=2880000:=dC (hs 0).1 (hs 1).1 (hs 2).1
 have f3:∀ x∈atT t (fun j=>(slf B.pts t j).2),∃ N:Int,x.2*W=N/\N.natAbs<=2880000:=dC (hs 0).2 (hs 1).2 (hs 2).2
 intro r hr
 unfold rowsO at hr
 split at hr
 ·rcases List.mem_append.1 hr with h | h
  ·split at h
   ·rw [List.mem_singleton.1 h];exact rowR_d hW hWl f1 (.inl rfl)
   ·simp at h
  ·split at h
   ·rw [List.mem_singleton.1 h];exact rowR_d hW hWl f1 (.inr rfl)
   ·simp at h
 ·split at hr
  ·obtain ⟨k,_,h⟩:=List.mem_flatMap.1 hr
   obtain ⟨sg,hsg,rfl⟩:=List.mem_map.1 h
   exact rowR_d hW hWl f1 (sgn_two sg hsg)
  ·obtain ⟨k,_,h⟩:=List.mem_flatMap.1 hr
   rcases List.mem_append.1 h with h | h
   ·obtain ⟨sg,hsg,rfl⟩:=List.mem_map.1 h
    exact rowR_d hW hWl f2 (sgn_two sg hsg)
   ·obtain ⟨sg,hsg,rfl⟩:=List.mem_map.1 h
    exact rowR_d hW hWl f3 (sgn_two sg hsg)
theorem tri_int {pts:List Pt}{t:Tri}{p:Pt}(hc:∀ j,Qtr (cor pts t j))(hA:bY (cor pts t 0) (cor pts t 1) (cor pts t 2)≠0)(hp:Qtr p)(hu:∀ j i,Hlf (fz (dI pts.length (triN t j)) t i)) :
  ∃ W:Int,W≠0/\W.natAbs<=2880000/\(∀ j,∃ N:Int,wgt pts t p j*W=N/\N.natAbs<=2880000) /\
   ∀ j,(∃ N:Int,(slf pts t j).1*W=N/\N.natAbs<=2880000)/\∃ N:Int,(slf pts t j).2*W=N/\N.natAbs<=2880000:=by
 obtain ⟨x0,y0,h0,b0,d0⟩:=hc 0
 obtain ⟨x1,y1,h1,b1,d1⟩:=hc 1
 obtain ⟨x2,y2,h2,b2,d2⟩:=hc 2
 have k2:=iA_bd (x0:=x0) (y0:=y0) (x1:=x1) (y1:=y1) (x2:=x2) (y2:=y2) ⟨b0,d0,b1,d1,b2,d2⟩
 have hW:=(rat_scale (n:=0) (N:=0) (by rw [Rat.zero_mul];rfl) (area_int h0 h1 h2) hA).1
 refine ⟨iA x0 y0 x1 y1 x2 y2,hW,k2,fun j=>?_,fun j=>?_⟩
 ·obtain ⟨x3,y3,h3,b3,d3⟩:=hc ((j+1) % 3)
  obtain ⟨x4,y4,h4,b4,d4⟩:=hc ((j+2) % 3)
  obtain ⟨x5,y5,h5,b5,d5⟩:=hp
  obtain ⟨_,hq⟩:=rat_scale (area_int h5 h3 h4) (area_int h0 h1 h2) hA
  exact ⟨_,hq,iA_bd ⟨b5,d5,b3,d3,b4,d4⟩⟩
 ·obtain ⟨k0,e0,f0⟩:=hu j 0
  obtain ⟨k1,e1,f1⟩:=hu j 1
  obtain ⟨k2,e2,f2⟩:=hu j 2
  obtain ⟨_,g1,g2⟩:=slope_int h0 h1 h2 e0 e1 e2 hA
  have k4:=cross_bd (a:=k1-k0) (b:=y2-y0) (c:=y1-y0) (d:=k2-k0) ⟨by omega,by omega,by omega,by omega⟩
  have k5:=cross_bd (a:=k1-k0) (b:=x2-x0) (c:=x1-x0) (d:=k2-k0) ⟨by omega,by omega,by omega,by omega⟩
  exact ⟨⟨_,g1,by omega⟩,⟨_,g2,by omega⟩⟩
theorem thickI_d {s p:Nat}{x:Lay}{i:Nat}:∀ k,∀ r∈aQ s p x i k,RowD r
 | 0,r,h=>by simp [aQ] at h
 | k+1,r,h=>by
  have one:∀ (m:List (Nat × Rat))(b:Rat),(∀ x∈m,x.2=1∨x.2=-1)->RowD ⟨rowF (s*p) m,b⟩:=fun m b hm =>
   ⟨1,by decide,by decide,rowF_all ⟨0,by rw [Rat.zero_mul];rfl,by decide⟩ (fun x hx=>by
    rcases hm x hx with e | e <;> rw [e]
    ·exact ⟨1,by decide +kernel,by decide⟩
    ·exact ⟨-1,by decide +kernel,by decide⟩)⟩
  rcases List.mem_append.1 h with h | h
  ·exact thickI_d k r h
  ·unfold thickP at h
   rcases List.mem_cons.1 h with rfl | h
   ·exact one _ _ (by intro x hx;simp at hx;rcases hx with rfl | rfl <;> simp)
   ·split at h
    ·simp at h
    ·rw [List.mem_singleton.1 h]
     exact one _ _ (by intro x hx;simp at hx;rcases hx with rfl | rfl <;> simp)
theorem thickL_d {s p:Nat}{col:List Lay}:∀ n,∀ r∈aN s p col n,RowD r
 | 0,r,h=>by simp [aN] at h
 | n+1,r,h=>by
  rcases List.mem_append.1 h with h | h
  ·exact thickL_d n r h
  ·exact thickI_d _ r h
theorem roK_d (S:Sht)(H:Hts)(l:List Sgt)(i:Nat)(hs:∀ s∈l,SgtR s)(hi:i<l.length):∀ r∈roK S H l i,RowD r:=by
 obtain ⟨s,hsl⟩:∃ s,l[i]?=some s:=⟨l[i],List.getElem?_eq_getElem hi⟩
 have hsr:=hs s (List.mem_of_getElem? hsl)
 obtain ⟨hG,_⟩:=dO (S.kd % 8) (Nat.mod_lt _ (by decide)) S.a S.b S.h
 have hA:=ep hG.ok (List.mem_of_getElem? (locK S s hsr).2)
 obtain ⟨W,h1,h2,h3,h4⟩:=tri_int (fun j=>cor_qtr j) hA (ptAt_qtr S s hsr) (fun j i=>unit_hlf i)
 have hro:roK S H l i=rowsO (bh S H l) (obsK S s i) (ptAt S s) (tK S s) (zK S H s):=by
  unfold roK
  rw [List.getD_eq_getElem?_getD,hsl]
  rfl
 rw [hro]
 exact rowsO_d h1 h2 h3 h4

def htsC2 (H:Hts × Hts):List Value:=htsC H.1++htsC H.2
theorem fld_ok {n:Nat}{f:List Rat}(hl:f.length=n)(hf:∀ q∈f,QB 22 q):fldZ n (f.map qtx)=0:=by
 unfold fldZ
 rw [List.length_map,if_pos hl,show (f.map qtx).all aR=true from ?_]
 ·rfl
 ·rw [List.all_eq_true]
  intro x hx
  obtain ⟨q,hq,rfl⟩:=List.mem_map.1 hx
  exact bf (hf q hq)
theorem valE_txs {n:Nat}{f g:List Rat}(hl:f.length=n)(hf:∀ q∈f,QB 22 q):valE 2 n (txs [f,g])=fldZ n (g.map qtx):=by
 have h:bx (fun j=>fldZ n ([f.map qtx,g.map qtx].getD j [])) 1=0:=firstErr_step rfl (fld_ok hl hf)
 show (if (2:Nat)=2 then (if bx (fun j=>fldZ n ([f.map qtx,g.map qtx].getD j [])) 1≠0 then bx (fun j=>fldZ n ([f.map qtx,g.map qtx].getD j [])) 1 else fldZ n (g.map qtx)) else 5)=fldZ n (g.map qtx)
 rw [if_pos rfl,if_neg (fun hn=>hn h)]
theorem fields2 {C:Mem}{v a b:Value}{f g:List Rat}(h:Sl C 1 v [[a],[b]])(ha:Sl C 1 a (f.map encQ))(hb:Sl C 1 b (g.map encQ)):FieldsIn C v (txs [f,g]):=by
 refine ⟨[a,b],rfl,fun i w l h1 h2=>?_,h⟩
 match i with
 | 0=>cases h1;cases h2;rw [<- encQ_S1];exact ha
 | 1=>cases h1;cases h2;rw [<- encQ_S1];exact hb
 | i+2=>cases h1
theorem dotOk_of {r:RowQ}{x:List Rat}(hr:RowR r)(hd:RowD r)(hl:r.f.length=x.length)(hx:∀ y∈x,Hlf y)(h60:x.length<=60):DotOk r x :=
 ⟨hr.1,hr.2,hl,fun n=>(dot_qb hd hx (by omega) n).le (by decide)⟩
theorem thickI_r {s p:Nat}{x:Lay}{i:Nat}(hx:LayR x):∀ k,∀ r∈aQ s p x i k,RowR r
 | 0,r,h=>by simp [aQ] at h
 | k+1,r,h=>by
  have one:∀ (m:List (Nat × Rat)),(∀ x∈m,x.2=1∨x.2=-1)->∀ q∈rowF (s*p) m,QB 22 q:=fun m hm =>
   rowF_all (QB_zero.le (by decide)) (fun x hx=>by
    rcases hm x hx with e | e <;> rw [e]
    ·exact QB_one.le (by decide)
    ·exact neg_one_qb.le (by decide))
  rcases List.mem_append.1 h with h | h
  ·exact thickI_r hx k r h
  ·unfold thickP at h
   rcases List.mem_cons.1 h with rfl | h
   ·exact ⟨one _ (by intro x hx;simp at hx;rcases hx with rfl | rfl <;> simp),QB_neg hx.1⟩
   ·split at h
    ·simp at h
    ·rename_i m hm
     rw [List.mem_singleton.1 h]
     exact ⟨one _ (by intro x hx;simp at hx;rcases hx with rfl | rfl <;> simp),hx.2.1 _ hm⟩
theorem thickL_r {s p:Nat}{col:List Lay}(hc:∀ x∈col,LayR x):∀ n,∀ r∈aN s p col n,RowR r
 | 0,r,h=>by simp [aN] at h
 | n+1,r,h=>by
  rcases List.mem_append.1 h with h | h
  ·exact thickL_r hc n r h
  ·exact thickI_r (fj hc ⟨QB_zero.le (by decide),fun q hq=>by simp at hq,Nat.zero_le _⟩) _ r h
theorem thickI_fl {s p:Nat}{x:Lay}{i:Nat}:∀ k,∀ r∈aQ s p x i k,r.f.length=s*p
 | 0,r,h=>by simp [aQ] at h
 | k+1,r,h=>by
  rcases List.mem_append.1 h with h | h
  ·exact thickI_fl k r h
  ·unfold thickP at h
   rcases List.mem_cons.1 h with rfl | h
   ·exact eZ _ _
   ·split at h
    ·simp at h
    ·rw [List.mem_singleton.1 h];exact eZ _ _
theorem thickL_fl {s p:Nat}{col:List Lay}:∀ n,∀ r∈aN s p col n,r.f.length=s*p
 | 0,r,h=>by simp [aN] at h
 | n+1,r,h=>by
  rcases List.mem_append.1 h with h | h
  ·exact thickL_fl n r h
  ·exact thickI_fl _ r h
theorem bookRows (S:Sht)(H:Hts)(l:List Sgt)(hs:∀ s∈l,SgtR s):(∀ r∈dE (bh S H l),RowD r/\RowR r/\r.f.length=2*(bh S H l).pts.length)/\∀ i,i<(bh S H l).obs.length->∀ r∈roK S H l i,RowD r/\RowR r/\r.f.length=2*(bh S H l).pts.length:=by
 have hRi:=bookK_rich S H l hs
 refine ⟨fun r hr=>⟨thickL_d _ r hr,thickL_r hRi.br.col _ r hr,thickL_fl _ r hr⟩,fun i hi r hr=>?_⟩
 have ho:=List.getElem?_eq_getElem hi
 obtain ⟨hi6,s,hsl,he⟩:=eT ho
 have hil:=(List.getElem?_eq_some_iff.1 hsl).1
 refine ⟨roK_d S H l i hs hil r hr, ?_, ?_⟩
 ·obtain ⟨p,ti,t,z,hf,hro⟩:=hRi.fine i _ ho
  rw [hro] at hr
  exact hf.rows r hr
 ·unfold roK at hr
  exact rowsO_fl r hr

section
variable {H:Type} {enc:TypeId × Value->H} {W:World} {spare:Nat->Bool} {held:Bool}
theorem heights2_of {n:Nat}{cs:List Value}{y:DataW H × List MemPlace}(hl:cs.length=14)(h:DataW.trod enc Tryz.prog W 0 spare held n 82 cs=some y):∃ X:Hts × Hts,cs=htsC2 X/\HtsR X.1/\HtsR X.2:=by
 obtain ⟨xs,m,_,_,_,hx,hf⟩:=DataW.trod_array Tryz.underlying82 h
 have h7:Tryz.prog.cellsOf 28=7:=by kernel_rfl
 have h0:=hf 0 (by decide)
 have h1:=hf 1 (by decide)
 rw [h7] at h0 h1
 rw [List.getElem?_eq_getElem (by omega)] at h0 h1
 match cs,hl with
 | [c0,c1,c2,c3,c4,c5,c6,c7,c8,c9,c10,c11,c12,c13],_ =>
  obtain ⟨G0,e0,r0⟩:=heights_of h0
  obtain ⟨G1,e1,r1⟩:=heights_of h1
  refine ⟨(G0,G1), ?_,r0,r1⟩
  unfold htsC2
  rw [<- e0,<- e1]
  rfl
end

theorem rowF_getD {n:Nat}{m:List (Nat × Rat)}{j:Nat}(h:j<n):(rowF n m).getD j 0=(mget m j).getD 0:=by
 unfold rowF
 rw [List.getD_eq_getElem?_getD,List.getElem?_map,List.getElem?_range h]
 rfl
theorem dot_nil {n:Nat}{X:List Rat}:∀ N,N<=n->dotV (rowF n []) X N=0
 | 0,_=>rfl
 | N+1,h=>by
  simp only [dotV]
  rw [dot_nil N (by omega),rowF_getD h]
  simp only [mget,Option.getD_none]
  grind
theorem dot_cons {n:Nat}{X:List Rat}{a:Nat}{v:Rat}{m:List (Nat × Rat)}(h:mget m a=none):∀ N,N<=n->dotV (rowF n ((a,v)::m)) X N=dotV (rowF n m) X N+(if a<N then v*X.getD a 0 else 0)
 | 0,_=>by simp only [dotV];rw [if_neg (by omega)];grind
 | N+1,hN=>by
  have ih:=dot_cons (n:=n) (X:=X) (v:=v) h N (by omega)
  simp only [dotV]
  rw [ih,rowF_getD hN,rowF_getD hN]
  by_cases ha:a=N
  ·subst ha
   rw [if_neg (by omega),if_pos (by omega)]
   simp only [mget,if_pos,h,Option.getD_none,Option.getD_some]
   grind
  ·simp only [mget,if_neg ha]
   by_cases hl:a<N
   ·rw [if_pos hl,if_pos (by omega)];grind
   ·rw [if_neg hl,if_neg (by omega)];grind
theorem dot_three {n:Nat}{X:List Rat}{a b c:Nat}{u v w:Rat}(hab:a≠b)(hac:a≠c)(hbc:b≠c)(ha:a<n)(hb:b<n)(hc:c<n) :
  dotV (rowF n [(a,u),(b,v),(c,w)]) X n=u*X.getD a 0+v*X.getD b 0+w*X.getD c 0:=by
 rw [dot_cons (by simp only [mget,if_neg (Ne.symm hab),if_neg (Ne.symm hac)]) n (Nat.le_refl _),dot_cons (by simp only [mget,if_neg (Ne.symm hbc)]) n (Nat.le_refl _),dot_cons rfl n (Nat.le_refl _),dot_nil n (Nat.le_refl _),if_pos ha,if_pos hb,if_pos hc]
 grind
def sfc (F:List Rat × List Rat)(k:Nat):List Rat:=if k=0 then F.1 else F.2
theorem sfc_at {F:List Rat × List Rat}{p k j:Nat}(h0:F.1.length=p)(h1:F.2.length=p)(hk:k<2)(hj:j<p):(F.1++F.2).getD (k*p+j) 0=(sfc F k).getD j 0:=by
 unfold sfc
 rw [List.getD_eq_getElem?_getD,List.getD_eq_getElem?_getD]
 rcases (by omega:k=0∨k=1) with rfl | rfl
 ·rw [Nat.zero_mul,Nat.zero_add,List.getElem?_append_left (by omega)];rfl
 ·rw [Nat.one_mul,List.getElem?_append_right (by omega),h0,show p+j-p=j by omega];rfl
structure TriOk (t:Tri)(p:Nat):Prop where
 a:t.1<p
 b:t.2.1<p
 c:t.2.2<p
 ab:t.1≠t.2.1
 ac:t.1≠t.2.2
 bc:t.2.1≠t.2.2
theorem dot_row {F:List Rat × List Rat}{p k:Nat}{t:Tri}{f:Nat->Rat}{b sg:Rat}(h0:F.1.length=p)(h1:F.2.length=p)(hk:k<2)(ht:TriOk t p) :
  dotV (rowR 2 p k (atT t f) b sg).f (F.1++F.2) (rowR 2 p k (atT t f) b sg).f.length=sg*(f 0*fz (sfc F k) t 0+f 1*fz (sfc F k) t 1+f 2*fz (sfc F k) t 2):=by
 have hkp:k*p+p<=2*p:=by
  rw [<- Nat.succ_mul]
  exact Nat.mul_le_mul_right _ hk
 have e:(rowR 2 p k (atT t f) b sg).f=rowF (2*p) [(k*p+t.1,sg*f 0),(k*p+t.2.1,sg*f 1),(k*p+t.2.2,sg*f 2)]:=rfl
 rw [e,eZ,dot_three (by have:=ht.ab;omega) (by have:=ht.ac;omega) (by have:=ht.bc;omega) (by have:=ht.a;omega) (by have:=ht.b;omega) (by have:=ht.c;omega),
  sfc_at h0 h1 hk ht.a,sfc_at h0 h1 hk ht.b,sfc_at h0 h1 hk ht.c]
 show _=sg*(f 0*(sfc F k).getD t.1 0+f 1*(sfc F k).getD t.2.1 0+f 2*(sfc F k).getD t.2.2 0)
 grind
theorem wgt_val {pts:List Pt}{t:Tri}{fs:List Rat}{p:Pt}(hA:bY (cor pts t 0) (cor pts t 1) (cor pts t 2)≠0) :
  wgt pts t p 0*fz fs t 0+wgt pts t p 1*fz fs t 1+wgt pts t p 2*fz fs t 2=onQ pts fs t p:=by
 unfold onQ sumQ aZ slopeQ wgt
 simp only [List.foldl_cons,List.foldl_nil]
 show bY p (cor pts t 1) (cor pts t 2) / _*_+bY p (cor pts t 2) (cor pts t 0) / _*_+bY p (cor pts t 0) (cor pts t 1) / _*_=_
 unfold bY at hA ⊢
 unfold cL
 generalize fz fs t 0=z0
 generalize fz fs t 1=z1
 generalize fz fs t 2=z2
 generalize (cor pts t 0).1=x0 at hA ⊢
 generalize (cor pts t 0).2=y0 at hA ⊢
 generalize (cor pts t 1).1=x1 at hA ⊢
 generalize (cor pts t 1).2=y1 at hA ⊢
 generalize (cor pts t 2).1=x2 at hA ⊢
 generalize (cor pts t 2).2=y2 at hA ⊢
 generalize p.1=px
 generalize p.2=py
 grind
theorem unit_fz {n:Nat}{t:Tri}(ht:TriOk t n):(fz (dI n (triN t 0)) t 0=1/\fz (dI n (triN t 0)) t 1=0/\fz (dI n (triN t 0)) t 2=0) /\
  (fz (dI n (triN t 1)) t 0=0/\fz (dI n (triN t 1)) t 1=1/\fz (dI n (triN t 1)) t 2=0)/\(fz (dI n (triN t 2)) t 0=0/\fz (dI n (triN t 2)) t 1=0/\fz (dI n (triN t 2)) t 2=1):=by
 have key:∀ i j,i<n->(dI n j).getD i 0=if j=i then 1 else 0:=by
  intro i j hi
  unfold dI
  rw [rowF_getD hi]
  simp only [mget]
  split <;> rfl
 have e0:triN t 0=t.1:=rfl
 have e1:triN t 1=t.2.1:=rfl
 have e2:triN t 2=t.2.2:=rfl
 unfold fz
 rw [e0,e1,e2]
 simp only [key _ _ ht.a,key _ _ ht.b,key _ _ ht.c,if_neg ht.ab,if_neg ht.ac,if_neg ht.bc,if_neg (Ne.symm ht.ab),if_neg (Ne.symm ht.ac),if_neg (Ne.symm ht.bc)]
 simp
theorem slf_val {pts:List Pt}{t:Tri}{fs:List Rat}(ht:TriOk t pts.length) :
  (slf pts t 0).1*fz fs t 0+(slf pts t 1).1*fz fs t 1+(slf pts t 2).1*fz fs t 2=(aZ pts fs t).1/\(slf pts t 0).2*fz fs t 0+(slf pts t 1).2*fz fs t 1+(slf pts t 2).2*fz fs t 2=(aZ pts fs t).2:=by
 obtain ⟨⟨a0,a1,a2⟩,⟨b0,b1,b2⟩,c0,c1,c2⟩:=unit_fz ht
 unfold slf aZ
 rw [a0,a1,a2,b0,b1,b2,c0,c1,c2]
 unfold slopeQ
 simp only
 generalize 1 / cL ((cor pts t 1).1-(cor pts t 0).1) ((cor pts t 1).2-(cor pts t 0).2) ((cor pts t 2).1-(cor pts t 0).1) ((cor pts t 2).2-(cor pts t 0).2)=d
 unfold cL
 constructor <;> grind
theorem any_congr' {α:Type}{p q:α->Bool}:∀ {l:List α},(∀ x∈l,p x=q x)->l.any p=l.any q
 | [],_=>rfl
 | x::l,h=>by rw [List.any_cons,List.any_cons,h x List.mem_cons_self,any_congr' fun y hy=>h y (List.mem_cons_of_mem _ hy)]
noncomputable def holdB (o:Obs)(u:Nat)(zh:Rat)(k:Nat)(v:Rat)(sl:Pt):Bool :=
 if o.kind=1 then (if k=u then !decide (v<zh) else !decide (zh<v)) else if o.kind=2 then decide (v=zh)
 else decide (sl.1*bg o.nz=-bg o.nx) && decide (sl.2*bg o.nz=-bg o.ny)
theorem lt_one {a b:Rat}:decide (1*a<1*b)=decide (a<b):=by rw [Rat.one_mul,Rat.one_mul]
theorem lt_neg {a b:Rat}:decide (-1*a < -1*b)=decide (b<a):=by
 rw [decide_eq_decide]
 constructor <;> intro h <;> grind
theorem ne_two {a b:Rat}:(decide (a<b) || decide (b<a))=!decide (b=a):=by
 by_cases h:b=a
 ·subst h
  rw [decide_eq_false (by grind),decide_eq_true rfl];rfl
 ·rw [decide_eq_false h]
  rcases Rat.le_total (a:=a) (b:=b) with h1 | h1
  ·rw [decide_eq_true (show a<b by grind)];rfl
  ·rw [decide_eq_true (show b<a by grind),Bool.or_true];rfl
theorem quot_eq {s n d:Rat}(hd:d≠0):decide (s=-n / d)=decide (s*d=-n):=by
 rw [decide_eq_decide]
 constructor <;> intro h <;> grind
theorem surf_1 {u:Nat}(hu:u<=2):surfN ((u:Int)-1) ((u:Int)+1) 2=(if 0<u then [u-1] else [])++(if u<2 then [u] else []):=by
 rcases (by omega:u=0∨u=1∨u=2) with rfl | rfl | rfl <;> decide
theorem rows_mean {B:Bk}{o:Obs}{p:Pt}{t:Tri}{z:Rat}{F:List Rat × List Rat}(hbs:bs B=2)(hcl:B.col.length-1=2)(h0:F.1.length=B.pts.length)(h1:F.2.length=B.pts.length)(ht:TriOk t B.pts.length)
  (hA:bY (cor B.pts t 0) (cor B.pts t 1) (cor B.pts t 2)≠0) (hu0:0<=idxF (isU o.upper) B.col 0) (hu:upN B o<=2) (hnz:o.kind≠1->o.kind≠2->bg o.nz≠0) :
  (rowsO B o p t z).any (badR (F.1++F.2))=!((bi B.col o).all fun k=>holdB o (upN B o) (hgtQ o z) k (onQ B.pts (sfc F k) t p) (aZ B.pts (sfc F k) t)):=by
 have hbp:bp B=B.pts.length:=rfl
 have bad:∀ (k:Nat)(f:Nat->Rat)(b sg:Rat),k<2->badR (F.1++F.2) (rowR 2 B.pts.length k (atT t f) b sg)=decide (sg*b<sg*(f 0*fz (sfc F k) t 0+f 1*fz (sfc F k) t 1+f 2*fz (sfc F k) t 2)):=by
  intro k f b sg hk
  unfold badR
  rw [dot_row h0 h1 hk ht]
  rfl
 have hin:∀ k∈bi B.col o,k<2:=fun k hk=>by rw [<- hcl];exact surfN_in hk
 rw [List.not_all_eq_any_not]
 unfold rowsO
 rw [hbs,hbp]
 by_cases h1k:o.kind=1
 ·rw [if_pos h1k]
  have hsu:bi B.col o=(if 0<upN B o then [upN B o-1] else [])++(if upN B o<2 then [upN B o] else []):=by
   rw [<- surf_1 hu]
   unfold bi surfLo surfHi upN
   rw [if_pos h1k,if_pos h1k,hcl,Int.toNat_of_nonneg hu0]
  rw [hsu]
  generalize upN B o=u at hu
  have hb:∀ k,holdB o u (hgtQ o z) k=fun v _=>if k=u then !decide (v<hgtQ o z) else !decide (hgtQ o z<v):=by
   intro k;funext v sl;unfold holdB;rw [if_pos h1k]
  rw [List.any_append,List.any_append]
  congr 1
  ·split
   ·rw [List.any_cons,List.any_nil,List.any_cons,List.any_nil,bad _ _ _ _ (by omega),wgt_val hA,hb,lt_one]
    simp only
    rw [if_neg (by omega),Bool.not_not]
   ·rfl
  ·split
   ·rw [List.any_cons,List.any_nil,List.any_cons,List.any_nil,bad _ _ _ _ (by omega),wgt_val hA,hb,lt_neg]
    simp only
    rw [if_pos trivial,Bool.not_not]
   ·rfl
 ·rw [if_neg h1k]
  by_cases h2k:o.kind=2
  ·rw [if_pos h2k,List.any_flatMap]
   refine any_congr' fun k hk=>?_
   have hk2:=hin k hk
   have hb:holdB o (upN B o) (hgtQ o z) k (onQ B.pts (sfc F k) t p) (aZ B.pts (sfc F k) t)=decide (onQ B.pts (sfc F k) t p=hgtQ o z):=by
    unfold holdB;rw [if_neg h1k,if_pos h2k]
   rw [hb]
   simp only [List.map_cons,List.map_nil,List.any_cons,List.any_nil,Bool.or_false]
   rw [bad _ _ _ _ hk2,bad _ _ _ _ hk2,wgt_val hA,lt_one,lt_neg,ne_two]
  ·rw [if_neg h2k,List.any_flatMap]
   have hz:=hnz h1k h2k
   refine any_congr' fun k hk=>?_
   have hk2:=hin k hk
   have hb:holdB o (upN B o) (hgtQ o z) k (onQ B.pts (sfc F k) t p) (aZ B.pts (sfc F k) t)=(decide ((aZ B.pts (sfc F k) t).1*bg o.nz=-bg o.nx) && decide ((aZ B.pts (sfc F k) t).2*bg o.nz=-bg o.ny)):=by
    unfold holdB;rw [if_neg h1k,if_neg h2k]
   rw [hb,List.any_append,Bool.not_and]
   simp only [List.map_cons,List.map_nil,List.any_cons,List.any_nil,Bool.or_false]
   rw [bad _ _ _ _ hk2,bad _ _ _ _ hk2,bad _ _ _ _ hk2,bad _ _ _ _ hk2,(slf_val ht).1,(slf_val ht).2,lt_one,lt_neg,lt_one,lt_neg,ne_two,ne_two]
   unfold eastQ northQ
   rw [quot_eq hz,quot_eq hz]

theorem cmpQ_lt0 (a b:Rat):decide (cmpQ a b<0)=decide (a<b):=by
 unfold cmpQ
 by_cases h1:a<b
 ·rw [if_pos h1,decide_eq_true h1];rfl
 ·rw [if_neg h1,decide_eq_false h1];split <;> rfl
theorem all_step {α:Type}{p:α->Bool}{l:List α}{j:Nat}{x:α}(h:l[j]?=some x):(l.take (j+1)).all p=((l.take j).all p && p x):=by
 rw [List.take_add_one,h,List.all_append]
 simp
theorem all_miss {α:Type}{p:α->Bool}{l:List α}{j:Nat}{x:α}(h:l[j]?=some x)(hp:p x=false):l.all p=false:=by
 rw [List.all_eq_false]
 exact ⟨x,List.mem_of_getElem? h,by rw [hp];decide⟩
theorem lholds_fn (C:Mem)(hT:Tabs C)(bv lv:Value)(B:Bk)(fs:List Rat)(i:Nat)(o:Obs)(p:Pt)(ti:Nat)(t:Tri)(z:Rat)(F:List Rat × List Rat)(hB:BookIn C bv B)(hG:Good B.pts B.tris)(hbR:BookR B)(hbz:eS B=0)(hF:Terr B fs)(ho:B.obs[i]?=some o)(hFi:Fine B fs o p ti t z)
  (hl:FieldsIn C lv (txs [F.1,F.2])) (hun:∀ k x,B.col[k]?=some x->(x.unit=o.upper ↔ k=upN B o)) (hs2:∀ k∈bi B.col o,k<2) (hFl:∀ k,(sfc F k).length=B.pts.length) (hFq:∀ k,∀ q∈sfc F k,QB 22 q)
  (hon:∀ k,QB 22 (onQ B.pts (sfc F k) t p)) (hsl:∀ k,QP 11 (aZ B.pts (sfc F k) t)) :
  Gives cx.P 33 [bv,.int .i64 i,lv] C (.tuple #[.bool ((bi B.col o).all fun k=>holdB o (upN B o) (hgtQ o z) k (onQ B.pts (sfc F k) t p) (aZ B.pts (sfc F k) t)),.int .i64 0]):=by
 have hB0:=hB
 have hM:=hG.ok
 obtain ⟨r,hloc⟩:=hFi.loc
 have hO:=hFi.place
 obtain ⟨HB,hHB⟩:∃ HB:Nat->Bool,(fun k=>holdB o (upN B o) (hgtQ o z) k (onQ B.pts (sfc F k) t p) (aZ B.pts (sfc F k) t))=HB:=⟨_,rfl⟩
 rw [hHB]
 have hbk:∀ k,HB k=holdB o (upN B o) (hgtQ o z) k (onQ B.pts (sfc F k) t p) (aZ B.pts (sfc F k) t):=fun k=>by rw [<- hHB]
 obtain ⟨v1,v2,tv,cv,ov,rfl,h1,h2,h3,h4,h5⟩:=id hB.ex
 have hmi:MeshIn C (.agg ⟨[v1,v2]⟩) B.pts B.tris:=⟨v1,v2,rfl,h1,h2⟩
 obtain ⟨A4,c4,rfl,hq4,hq4',_⟩:=id h4
 obtain ⟨A5,c5,rfl,hq5,hq6,_⟩:=id h5
 obtain ⟨vs,hvl,hvr,hvs⟩:=hl
 obtain ⟨Af,cf,rfl,_⟩:=id hvs
 have hmx:maxLen<=9223372036854775807:=by simp [maxLen]
 have hsll:(bi B.col o).length<=2->(bi B.col o).length<9223372036854775807:=fun h=>by omega
 have hslen:(bi B.col o).length<=B.col.length:=by
  unfold bi surfN
  refine Nat.le_trans (List.length_filter_le _ _) ?_
  rw [List.length_range]
  omega
 have hv2:vs.length=2:=hvl
 simp only [List.length_map,hv2] at hvs h4 h5 hq4 hq5 hB0 ⊢
 have hsw:∀ (D:Mem),C.le D->∀ (k:Nat)(w:Value),k<2->vs[k]?=some w->Sl D 1 w ((sfc F k).map encQ):=fun D hD k w hk hw=>by
  have h:=hvr k w ((sfc F k).map qtx) hw (by
   rcases (by omega:k=0∨k=1) with e | e <;> rw [e] <;> rfl)
  rw [<- encQ_S1] at h
  exact h.mono hD
 have hvv:∀ k,valV B.pts B.tris (sfc F k) p=.tuple #[strV (qtx (onQ B.pts (sfc F k) t p)),.int .i64 0]:=fun k=>by
  unfold valV
  rw [hloc]
  show numV (onQ B.pts (sfc F k) (B.tris.getD ti (0,0,0)) p)=_
  rw [List.getD_eq_getElem?_getD,hFi.tri]
  show numV (onQ B.pts (sfc F k) t p)=_
  unfold numV
  rw [if_pos (bf (hon k))]
 have hval:∀ (D:Mem),C.le D->∀ (k:Nat)(w:Value),k<2->vs[k]?=some w->Gives cx.P 70 [.agg ⟨[v1,v2]⟩,w,.agg ⟨[strV o.x,strV o.y]⟩] D (.tuple #[strV (qtx (onQ B.pts (sfc F k) t p)),.int .i64 0]):=fun D hD k w hk hw=>by
  have h:=value_fn D (hT.mono hD) _ _ B.pts B.tris (sfc F k) 22 (by decide) (by decide) (hmi.mono hD) hG (hsw D hD k w hk hw) (hFl k) (hFq k) (fun q hq=>bf (hFq k q hq)) p hO.q hO.r
  rw [hvv k,<- obsAt_val hO] at h
  exact h
 have hslo:∀ (D:Mem),C.le D->∀ (k:Nat)(w:Value),k<2->vs[k]?=some w->Gives cx.P 71 [.agg ⟨[v1,v2]⟩,w,.int .i64 ti] D (.tuple #[ptV (aZ B.pts (sfc F k) t),.int .i64 0]):=fun D hD k w hk hw =>
  slope_fn D (hT.mono hD) _ _ B.pts B.tris (sfc F k) 22 (by decide) (by decide) (hmi.mono hD) hG (hsw D hD k w hk hw) (hFl k) (hFq k) (fun q hq=>bf (hFq k q hq)) ti t hFi.tri ⟨(hsl k).1.le (by decide),(hsl k).2.le (by decide)⟩
 refine Fn.it (by kernel_rfl) Tryz.func33 166 fun w0=>?_
 refine G.rg fun R hR=>?_
 refine D.aE (fun b3=>?_)
 refine D.q3 2 1 2 3 hR ?_;clear hR R
 refine G.freeze 0 rfl (fun C2 hle2 hb2=>?_)
 refine G.rp 1 fun R hR=>?_
 refine D.aa (bkT hb2 1) ?_
 refine D.ae ?_
 refine D.ap (h5.mono mup) rfl rfl rfl rfl rfl rfl rfl rfl rfl rfl (by omega) (bl ho) (fun _=>rfl) (fun p26 hp26=>?_)
 refine D.aa hp26 ?_
 refine D.aq (fun b8=>?_)
 refine D.aj (j:=0) ?_
 refine D.e4 1 2 3 8 hR ?_;clear hR R
 refine G.freeze 0 rfl (fun C5 hle5 hb5=>?_)
 refine G.rg fun R hR=>?_
 refine D.aa (bkT hb2 5) ?_
 refine D.ae ?_
 refine D.ah (heightX_fn _ (hT.mono mup) _ B fs i o p z (hB0.mono mup) hG hbR hbz hF ho hO hFi.val hFi.qz hFi.qh) ?_
 refine D.q6 5 1 2 3 8 9 10 hR ?_;clear hR R
 refine G.rg fun R hR=>?_
 refine D.aa (bkT hb2 5) ?_
 refine D.ae ?_
 refine D.aU (surfacesX_fn _ (hT.mono mup) _ B i o (hB0.mono mup) hG hbR hbz ho) (fun v37 C37 hle37 hq37=>?_)
 obtain ⟨lv,rfl,hlv⟩:=hq37
 obtain ⟨Al,cl,hle0',_⟩:=id hlv
 rw [List.length_map] at hle0'
 subst hle0'
 refine D.q7 5 2 3 8 9 10 11 12 hR ?_;clear hR R
 refine G.rp 1 fun R hR=>?_
 refine D.aa (bkT hb2 2) ?_
 refine D.ae ?_
 refine D.aa (bkT hb5 2) ?_
 refine D.aM (by have h:=locate_fn C37 (hT.mono mup) _ B.pts B.tris p (hmi.mono mup) hG hO.q hO.r;rw [<- obsAt_val hO] at h;exact h) rfl rfl rfl rfl rfl rfl rfl (fun _=>rfl) (fun v45 C45 hle45 hq45=>?_)
 obtain ⟨wv,rfl,hwv⟩:=hq45
 rw [hloc] at hwv
 obtain ⟨Aw,cw,hwe,_⟩:=id hwv
 rw [List.length_map] at hwe
 subst hwe
 refine D.q9 5 2 3 8 9 10 11 12 13 14 hR ?_;clear hR R
 refine G.rp 5 fun R hR=>?_
 refine D.aB ?_
 refine D.ps 3 ?_
 refine D.aB ?_
 refine D.ps 4 ?_
 refine D.aB ?_
 refine D.e7 2 3 8 9 11 13 62 hR ?_;clear hR R
 refine G.cd (fun h62=>?_) fun h62=>?_
 ·exact absurd h62 (by simp;omega)
 ·refine G.z8 3 2 3 8 9 13 63 64 65 ?_
  refine G.loop (fun fr C' L' μ=>∃ (j:Nat),(j<=(bi B.col o).length/\((bi B.col o).take j).all HB=true)/\fr=[(2,[],.slice Af 2 cf),(3,[],.pointer (some ⟨b3,0,none⟩)),(8,[],.pointer (some ⟨b8,0,none⟩)),(9,[],strV (qtx (hgtQ o z))),(13,[],.slice Aw (ti::r).length cw),(63,[],.slice Al (bi B.col o).length cl),(64,[],.int .i64 (bi B.col o).length),(65,[],.int .i64 j)]/\L'=[]/\μ=(bi B.col o).length-j) (h_8 2 3 8 9 13 63 64 65) ⟨0,⟨Nat.zero_le _,rfl⟩,rfl,rfl,rfl⟩ (fun fr C0' L0' m hle0 hI=>?_)
  obtain ⟨j,⟨hj,hall⟩,rfl,rfl,rfl⟩:=hI
  refine G.z9 1 2 3 8 9 13 63 64 65 66 ?_
  refine G.cd (fun h66=>?_) fun h66=>?_
  ·have hjl:j<(bi B.col o).length:=by
    have:=of_decide_eq_true h66
    omega
   obtain ⟨k,hkj⟩:∃ k,(bi B.col o)[j]?=some k:=⟨(bi B.col o)[j],List.getElem?_eq_getElem hjl⟩
   have hk2:=hs2 k (List.mem_of_getElem? hkj)
   have hkc:k<B.col.length:=by
    have:=surfN_in (List.mem_of_getElem? hkj)
    omega
   obtain ⟨w,hw⟩:∃ w,vs[k]?=some w:=⟨vs[k]'(by omega),List.getElem?_eq_getElem _⟩
   have hstep:=all_step (p:=HB) hkj
   rw [hall,Bool.true_and] at hstep
   refine G.rg fun R hR=>?_
   refine D.ap (hlv.mono mup) rfl rfl rfl rfl rfl rfl rfl rfl rfl rfl (by omega) (bl hkj) (fun _=>rfl) (fun p67 hp67=>?_)
   refine D.aa hp67 ?_
   refine D.q9 1 2 3 8 9 13 16 63 64 65 hR ?_;clear hR R
   refine G.rp 7 fun R hR=>?_
   refine D.aB ?_
   refine D.e10 2 3 8 9 13 16 63 64 65 76 hR ?_;clear hR R
   refine G.cd (fun h76=>?_) fun h76=>?_
   ·exact absurd h76 (by simp;omega)
   ·refine G.aI [0,1,2,3,4,5,6,7,8,9,10,11,12,13] [(8,1)] rfl (by kernel_rfl) (fun R hB hR=>?_)
    refine D.ae ?_
    refine D.aa (bkT hb2 2) ?_
    refine D.ps 2 ?_
    refine D.ap (hvs.mono mup) rfl rfl rfl rfl rfl rfl rfl rfl rfl rfl (by omega) (bl hw) (fun _=>rfl) (fun p82 hp82=>?_)
    refine D.aa hp82 ?_
    refine D.ae ?_
    refine D.aa (bkT hb5 2) ?_
    refine D.bd (fun _=>(hval _ mup k w hk2 hw)) ?_
    refine D.ps 5 ?_
    refine D.e11 2 3 8 9 13 16 17 18 63 64 65 hR ?_;clear hR hB R
    refine G.aI [0,1,2,3,4,5,6,7,8,9,10,11,12,13,14,15] [(9,1)] rfl (by kernel_rfl) (fun R hB hR=>?_)
    refine D.ae ?_
    refine D.aa (bkT hb2 2) ?_
    refine D.ps 2 ?_
    refine D.ap (hvs.mono mup) rfl rfl rfl rfl rfl rfl rfl rfl rfl rfl (by omega) (bl hw) (fun _=>rfl) (fun p94 hp94=>?_)
    refine D.aa hp94 ?_
    refine D.ae ?_
    refine D.ap (hwv.mono mup) rfl rfl rfl rfl rfl rfl rfl rfl rfl rfl (by omega) (rfl:(List.map encN (ti::r))[0]?=some (encN ti)) (fun _=>rfl) (fun p97 hp97=>?_)
    refine D.aa hp97 ?_
    refine D.bd (fun _=>(hslo _ mup k w hk2 hw)) ?_
    refine D.ps 3 ?_
    refine D.aq (fun b19=>?_)
    refine D.aj (j:=0) ?_
    refine D.ae ?_
    refine D.e13 2 3 8 9 13 16 17 18 19 20 63 64 65 hR ?_;clear hR hB R
    refine G.freeze 0 rfl (fun C19 hle19 hb19=>?_)
    refine G.rp 5 fun R hR=>?_
    refine D.aB ?_
    refine D.e12 2 3 8 9 13 16 17 19 63 64 65 107 hR ?_;clear hR R
    refine G.cd (fun h107=>?_) fun h107=>?_
    ·exact absurd h107 (by decide)
    ·refine G.rp 2 fun R hR=>?_
     refine D.af (rcompare2_fn _ (hT.mono mup) (onQ B.pts (sfc F k) t p) (hgtQ o z) 22 (by decide) (by decide) (hon k) hFi.qh) rfl rfl rfl rfl rfl rfl rfl (fun _=>rfl) ?_
     refine D.q11 1 2 3 8 9 13 16 19 21 63 64 65 hR ?_;clear hR R
     refine G.rp 1 fun R hR=>?_
     refine D.aa (bkT hb5 1) ?_
     refine D.e12 2 3 8 9 13 16 19 21 63 64 65 112 hR ?_;clear hR R
     refine G.z13 2 2 3 8 9 13 16 19 21 63 64 65 112 137 ?_
     refine G.cd (fun h137=>?_) fun h137=>?_
     ·have hk1:o.kind=1:=ci h137
      obtain ⟨x,hx⟩:∃ x,B.col[k]?=some x:=⟨B.col[k],List.getElem?_eq_getElem hkc⟩
      have hux:=hun k x hx
      have hHk:HB k=if k=upN B o then !decide (onQ B.pts (sfc F k) t p<hgtQ o z) else !decide (hgtQ o z<onQ B.pts (sfc F k) t p):=by rw [hbk];unfold holdB;rw [if_pos hk1]
      have hab:(x.unit == o.upper)=decide (k=upN B o):=by
       rw [Bool.eq_iff_iff,beq_iff_eq,decide_eq_true_eq]
       exact hux
      refine G.aI [0,1,2,3,4,5,6,7,8,9] [] rfl (by kernel_rfl) (fun R hB hR=>?_)
      refine D.ae ?_
      refine D.aa (bkT hb2 1) ?_
      refine D.ae ?_
      refine D.ap (h4.mono mup) rfl rfl rfl rfl rfl rfl rfl rfl rfl rfl (by omega) (bl hx) (fun _=>rfl) (fun p142 hp142=>?_)
      refine D.fJ hp142 rfl rfl rfl rfl rfl rfl rfl rfl rfl rfl (fun _=>rfl) (fun p143 hp143=>?_)
      refine D.aa hp143 ?_
      refine D.ae ?_
      refine D.aa (bkT hb5 1) ?_
      refine D.ps 2 ?_
      refine D.e10 2 3 8 9 13 21 22 63 64 65 hR ?_;clear hR hB R
      refine G.rp 4 fun R hR=>?_
      refine D.ay ?_
      refine D.ps 6 ?_
      refine D.ay ?_
      refine D.aB ?_
      refine D.e9 2 3 8 9 13 63 64 65 160 hR ?_;clear hR R
      refine G.cd (fun h160=>?_) fun h160=>?_
      ·have h160':(decide (k=upN B o) && decide (cmpQ (onQ B.pts (sfc F k) t p) (hgtQ o z)<0) || !decide (k=upN B o) && decide (cmpQ (onQ B.pts (sfc F k) t p) (hgtQ o z) > 0))=true:=by rw [<- hab];exact h160
       have hno:HB k=false:=by
        rw [cmpQ_lt0,cmpQ_gt] at h160'
        rw [hHk]
        by_cases hku:k=upN B o
        ·rw [if_pos hku]
         simpa [hku] using h160'
        ·rw [if_neg hku]
         simpa [hku] using h160'
       refine G.z2 2 6 7 ?_
       refine G.aA (G.dropAll (G.aP rfl rfl rfl ?_))
       exact ⟨by rw [all_miss hkj hno],rfl⟩
      ·have h160':(decide (k=upN B o) && decide (cmpQ (onQ B.pts (sfc F k) t p) (hgtQ o z)<0) || !decide (k=upN B o) && decide (cmpQ (onQ B.pts (sfc F k) t p) (hgtQ o z) > 0))=false:=by rw [<- hab];exact h160
       have hyes:HB k=true:=by
        rw [cmpQ_lt0,cmpQ_gt] at h160'
        rw [hHk]
        by_cases hku:k=upN B o
        ·rw [if_pos hku]
         simpa [hku] using h160'
        ·rw [if_neg hku]
         simpa [hku] using h160'
       refine G.rg fun R hR=>?_
       refine D.am _ ?_
       refine D.q8 1 2 3 8 9 13 63 64 65 hR ?_;clear hR R
       refine G.au (m':=(bi B.col o).length-(j+1)) (by omega) mup (h_8 2 3 8 9 13 63 64 65) ⟨j+1,⟨by omega,by rw [hstep,hyes]⟩,rfl,rfl,rfl⟩
     ·have hk1:¬ o.kind=1:=by
       intro e
       rw [show ((o.kind == 1)=true) by rw [e];rfl] at h137
       cases h137
      refine G.z11 2 2 3 8 9 13 19 21 63 64 65 161 ?_
      refine G.cd (fun h161=>?_) fun h161=>?_
      ·have hk2':o.kind=2:=ci h161
       have hHk:HB k=decide (onQ B.pts (sfc F k) t p=hgtQ o z):=by rw [hbk];unfold holdB;rw [if_neg hk1,if_pos hk2']
       have hz:=cmpQ_eq (onQ B.pts (sfc F k) t p) (hgtQ o z)
       refine G.z9 2 2 3 8 9 13 63 64 65 164 ?_
       refine G.cd (fun h164=>?_) fun h164=>?_
       ·have h164':(!(cmpQ (onQ B.pts (sfc F k) t p) (hgtQ o z) == 0))=true:=h164
        have hno:HB k=false:=by
         rw [hz] at h164'
         rw [hHk,decide_eq_false_iff_not]
         intro e
         rw [decide_eq_true e.symm] at h164'
         cases h164'
        refine G.z2 2 6 7 ?_
        refine G.aA (G.dropAll (G.aP rfl rfl rfl ?_))
        exact ⟨by rw [all_miss hkj hno],rfl⟩
       ·have h164':(!(cmpQ (onQ B.pts (sfc F k) t p) (hgtQ o z) == 0))=false:=h164
        have hyes:HB k=true:=by
         rw [hz] at h164'
         rw [hHk]
         by_cases e:hgtQ o z=onQ B.pts (sfc F k) t p
         ·exact decide_eq_true e.symm
         ·rw [decide_eq_false e] at h164'
          cases h164'
        refine G.rg fun R hR=>?_
        refine D.am _ ?_
        refine D.q8 1 2 3 8 9 13 63 64 65 hR ?_;clear hR R
        refine G.au (m':=(bi B.col o).length-(j+1)) (by omega) mup (h_8 2 3 8 9 13 63 64 65) ⟨j+1,⟨by omega,by rw [hstep,hyes]⟩,rfl,rfl,rfl⟩
      ·have hk2':¬ o.kind=2:=by
        intro e
        rw [show ((o.kind == 2)=true) by rw [e];rfl] at h161
        cases h161
       obtain ⟨⟨hn1,hn2,hn3⟩,hn4,hn5,hn6,hn7⟩:=hFi.nr hk1 hk2'
       have e1:=(bU hn1).1
       have e2:=(bU hn2).1
       have e3:=(bU hn3).1
       have hHk:HB k=(decide ((aZ B.pts (sfc F k) t).1*bg o.nz=-bg o.nx) && decide ((aZ B.pts (sfc F k) t).2*bg o.nz=-bg o.ny)):=by rw [hbk];unfold holdB;rw [if_neg hk1,if_neg hk2']
       have hm1:∀ D:Mem,C.le D->Gives cx.P 68 [strV (qtx (aZ B.pts (sfc F k) t).1),strV o.nz] D (strV (qtx ((aZ B.pts (sfc F k) t).1*bg o.nz))):=fun D hD=>by
        have h:=rmul2_fn D (hT.mono hD) (aZ B.pts (sfc F k) t).1 (bg o.nz) 11 (by decide) (by decide) (hsl k).1 hn6
        rw [<- e3] at h
        exact h
       have hm2:∀ D:Mem,C.le D->Gives cx.P 68 [strV (qtx (aZ B.pts (sfc F k) t).2),strV o.nz] D (strV (qtx ((aZ B.pts (sfc F k) t).2*bg o.nz))):=fun D hD=>by
        have h:=rmul2_fn D (hT.mono hD) (aZ B.pts (sfc F k) t).2 (bg o.nz) 11 (by decide) (by decide) (hsl k).2 hn6
        rw [<- e3] at h
        exact h
       have hg1:∀ D:Mem,Gives cx.P 44 [strV o.nx] D (strV (qtx (-bg o.nx))):=fun D=>by
        have h:=neg2_fn D (bg o.nx) (Nat.le_trans (bA hn4 (by decide)) (by decide))
        rw [<- e1] at h
        exact h
       have hg2:∀ D:Mem,Gives cx.P 44 [strV o.ny] D (strV (qtx (-bg o.ny))):=fun D=>by
        have h:=neg2_fn D (bg o.ny) (Nat.le_trans (bA hn5 (by decide)) (by decide))
        rw [<- e2] at h
        exact h
       refine G.aI [0,1,2,3,4,5,6,7,8,9,10,11,12,13,14,15,16,17,18,19,20,21,22,23] [(5,1),(9,1)] rfl (by kernel_rfl) (fun R hB hR=>?_)
       refine D.ae ?_
       refine D.aa (bkT hb19 1) ?_
       refine D.ps 2 ?_
       refine D.aa (bkT hb5 1) ?_
       refine D.bd (fun _=>(hm1 _ mup)) ?_
       refine D.ps 2 ?_
       refine D.aa (bkT hb5 1) ?_
       refine D.bd (fun _=>(hg1 _)) ?_
       refine D.ps 3 ?_
       refine D.aY rfl rfl rfl rfl rfl rfl (fun _=>PtrTo.blockT (Mem.get hb19 mup) _ 1) rfl rfl rfl ?_
       refine D.ps 2 ?_
       refine D.aY rfl rfl rfl rfl rfl rfl (fun _=>PtrTo.blockT (Mem.get hb5 mup) _ 1) rfl rfl rfl ?_
       refine D.bd (fun _=>(hm2 _ mup)) ?_
       refine D.ps 2 ?_
       refine D.aY rfl rfl rfl rfl rfl rfl (fun _=>PtrTo.blockT (Mem.get hb5 mup) _ 1) rfl rfl rfl ?_
       refine D.bd (fun _=>(hg2 _)) ?_
       refine D.ae ?_
       refine D.aB ?_
       refine D.e9 2 3 8 9 13 63 64 65 136 hR ?_;clear hR hB R
       refine G.cd (fun h136=>?_) fun h136=>?_
       ·have h136':(!decide ((aZ B.pts (sfc F k) t).1*bg o.nz=-bg o.nx) || !decide ((aZ B.pts (sfc F k) t).2*bg o.nz=-bg o.ny))=true:=by rw [<- qtxEq,<- qtxEq];exact h136
        have hno:HB k=false:=by
         rw [<- Bool.not_and,Bool.not_eq_true'] at h136'
         rw [hHk]
         exact h136'
        refine G.z2 2 6 7 ?_
        refine G.aA (G.dropAll (G.aP rfl rfl rfl ?_))
        exact ⟨by rw [all_miss hkj hno],rfl⟩
       ·have h136':(!decide ((aZ B.pts (sfc F k) t).1*bg o.nz=-bg o.nx) || !decide ((aZ B.pts (sfc F k) t).2*bg o.nz=-bg o.ny))=false:=by rw [<- qtxEq,<- qtxEq];exact h136
        have hyes:HB k=true:=by
         rw [<- Bool.not_and,Bool.not_eq_false'] at h136'
         rw [hHk]
         exact h136'
        refine G.rg fun R hR=>?_
        refine D.am _ ?_
        refine D.q8 1 2 3 8 9 13 63 64 65 hR ?_;clear hR R
        refine G.au (m':=(bi B.col o).length-(j+1)) (by omega) mup (h_8 2 3 8 9 13 63 64 65) ⟨j+1,⟨by omega,by rw [hstep,hyes]⟩,rfl,rfl,rfl⟩
  ·have hjl:j=(bi B.col o).length:=by
    have:=of_decide_eq_false h66
    omega
   rw [hjl,List.take_length] at hall
   refine G.z2 2 6 7 ?_
   refine G.aA (G.dropAll (G.aP rfl rfl rfl ?_))
   exact ⟨by rw [hall],rfl⟩

theorem upK_le (S:Sht)(H:Hts)(l:List Sgt)(s:Sgt)(i:Nat):upN (bh S H l) (obsK S s i)<=2:=by
 obtain ⟨j,hj,e⟩:=obsK_upper S s i
 unfold upN
 rw [e]
 show (idxF (isU (labU j)) colK 0).toNat<=2
 rw [lab_idx j hj]
 omega
theorem fails_mem (B:Bk)(RO:Nat->List RowQ)(x:List Rat)(i:Nat)(hi:i<B.obs.length):((failsL B RO x).any fun y=>y == (i:Int))=(RO i).any (badR x):=by
 unfold failsL
 rw [List.any_append]
 have h1:((if (dE B).any (badR x) then [(-1:Int)] else []).any fun y=>y == (i:Int))=false:=by
  split
  ·simp only [List.any_cons,List.any_nil,Bool.or_false]
   exact decide_eq_false (by omega)
  ·rfl
 rw [h1,Bool.false_or,List.any_map]
 cases hb:(RO i).any (badR x) with
 | true =>
  rw [List.any_eq_true]
  exact ⟨i,List.mem_filter.2 ⟨List.mem_range.2 hi,hb⟩,by simp⟩
 | false =>
  rw [List.any_eq_false]
  intro j hj h
  have e:j=i:=by
   have h2:(j:Int)=i:=by simpa using h
   omega
  subst e
  rw [(List.mem_filter.1 hj).2] at hb
  cases hb
theorem mean_of (S:Sht)(H:Hts)(l:List Sgt)(i:Nat)(s:Sgt)(F:List Rat × List Rat)(hs:SgtR s)(hsl:l[i]?=some s)(h0:F.1.length=(bh S H l).pts.length)(h1:F.2.length=(bh S H l).pts.length) :
  (roK S H l i).any (badR (F.1++F.2))=!((bi (bh S H l).col (obsK S s i)).all fun k=>holdB (obsK S s i) (upN (bh S H l) (obsK S s i)) (hgtQ (obsK S s i) (zK S H s)) k (onQ (bh S H l).pts (sfc F k) (tK S s) (ptAt S s)) (aZ (bh S H l).pts (sfc F k) (tK S s))):=by
 have hro:roK S H l i=rowsO (bh S H l) (obsK S s i) (ptAt S s) (tK S s) (zK S H s):=by
  unfold roK
  rw [List.getD_eq_getElem?_getD,hsl]
  rfl
 have hG:=(dO (S.kd % 8) (Nat.mod_lt _ (by decide)) S.a S.b S.h).1
 have htm:=List.mem_of_getElem? (locK S s hs).2
 have hti:=hG.ok.ins _ htm
 have hd:=tri_diff hG.ok htm
 rw [hro]
 exact rows_mean rfl rfl h0 h1 ⟨hti.1,hti.2.1,hti.2.2,hd.1,hd.2.1,hd.2.2⟩ (ep hG.ok htm) (obsK_up S s i) (upK_le S H l s i) (fun k1 k2=>(obsK_nr S s i k1 k2).2.2.2.2)
theorem lmeans_fn (C:Mem)(hT:Tabs C)(pv:Value)(S:Sht)(H:Hts)(l:List Sgt)(X:Hts × Hts)(hP:PlanIn C pv S H l)(hPl:PlanR S H l)(hX:HtsR X.1/\HtsR X.2) :
  Gives cx.P 9 [pv,.agg ⟨htsC2 X⟩] C (.bool true):=by
 obtain ⟨A,c,rfl,hsv⟩:=hP
 have hmx:maxLen<=9223372036854775807:=by simp [maxLen]
 have hRi:=bookK_rich S H l hPl.s
 have hG:=hRi.good
 have hbp:=bookK_bp S H l
 have hbk:bp (bh S H l)=(bh S H l).pts.length:=rfl
 have hon:=bookK_on S H l
 obtain ⟨hbT,hbO⟩:=bookRows S H l hPl.s
 obtain ⟨F0,hF0⟩:∃ F,fsK (bh S H l).pts.length X.1=F:=⟨_,rfl⟩
 obtain ⟨F1,hF1⟩:∃ F,fsK (bh S H l).pts.length X.2=F:=⟨_,rfl⟩
 have hl0:F0.length=(bh S H l).pts.length:=by rw [<- hF0];exact fsK_len _ _
 have hl1:F1.length=(bh S H l).pts.length:=by rw [<- hF1];exact fsK_len _ _
 have hq0:∀ q∈F0,QB 22 q:=by rw [<- hF0];exact fun q hq=>(fsK_qb _ _ q hq).le (by decide)
 have hq1:∀ q∈F1,QB 22 q:=by rw [<- hF1];exact fun q hq=>(fsK_qb _ _ q hq).le (by decide)
 have hq01:∀ l∈[F0,F1],∀ q∈l,QB 22 q:=by
  intro m hm
  simp only [List.mem_cons,List.not_mem_nil,or_false] at hm
  rcases hm with rfl | rfl
  ·exact hq0
  ·exact hq1
 have hq0n:∀ l∈[F0,[]],∀ q∈l,QB 22 q:=by
  intro m hm
  simp only [List.mem_cons,List.not_mem_nil,or_false] at hm
  rcases hm with rfl | rfl
  ·exact hq0
  ·exact fun q hq=>absurd hq List.not_mem_nil
 have hxh:∀ y∈F0++F1,Hlf y:=by
  intro y hy
  rcases List.mem_append.1 hy with h | h
  ·rw [<- hF0] at h;exact fsK_hlf _ _ y h
  ·rw [<- hF1] at h;exact fsK_hlf _ _ y h
 have hxl:(F0++F1).length=2*(bh S H l).pts.length:=by rw [List.length_append];omega
 have hflat:[F0,F1].flatten=F0++F1:=by simp
 have hE0:valE (bs (bh S H l)) (bp (bh S H l)) (txs [F0,F1])=0:=(valE_txs hl0 hq0).trans (fld_ok hl1 hq1)
 have hE1:valE (bs (bh S H l)) (bp (bh S H l)) (txs [F0])=5:=rfl
 have hE2:valE (bs (bh S H l)) (bp (bh S H l)) (txs [F0,[]])=5:=(valE_txs hl0 hq0).trans (by
  unfold fldZ
  rw [if_neg (by simp only [List.map_nil,List.length_nil];omega)])
 have hdk:(∀ r∈dE (bh S H l),DotOk r (F0++F1))/\∀ i,i<(bh S H l).obs.length->∀ r∈roK S H l i,DotOk r (F0++F1) :=
  ⟨fun r hr=>dotOk_of (hbT r hr).2.1 (hbT r hr).1 (by rw [hxl];exact (hbT r hr).2.2) hxh (by omega),fun i hi r hr=>dotOk_of (hbO i hi r hr).2.1 (hbO i hi r hr).1 (by rw [hxl];exact (hbO i hi r hr).2.2) hxh (by omega)⟩
 obtain ⟨FL,hFL⟩:∃ FL,failsL (bh S H l) (roK S H l) (F0++F1)=FL:=⟨_,rfl⟩
 refine Fn.it (by kernel_rfl) Tryz.func9 80 fun w0=>?_
 refine G.rg fun R hR=>?_
 refine D.aE (fun b2=>?_)
 refine D.aE (fun b3=>?_)
 refine D.q2 1 2 3 hR ?_
 refine G.freeze 1 rfl (fun C1 hle1 hb1=>?_)
 refine G.freeze 0 rfl (fun C2 hle2 hb2=>?_)
 refine G.rg fun R hR=>?_
 refine D.ah (known_fn _ (hT.mono mup)) ?_
 refine D.ps 3 ?_
 refine D.aY rfl rfl rfl rfl rfl rfl (fun _=>PtrTo.blockT (Mem.get hb1 mup) _ 1) rfl rfl rfl ?_
 refine D.ps 2 ?_
 refine D.aB ?_
 refine D.e3 2 3 21 hR ?_
 refine G.cd (fun h21=>?_) fun h21=>?_
 ·refine G.rg fun R hR=>?_
  refine D.ah (known_fn _ (hT.mono mup)) ?_
  refine D.q1 1 4 hR ?_
  refine G.rf ?_
  exact ⟨rfl,rfl⟩
 ·refine G.rg fun R hR=>?_
  refine D.aa (bkT hb1 12) ?_
  refine D.aU (make24_fn _ (hT.mono mup) S H _ l hPl.kd hPl.h (hsv.mono mup) hPl.s hG) (fun v24 C24 hle24 hq24=>?_)
  obtain ⟨v1,v2,tv,cv,ov,rfl,g1,g2,g3,g4,g5⟩:=id hq24.ex
  obtain ⟨B1,d1,rfl,_⟩:=id g1
  obtain ⟨B2,d2,rfl,_⟩:=id g2
  obtain ⟨B3,d3,rfl,_⟩:=id g3
  obtain ⟨B4,d4,rfl,_⟩:=id g4
  obtain ⟨B5,d5,rfl,_⟩:=id g5
  simp only [List.length_map] at hq24 ⊢
  refine D.aq (fun b5=>?_)
  refine D.aj (j:=0) ?_
  refine D.e2 3 5 hR ?_
  refine G.freeze 0 rfl (fun C5 hle5 hb5=>?_)
  refine G.aI [0,1,2,3,5,6,7,8,4,9,10,11] [] rfl (by kernel_rfl) (fun R hB hR=>?_)
  refine D.ae ?_
  refine D.aa (bkT hb5 2) ?_
  refine D.aw (_) rfl rfl rfl rfl rfl rfl rfl rfl rfl (fun _=>⟨by decide,by decide,rfl⟩) rfl rfl ?_
  refine D.aa (bkT hb2 7) ?_
  refine D.ae ?_
  refine D.aa (bkT hb5 2) ?_
  refine D.aw (_) rfl rfl rfl rfl rfl rfl rfl rfl rfl (fun _=>⟨by decide,by decide,rfl⟩) rfl rfl ?_
  refine D.aa (bkT hb2 7) ?_
  refine D.aM (d8 _ (hT.mono mup) _ _ (bh S H l).pts.length B1 d1 X.1 rfl (by omega) hX.1) rfl rfl rfl rfl rfl rfl rfl (fun _=>rfl) (fun v29 C29 hle29 hq29=>?_)
  refine D.aM (d8 _ (hT.mono mup) _ _ (bh S H l).pts.length B1 d1 X.2 rfl (by omega) hX.2) rfl rfl rfl rfl rfl rfl rfl (fun _=>rfl) (fun v34 C34 hle34 hq34=>?_)
  rw [hF0] at hq29
  obtain ⟨P0,k0,rfl,_⟩:=id hq29
  simp only [List.length_map] at hq29 ⊢
  rw [hF1] at hq34
  obtain ⟨P1,k1,rfl,_⟩:=id hq34
  simp only [List.length_map] at hq34 ⊢
  refine D.ai [[.slice P0 F0.length k0],[.slice P1 F1.length k1]] (fun p35 C35 hle35 hs35=>?_)
  refine D.q2 1 5 6 hR ?_
  obtain ⟨A6,c6,rfl,hc6,_⟩:=id hs35
  rw [show ([[.slice P0 F0.length k0],[.slice P1 F1.length k1]]:List (List Value)).length=2 from rfl] at hs35 hc6 ⊢
  have hff:FieldsIn _ _ (txs [F0,F1]):=fields2 hs35 (hq29.mono mup) (hq34.mono mup)
  refine G.rg fun R hR=>?_
  refine D.aa (bkT hb5 5) ?_
  refine D.ae ?_
  refine D.aM (fails_fn _ (hT.mono mup) _ _ (bh S H l) _ (roK S H l) [F0,F1] (hq24.mono mup) hRi (by omega) (hff.mono mup) hq01 (by decide:2<=100) (by intro _;rw [hflat];exact ⟨by omega,hdk⟩)) rfl rfl rfl rfl rfl rfl rfl (fun _=>rfl) (fun v39 C39 hle39 hq39=>?_)
  obtain ⟨ov2,rfl,hov⟩:=hq39
  rw [hE0,hflat,if_pos rfl] at hov
  rw [hE0]
  have hFLl:(failsL (bh S H l) (roK S H l) (F0++F1)).length<=7:=by
   unfold failsL
   rw [List.length_append,List.length_map]
   have:=List.length_filter_le (fun i=>(roK S H l i).any (badR (F0++F1))) (List.range (bh S H l).obs.length)
   rw [List.length_range] at this
   split
   ·simp only [List.length_singleton];omega
   ·simp only [List.length_nil];omega
  have hmem:=fails_mem (bh S H l) (roK S H l) (F0++F1)
  rw [hFL] at hov hFLl hmem
  obtain ⟨Ao,co,rfl,_⟩:=id hov
  rw [List.length_map] at hov ⊢
  refine D.q4 5 5 6 7 8 hR ?_
  refine G.z4 2 5 6 7 43 ?_
  refine G.cd (fun h43=>?_) fun h43=>?_
  ·exact absurd h43 (by decide)
  ·refine G.z4 1 5 6 7 9 ?_
   refine G.loop (fun fr C' L' μ=>∃ (i:Nat),(i<=(bh S H l).obs.length)/\fr=[(5,[],.pointer (some ⟨b5,0,none⟩)),(6,[],.slice A6 2 c6),(7,[],.slice Ao FL.length co),(9,[],.int .i64 i)]/\L'=[]/\μ=(bh S H l).obs.length-i) (h_4 5 6 7 9) ⟨0,Nat.zero_le _,rfl,rfl,rfl⟩ (fun fr C0' L0' m hle0 hI=>?_)
   obtain ⟨i,hi,rfl,rfl,rfl⟩:=hI
   refine G.rp 2 fun R hR=>?_
   refine D.aa (bkT hb5 1) ?_
   refine D.q5 2 5 6 7 9 48 hR ?_
   refine G.cd (fun h48=>?_) fun h48=>?_
   ·have hil:i<(bh S H l).obs.length:=by
     have:=of_decide_eq_true h48
     omega
    have ho:=List.getElem?_eq_getElem hil
    obtain ⟨hi6,s,hsl,he⟩:=eT ho
    rw [he] at ho
    have hsr:=hPl.s s (List.mem_of_getElem? hsl)
    have hmean:=mean_of S H l i s (F0,F1) hsr hsl hl0 hl1
    have hmi:=hmem i hil
    rw [show (roK S H l i).any (badR (F0++F1))=_ from hmean] at hmi
    have hsub0:∀ k,∃ X,sfc (F0,F1) k=fsK (bh S H l).pts.length X:=fun k=>by
     unfold sfc
     split
     ·exact ⟨X.1,hF0.symm⟩
     ·exact ⟨X.2,hF1.symm⟩
    have hA:=ep (dO (S.kd % 8) (Nat.mod_lt _ (by decide)) S.a S.b S.h).1.ok (List.mem_of_getElem? (locK S s hsr).2)
    refine G.z5 1 5 6 7 9 10 ?_
    refine G.z6 1 5 6 7 9 10 11 ?_
    refine G.loop (fun fr C' L' μ=>∃ (j:Nat),(j<=FL.length)/\fr=[(5,[],.pointer (some ⟨b5,0,none⟩)),(6,[],.slice A6 2 c6),(7,[],.slice Ao FL.length co),(9,[],.int .i64 i),(10,[],.bool ((FL.take j).any fun y=>y == (i:Int))),(11,[],.int .i64 j)]/\L'=[]/\μ=FL.length-j) (h_6 5 6 7 9 10 11) ⟨0,Nat.zero_le _,rfl,rfl,rfl⟩ (fun fr C1' L1' m hle1 hI=>?_)
    obtain ⟨j,hj,rfl,rfl,rfl⟩:=hI
    refine G.z7 4 5 6 7 9 10 11 54 ?_
    refine G.cd (fun h54=>?_) fun h54=>?_
    ·have hjl:j<FL.length:=by
      have:=of_decide_eq_true h54
      omega
     obtain ⟨y,hy⟩:∃ y,FL[j]?=some y:=⟨FL[j],List.getElem?_eq_getElem hjl⟩
     have hst:((FL.take (j+1)).any fun y=>y == (i:Int))=(((FL.take j).any fun y=>y == (i:Int)) || (y == (i:Int))):=by rw [List.take_add_one,hy,List.any_append];simp
     refine G.rp 4 fun R hR=>?_
     refine D.index rfl rfl rfl rfl rfl rfl rfl rfl rfl rfl (fun hg=>⟨hov.mono mup,by omega,bl hy⟩) (fun _=>rfl) rfl (fun p61 hp61=>?_)
     refine D.aY rfl rfl rfl rfl rfl rfl hp61 rfl rfl rfl ?_
     refine D.ps 2 ?_
     refine D.aB ?_
     refine D.q6 1 5 6 7 9 10 11 hR ?_
     refine G.rp 1 fun R hR=>?_
     refine D.am _ ?_
     refine D.q6 1 5 6 7 9 10 11 hR ?_
     rw [show ((((FL.take j).any fun y=>y == (i:Int)) || (y == (i:Int))))=((FL.take (j+1)).any fun y=>y == (i:Int)) from hst.symm]
     refine G.au (m':=FL.length-(j+1)) (by omega) mup (h_6 5 6 7 9 10 11) ⟨j+1,(by omega),rfl,rfl,rfl⟩
    ·have hjl:j=FL.length:=by
      have:=of_decide_eq_false h54
      omega
     rw [hjl,List.take_length,hmi]
     refine G.rg fun R hR=>?_
     refine D.aa (bkT hb5 5) ?_
     refine D.ps 2 ?_
     refine D.af (lholds_fn _ (hT.mono mup) _ _ (bh S H l) _ i (obsK S s i) (ptAt S s) (tiK S s) (tK S s) (zK S H s) (F0,F1) (hq24.mono mup) hG hRi.br hRi.bz hRi.terr ho (fineK S H l s i hsr) (hff.mono mup) (obsK_only S H l s i) (fun k hk=>surfN_in hk) (fun k=>by obtain ⟨Y,e⟩:=hsub0 k;rw [e];exact fsK_len _ _) (fun k q hq=>by obtain ⟨Y,e⟩:=hsub0 k;rw [e] at hq;exact (fsK_qb _ _ q hq).le (by decide)) (fun k=>by obtain ⟨Y,e⟩:=hsub0 k;rw [e];exact (on_qb (fun j=>cor_qtr j) hA (fun j=>fz_hlf j) (ptAt_qtr S s hsr)).le (by decide)) (fun k=>by obtain ⟨Y,e⟩:=hsub0 k;rw [e];exact (slope_qp (fun j=>cor_qtr j) hA (fun j=>fz_hlf j)).le (by decide))) rfl rfl rfl rfl rfl rfl rfl (fun _=>rfl) ?_
     refine D.q7 5 5 6 7 9 10 12 13 hR ?_
     refine G.rp 6 fun R hR=>?_
     refine D.aB ?_
     refine D.e5 5 6 7 9 79 hR ?_
     refine G.cd (fun h79=>?_) fun h79=>?_
     ·exact absurd h79 (by simp)
     ·refine G.rp 1 fun R hR=>?_
      refine D.am _ ?_
      refine D.q4 1 5 6 7 9 hR ?_
      refine G.au (m':=(bh S H l).obs.length-(i+1)) (by omega) mup (h_4 5 6 7 9) ⟨i+1,(by omega),rfl,rfl,rfl⟩
   ·refine G.z1 1 4 ?_
    refine G.rf ?_
    exact ⟨rfl,rfl⟩
open Go Go.Jog Go.ChangeShapes Go.WideShapes Go.ChangeAt Go.RowKit
set_option maxRecDepth 100000
set_option maxHeartbeats 40000000

namespace lawConstraintMeans
theorem laid_met (os:Os)(args:Array Value):laidMetH Tryz.prog Rows.constraintMeansRow.laid ((laidWorld os).forCall (fun _ _=>0) ⟨#[],args,[]⟩).memory :=
 laidMet_of_run' 8 (by kernel_rfl) (by kernel_rfl)
theorem contract (H:Type)(enc:TypeId × Value->H)(W:World)(base:Nat)(args:Array Value)(ds gs:List (DataW H))(before:List MemPlace)
  (hval:∀ (j:Nat) t v,Tryz.f9.params[j]?=some t->args[j]?=some v->Value.okWide Tryz.prog W .any base t v)
  (hW:DataW.Whole enc Tryz.prog Tryz.f9.params.toList Rows.constraintMeansSpec.vars false W args.toList ds gs before) (hL:laidMet Tryz.prog Rows.constraintMeansRow.laid W) :
  Calls Tryz.prog 9 args W fun e W'=>∃ v,e=.returned v/\Rows.constraintMeansSpec.post enc Tryz.prog Tryz.f9 false true false false W args v W':=by
 have hW':=hW
 obtain ⟨p,q,hA0,hV,rfl,hfz,hnd⟩:=hW
 have hA:DataW.TrodAll enc Tryz.prog W 0 (fun _=>true) true Tryz.f9.params.toList args.toList ds p:=hA0
 rw [Tryz.params9] at hA hval
 obtain ⟨v0,vs0,d0,ds0,p0,q0,hargs0,rfl,rfl,h0,r0⟩:=trodAll_cons hA
 obtain ⟨v1,vs1,d1,ds1,p1,q1,hargs1,rfl,rfl,h1,r1⟩:=trodAll_cons r0
 obtain ⟨rfl,rfl,rfl⟩:=trodAll_nil r1
 obtain rfl:args=#[v0,v1]:=by cases args;simp_all
 obtain ⟨rfl,rfl⟩:=trodVars_none hV
 obtain ⟨S0,G0,l0,hpl0,hpr0⟩:∃ S G l,PlanIn (memOf W) v0 S G l/\PlanR S G l:=by
  obtain ⟨cs,rfl,_⟩:=okWide_struct Tryz.underlying31 (hval 0 31 v0 rfl rfl)
  obtain ⟨n,hn⟩:=(id h0)
  exact plan_of hn
 obtain ⟨X1,rfl,hX1⟩:∃ X:Hts × Hts,v1=.agg ⟨htsC2 X⟩/\HtsR X.1/\HtsR X.2:=by
  obtain ⟨⟨cs⟩,rfl,hsz⟩:=okWide_array' Tryz.underlying82 (hval 1 82 v1 rfl rfl)
  have hc:Tryz.prog.cellsOf 82=14:=by kernel_rfl
  obtain ⟨n,hn⟩:=(id h1)
  have hl:cs.length=14:=by rw [hc] at hsz;exact hsz
  obtain ⟨X,e,hr⟩:=heights2_of hl hn
  exact ⟨X,congrArg (fun x=>Value.agg ⟨x⟩) e,hr⟩
 simp only [List.append_nil] at hW'
 have hlt0:∀ x∈p0,x.block<W.heap.size:=fun x hx=>hW'.lt x (by simp [hx])
 have hlt1:∀ x∈p1,x.block<W.heap.size:=fun x hx=>hW'.lt x (by simp [hx])
 have main:=gives_below (lmeans_fn (memOf W) (tabs_of hL) _ S0 G0 l0 X1 hpl0 hpr0 hX1)
 refine Calls.mono main fun e W' ⟨he,hb⟩=>?_
 subst he
 refine ⟨_,rfl,post_of_below (pa:=p0++(p1++([]))) (pv:=[]) hW' (fun _ _ _=>trodAll_cons_mk (shut_bool Tryz.underlying4 _) trodAll_mk0) (fun sp hsp=>?_) (fun _ _=>rfl) (by simp) hb (ok_one (by kernel_rfl) rfl (okWide_bool_mk Tryz.underlying4 _))⟩
 exact trodAll_cons_mk (WideElems.Trod_stays laidOut' (by kernel_rfl) (of_decide_eq_true (by kernel_rfl)) h0 (fun x hx=>hb.same (hlt0 x hx)) (fun x hx=>hsp x (by simp [hx]))) (trodAll_cons_mk (WideElems.Trod_stays laidOut' (by kernel_rfl) (of_decide_eq_true (by kernel_rfl)) h1 (fun x hx=>hb.same (hlt1 x hx)) (fun x hx=>hsp x (by simp [hx]))) (trodAll_mk0))

theorem reads (os:Os){H:Type}(enc:TypeId × Value->H):∃ places,DataW.whole enc Tryz.prog ((laidWorld os).forCall (fun _ _=>0) ⟨#[],#[.agg ⟨[.int .u8 0,.int .i8 0,.int .i8 0,.bool false,.int .i8 0,.int .i8 0,.int .i8 0,.int .i8 0,.int .i8 0,.int .i8 0,.bool false,.slice none 0 0]⟩,.agg ⟨[.int .i8 0,.int .i8 0,.int .i8 0,.int .i8 0,.int .i8 0,.int .i8 0,.bool false,.int .i8 0,.int .i8 0,.int .i8 0,.int .i8 0,.int .i8 0,.int .i8 0,.bool false]⟩],[]⟩).memory Tryz.f9.params.toList Rows.constraintMeansSpec.vars false (#[.agg ⟨[.int .u8 0,.int .i8 0,.int .i8 0,.bool false,.int .i8 0,.int .i8 0,.int .i8 0,.int .i8 0,.int .i8 0,.int .i8 0,.bool false,.slice none 0 0]⟩,.agg ⟨[.int .i8 0,.int .i8 0,.int .i8 0,.int .i8 0,.int .i8 0,.int .i8 0,.bool false,.int .i8 0,.int .i8 0,.int .i8 0,.int .i8 0,.int .i8 0,.int .i8 0,.bool false]⟩]:Array Value).toList 8=some ([.agg [.agg [.lit (.int .u8 0),.agg [.lit (.int .i8 0),.lit (.int .i8 0)],.lit (.bool false)],.agg [.agg [.lit (.int .i8 0),.lit (.int .i8 0),.lit (.int .i8 0),.lit (.int .i8 0),.lit (.int .i8 0),.lit (.int .i8 0)],.lit (.bool false)],.nil],.agg [.agg [.agg [.lit (.int .i8 0),.lit (.int .i8 0),.lit (.int .i8 0),.lit (.int .i8 0),.lit (.int .i8 0),.lit (.int .i8 0)],.lit (.bool false)],.agg [.agg [.lit (.int .i8 0),.lit (.int .i8 0),.lit (.int .i8 0),.lit (.int .i8 0),.lit (.int .i8 0),.lit (.int .i8 0)],.lit (.bool false)]]],[],places) :=
 ⟨[],by kernel_rfl⟩

theorem lifted (os:Os)(started:os.Started)(H:Type)(enc:TypeId × Value->H)(F:Stop.Interp) :
  ReturnsInHanded {} Tryz.checked os 9 .any ((OpenSpec.ofChange Rows.constraintMeansSpec).preRow enc Tryz.prog Tryz.f9 Rows.constraintMeansRow.domain false Rows.constraintMeansRow.laid) (((OpenSpec.ofChange Rows.constraintMeansSpec).at F).post enc Tryz.prog Tryz.f9 false true false false):=by
 obtain ⟨places,hx⟩:=reads os enc
 refine returnsInHanded_of_row (C:=Tryz.checked) (s:=OpenSpec.ofChange Rows.constraintMeansSpec) own started (by kernel_rfl) Tryz.func9
  (witness_row_at (enc:=enc) (C:=Tryz.checked) false (laidWorld os) #[.agg ⟨[.int .u8 0,.int .i8 0,.int .i8 0,.bool false,.int .i8 0,.int .i8 0,.int .i8 0,.int .i8 0,.int .i8 0,.int .i8 0,.bool false,.slice none 0 0]⟩,.agg ⟨[.int .i8 0,.int .i8 0,.int .i8 0,.int .i8 0,.int .i8 0,.int .i8 0,.bool false,.int .i8 0,.int .i8 0,.int .i8 0,.int .i8 0,.int .i8 0,.int .i8 0,.bool false]⟩] rfl (by kernel_rfl) (by kernel_rfl) (by kernel_rfl)
   (OpenSpec.preRow_of_cond 8 hx (by kernel_rfl) (fun k hk=>by cases hk) (by kernel_rfl) (laid_met os _))) ?_
 intro W base args ds gs before hval hW _ _ _ hL _ _
 exact contract H enc W base args ds gs before hval hW hL

theorem bothB {a b:Bool}(h:a=true)(k:b=true):(a && b)=true:=by rw [h,k];rfl
theorem said:Rows.ConstraintMeansSaid :=
 OpenClaim.holds_of_cond 9 Tryz.f9 rfl rfl rfl rfl rfl rfl rfl ⟨rfl,rfl,rfl,rfl,rfl⟩ rfl rfl rfl rfl rfl (by as_aux_lemma=>kernel_rfl) Tryz.func9 (by unfold joinedFacts;(repeat' (with_reducible refine bothB ?_ ?_));all_goals (as_aux_lemma=>kernel_rfl))
  (of_decide_eq_true (by as_aux_lemma=>kernel_rfl)) (by unfold Func.isWrapper;first | (rw [if_pos (by decide +kernel)];kernel_rfl) | (rw [if_neg (by decide +kernel)];exact ⟨rfl,rfl⟩))
  (fun os started H enc _ F=>by rw [OpenClaim.pre_eq_preRow];exact lifted os started H enc F)

theorem plain (f : FuncId) (fn : Func) (hf : Tryz.pinned.checked.prog.funcNamed "klippe/klippelaw25.ConstraintMeans" = some f) (hfn : Tryz.pinned.checked.prog.funcs[f]? = some fn) :
  true=Tryz.pinned.checked.prog.looks []/\∀ (j:Nat) t,fn.params[j]?=some t->Tryz.pinned.checked.prog.wantsStandIn t=false:=by
 obtain rfl : f = 9 := Option.some.inj ((show Tryz.prog.funcNamed "klippe/klippelaw25.ConstraintMeans" = some 9 by kernel_rfl).symm.trans hf) |>.symm
 obtain rfl:fn=Tryz.f9:=(Option.some.inj (Tryz.func9.symm.trans hfn)).symm
 refine ⟨by kernel_rfl,fun j t ht=>?_⟩
 rw [Tryz.params9] at ht
 have hm:=Array.mem_of_getElem? ht
 simp only [List.mem_toArray,List.mem_cons,List.not_mem_nil,or_false] at hm
 rcases hm with rfl | rfl
 ·exact (show Tryz.prog.wantsStandIn 31=false by kernel_rfl)
 ·exact (show Tryz.prog.wantsStandIn 82=false by kernel_rfl)
end lawConstraintMeans

theorem constraintMeans_card:Rows.ConstraintMeansCardSaid :=
 Claim7.holds_tied_plain_at .later [] _ _ _ _ lawConstraintMeans.said (fun _ h=>by cases h) (by kernel_rfl) (fun _ h=>by cases h) constraintMeans_row_tie rfl ⟨rfl,rfl⟩ (by kernel_rfl) rfl lawConstraintMeans.plain (by kernel_rfl)
#print axioms constraintMeans_card
end Go.Proofs.YtmgkekjbbodicaaGreatDoor
