/- Laws that the proofs of this seat share, part 15. -/
import Derived.Test.YthnpijdjlddpmaaGreatDoorG14
import Derived.Test.YthnpijdjlddpmaaGreatDoorShelf
set_option maxHeartbeats 4000000
namespace Go.Proofs.YthnpijdjlddpmaaGreatDoor
open Go.Proofs.Tryz
open Go Go.Jog
set_option maxRecDepth 100000
variable {C:Mem}{args:List Value}{f:FuncId}{l:List Nat}
section
variable {B:Bk} {RO:Nat->List RowQ} {l:List Nat} {n:Nat}
theorem Cl {T:List RowQ}{s:SrcQ}(h:s∈aZ T RO l):(s.n=-1/\s.r∈T)∨∃ i∈l,s.n=(i:Nat)/\s.r∈RO i:=by
 rcases QW.1 h with h | h
 ·obtain ⟨r,hr,rfl⟩:=QM.1 h;exact .inl ⟨Z,hr⟩
 exact .inr (Qp s h)
theorem Qs {d:List Str}{k x:Nat}(a:d.length=(obF B RO l).length)(c:k<d.length)(h:evO (obF B RO l) d k=some x):∃ s∈aZ (ba B) RO l,s.n=(x:Nat):=by
 have b:k<(aZ (ba B) RO l).length:=by unfold obF at a;rw [ax] at a;omega
 refine ⟨_,RE b, ?_⟩;have e:(obF B RO l).getD k 0=(aZ (ba B) RO l)[k].n:=by
  unfold obF;rw [al,QI,aj b];rfl
 unfold evO gO at h;rw [e] at h;split at h
 ·split at h
  ·have:=Sc h;omega
  cases h
 cases h
theorem Ix {d:List Str}(a:AscIn n l)(b:d.length=(obF B RO l).length):AscIn n (bC (usN (obF B RO l) d)):=by
 refine ⟨fun x c=>?_,D9 (Ov (LD a.up) b)⟩;obtain ⟨k,f,e⟩:=List.mem_filterMap.1 (qH c);obtain ⟨s,hs,h⟩:=Qs b (QZ.1 f) e;rcases Cl hs with ⟨h1,_⟩ | ⟨i,g,h1,_⟩
 ·omega
 have:i=x:=by omega
 subst this;exact a.lt i g
theorem Mi {a:Nat->Rat}(h:Lp.InfR (cN (bs B*bp B) (rwS B RO l)) 16 a):eB B RO (bC (usN (obF B RO l) ((duL (rwS B RO l) a).map qtx)))=false:=by
 refine xf fun c=>?_;obtain ⟨y,hy⟩:=pZ.1 c;refine h.part (y:=y) fun r hr d=>?_;have hr:r<(rwS B RO l).length:=hr;have p:(rwS B RO l).length=(aZ (ba B) RO l).length:=by rw [<- yD,obF,ax]
 have e:r<(aZ (ba B) RO l).length:=by omega
 obtain ⟨s,hs⟩:∃ s,(aZ (ba B) RO l)[r]?=some s:=⟨_,aj e⟩;have g:(rwS B RO l).getD r ([],0)=(s.r.f,s.r.b):=by
  unfold rwS gn dp;rw [Rx,al,QI,hs];rfl
 have k:s.r∈dp B RO (bC (usN (obF B RO l) ((duL (rwS B RO l) a).map qtx))):=by
  rw [lE];rcases Cl (PN hs) with ⟨_,h1⟩ | ⟨i,q,h1,h2⟩
  ·exact QW.2 (.inl h1)
  refine QW.2 (.inr (List.mem_flatMap.2 ⟨i,mem_compact.2 (List.mem_filterMap.2 ⟨r,QZ.2 (by rw [ax,mW];exact hr), ?_⟩),h2⟩));have m:((duL (rwS B RO l) a).map qtx).getD r []=qtx (a r):=by
   rw [al,QI,aj (show r<(duL (rwS B RO l) a).length by rw [mW];exact hr)];have:=He (rs:=rwS B RO l) (du:=a) hr;rw [al,aj (show r<(duL (rwS B RO l) a).length by rw [mW];exact hr)] at this;exact congrArg qtx this
  have n:(obF B RO l).getD r 0=(i:Nat):=by
   unfold obF;rw [al,QI,hs];exact h1
  have o:(qtx (a r) == [48])=false:=by
   have:=eZ (a r);rw [Q6 d] at this;exact this
  unfold evO gO;rw [m,o,n,aJ (by rfl),aJ om_,Sm]
 have h3:=hy s.r k;show Lp.sumN (fun j=>((rwS B RO l).getD r ([],0)).1.getD j 0*y j) (bs B*bp B)<=((rwS B RO l).getD r ([],0)).2;rw [g];exact h3
end
theorem Qa (h:Pur cx.P f args C fun u D=>Sl D 1 u (l.map aL)):Pur cx.P f args C fun v D=>∃ x:Option Addr × Nat,v=.slice x.1 l.length x.2/\Sl D 1 (.slice x.1 l.length x.2) (l.map aL) :=
 Fn.mono h fun v C' a _ ⟨h1,h2⟩=>by
  obtain ⟨A,c,rfl,_⟩:=id h2;rw [ax] at h2;exact ⟨h1,(A,c),by rw [ax],h2⟩
theorem OY {m:List Nat}(e:m=l)(h:Pur cx.P f args C fun u D=>Sl D 1 u (m.map aL)):Pur cx.P f args C fun v D=>∃ x:Option Addr × Nat,v=.slice x.1 l.length x.2/\Sl D 1 (.slice x.1 l.length x.2) (l.map aL):=by subst e;exact Qa h
theorem LM {z:Int}(h:Gives cx.P f args C (.int .i64 z))(e:z=0):Gives cx.P f args C (.int .i64 0):=by subst e;exact h
theorem Ou {o:List Int}{d:List Str}{r:Int}{D:Mem}{u:Value}(h:PD o d r D u)(e:r=0):∃ v,u=.tuple #[v,.int .i64 0]/\Sl D 1 v ((bC (usN o d)).map aL):=by
 rcases h with ⟨h1,_⟩ | ⟨_,h2⟩
 ·exact absurd e h1
 exact h2
theorem wT (C:Mem)(m:Tabs C)(e f:Value)(B:Bk)(H:List Rat)(a:Nat->List RowQ)(l:List Nat)(g:BookIn C e B)(h:Calm B H a)(d:SetIn B.obs.length l)(I:Sl C 1 f (l.map aL)) :
  Gives cx.P 16 [e,f] C (.bool (eB B a l)):=by
 have ab:=g;have J:=h.rich.bookz m g;have u:=h.cnt d;have v:=fun (D:Mem)(i:C.le D)=>pM D e f B (aZ (ba B) a l) (J.mono i) (by have:=h.n12;omega) (by unfold dp at u;rw [ax] at u;omega) (eA D (m.mono i) e f (g.mono i) h d (I.mono i));obtain ⟨n,o⟩:∃ n,bs B*bp B=n:=⟨_,rfl⟩;have K:=h.n12;have p:=h.rowsQ d;have w:=h.q22 d;have q:=h.lim d;obtain ⟨rows,s⟩:∃ rows,dp B a l=rows:=⟨_,rfl⟩;have L:eB B a l=@decide (cN n (gn rows)).Hold (Classical.propDecidable _):=by
  unfold eB zJ;rw [o,s]
 have M:(aZ (ba B) a l).map SrcQ.r=rows:=s;rw [o,M] at v;rw [o] at p q K;rw [s] at p w q;obtain ⟨v1,v2,tv,cv,ov,rfl,_⟩:=id g.ex;have ac:maxLen<=9223372036854775807:=by simp [maxLen]
 refine Uv func16 29 U3 fun w0=>Ur fun R b=>UG U6 fun b2=>C4 1 [1,2] b Z<|G.freeze 0 Z fun _ _ N=>Ur fun R b=>Uo (bkT N 5) U8<|Uq U6<|UW (v _ mup) U7 (fun ad _ _ O=>?_);obtain ⟨rv,ae,rfl,y,z⟩:=O;obtain ⟨_,_,_,Q⟩:=id y;obtain ⟨Ar,cr,rfl,_⟩:=id Q;obtain ⟨Ao,co,rfl,_⟩:=id z;refine Us 3 Z<|UI U5 fun b5=>Uy (j:=0) U12<|C4 1 [5] b Z<|G.freeze 0 Z fun _ _ S=>Ur fun R b=>Uo (bkT S 3) U8<|US (Bu _ m.m_ n _ _ (gn rows) (List.replicate n 0) y.m_ z.m_ p (fun x T=>by rw [(List.mem_replicate.1 T).2];exact QB_zero.le dc_) w om_ am q) U7 fl_ (fun U _ _ V=>?_);have W:∃ (t:Value)(E:Option Addr)(nd F:Nat)(k:Bool),U=.tuple #[t,.agg ⟨[.slice E nd F]⟩,.bool k,.int .i64 0]/\eB B a l=k:=by
  rw [L];cases V with
  | yes pt t X _ _=>exact ⟨_,_,_,_,true,rfl,@Q0 _ (Classical.propDecidable _) X⟩
  | no du vd Y h1 =>
   obtain ⟨A,c,rfl,_⟩:=id h1;exact ⟨_,_,_,_,false,Z,@Q6 _ (Classical.propDecidable _) Y.not⟩
 obtain ⟨t,E,nd,F,k,rfl,aa⟩:=W;refine Us 5 Z<|UI U5 fun b8=>Uq U6<|Uy (j:=0) U12<|C4 2 [9,10] b Z<|Un 4 Z fun R b=>UM U8<|C4 1 [4] b Z<|Uu U2 ?_;exact ⟨by rw [aa];cases k <;> rfl,Z⟩
theorem KS:∀ n<4,∀ b<256,(List.range n).filter (fun q=>b.testBit q)=cV (b % 2 ^ n):=by decide +kernel
theorem No (C:Mem)(b n:Nat)(r:b<256)(s:n<4):Pur cx.P 26 [.int .u8 b,.int .i64 n] C fun u D=>Sl D 1 u ((cV (b % 2 ^ n)).map aL):=by
 have z:maxLen<=9223372036854775807:=by simp [maxLen]
 refine Uv func26 26 U3 fun w0=>Um 1 [0,1] Z<|Um 1 [0,1,5] Z<|Um 1 [0,1,5,6] Z<|G.nilArr 3 1<|G.loop (fun fr C' f t=>∃ (j:Nat)(c:Option Addr)(n1 d:Nat),(j<=n)/\fr=[(0,[],.int .u8 b),(1,[],.int .i64 n),(5,[],.slice c n1 d),(6,[],.int .i64 j)]/\f=[.arr (.slice c n1 d) 3 1 ((List.range j).filter fun q=>b.testBit q).length ((((List.range j).filter fun q=>b.testBit q)).map aL).flatten]/\t=n-j) (hn_ [0,1,5,6] Z) ⟨0,none,0,0,QK _,Z,Z,Z⟩ (fun fr A B m _ v=>?_);obtain ⟨j,c,n1,d,E,rfl,rfl,rfl⟩:=v;refine Un 6 Z fun R a=>UM U8<|Ut [0,1,5,6,13] a Z<|Up (fun g=>?_) fun g=>?_
 ·have F:j<n:=by
   have:=QF (SC.1 g).1;omega
  have H:((List.range j).filter fun q=>b.testBit q).length<=j:=by
   have:=RT (fun q=>b.testBit q) (List.range j)
   rwa [RB] at this
  have e:=Ke (b:=b) (j:=j);have I:=RM b (2 ^ j);refine Un 2 Z fun R a=>WN (b) (j) Z Z Z Z Z Z Z Z om_ Z Z<|WQ (b / 2 ^ j) (1) Z Z Z Z Z Z Z Z om_ om_ Z Z<|C4 1 [0,1,5,6,20] a Z<|Up (fun i=>?_) fun i=>?_
  ·have k:b.testBit j=true:=by
    rw [<- H2,<- Gj];exact i
   rw [k,aJ rfl] at e;refine Un 2 Z fun R a=>UJ [[.int .i64 j]] U12 fun J _ _ w=>UR (j:=0) U11 w Z aw (by show (((List.range j).filter fun q=>b.testBit q).length+1)*8<=_;omega) fl_ fun l o p=>C4 1 [0,1,5,6] a Z<|Un 1 Z fun R a=>Ux _ U7<|C4 1 [0,1,5,6] a Z<|UF (L':=[.arr (.slice l o p) 3 1 ((List.range (j+1)).filter fun q=>b.testBit q).length ((((List.range (j+1)).filter fun q=>b.testBit q)).map aL).flatten]) (by rw [e,Rk,Rm,QO];rfl)<|UB (m':=n-(j+1)) om_ mup (hn_ [0,1,5,6] Z) ⟨j+1,l,o,p,om_,Z,Z,Z⟩
  have k:b.testBit j=false:=by
   rw [<- H2,<- Gj];exact i
  rw [k,aB dc_,Q8] at e;refine Un 1 Z fun R a=>Ux _ U7<|C4 1 [0,1,5,6] a Z<|UF (L':=[.arr (.slice c n1 d) 3 1 ((List.range (j+1)).filter fun q=>b.testBit q).length ((((List.range (j+1)).filter fun q=>b.testBit q)).map aL).flatten]) (by rw [e])<|UB (m':=n-(j+1)) om_ mup (hn_ [0,1,5,6] Z) ⟨j+1,c,n1,d,om_,Z,Z,Z⟩
 have x:n=j:=by
  rcases Tx.1 g with h | h
  ·have:=QJ h;omega
  have:=QJ h;omega
 subst x;rw [KS n s b r];exact G.freezeArr 0 ((cV (b % 2 ^ n)).map aL) Z Z (jx _) (ax _) fun _ _ y=>Um 2 [4] Z<|Uu U2<|⟨Z,y.mono mup⟩
theorem Gf (S:Sht)(l:List Sgt):(re S l).take 3=re S (l.take 3):=by
 unfold re;rw [<- Tn,List.take_range,QX,show min 3 (min l.length 6)=min (min 3 l.length) 6 by omega];refine List.map_congr_left fun i a=>?_;have:=QZ.1 a;rw [al,al,Ri,aJ om_]
theorem tg (S:Sht)(H:Hts)(l:List Sgt):cA S H (l.take 3)={ cA S H l with obs:=(cA S H l).obs.take 3 }:=by
 unfold cA;simp only [Gf]
theorem CB {v:Value}{n:Nat}:(.tuple #[v,.bool (decide ((n:Int)<=4) && true)]:Value)=.tuple #[v,.bool (decide (n<=4))]:=by
 rw [Bool.and_true,show decide ((n:Int)<=4)=decide (n<=4) from Rv.2 om_]
theorem N1 (C:Mem)(q:Tabs C)(v:Value)(S:Sht)(H:Hts)(l:List Sgt)(L:CF C v S H l)(e:PlanR S H l) :
  Pur cx.P 12 [v] C fun u D=>∃ bv,u=.tuple #[bv,.bool (decide ((cC (S.kd % 8) S.a S.b S.h).length<=4))]/\BookIn D bv (cA S H (l.take 3)):=by
 obtain ⟨A,c,rfl,M⟩:=L;have N:=(fq (S.kd % 8) (Rs _ dc_) S.a S.b S.h).1;refine Uv func12 26 U3 fun w0=>Ur fun R d=>UG U6 fun T=>UI U5 fun U=>C4 1 [1,2] d Z<|Ur fun R d=>Uw ae U9<|UW (Gu _ q.m_ S H _ l e.kd e.h M.m_ e.s N) U7 (fun V w _ x=>?_);obtain ⟨W,X,Y,cv,ov,rfl,i,k,n,o,p⟩:=id x;obtain ⟨y,z,rfl,_⟩:=id i;obtain ⟨B,E,rfl,_⟩:=id k;obtain ⟨F,G,rfl,_⟩:=id n;obtain ⟨I,J,rfl,_⟩:=id o;obtain ⟨r,f,rfl,O,aa,_⟩:=id p;simp only [ax] at x i k n o p O ⊢;refine UI U5 fun b4=>Uy (j:=0) U12<|Ut [2,4] d Z<|Un 1 Z fun R d=>Uw af U9<|C4 2 [2,4,10] d Z<|Up (fun t=>?_) fun t=>?_
 ·have h3:3<(cA S H l).obs.length:=by
   have:=QF t;omega
  have K:=p.sub (l:=0) (h:=3) (m:=f) (QK _) (by rw [ax];omega) om_ (QG _);rw [RQ,<- Tn] at K;have g:BookIn w (.agg ⟨[.slice y (cA S H l).pts.length z,.slice B (cA S H l).tris.length E,.slice F (cA S H l).terr.length G,.slice I (cA S H l).col.length J,.slice (if f=0 then r else r.map (·.add (0*11))) (3-0) (f-0)]⟩) (cA S H (l.take 3)):=by
   rw [tg];exact ⟨_,_,_,_,_,Z,i,k,n,o,K⟩
  refine Un 1 Z fun R d=>Uw af U9<|Vg 0 3 f U12 (fun _=>⟨.inl ⟨Z,Z⟩,.inr ⟨_,Z⟩,.inl ⟨Z,Z⟩,by omega,by omega,QG _⟩) U2<|Uq U6<|Uy (j:=0) U12<|Ut [2,4] d Z<|UK [0,1,2,3,4,5,6,7,8,9,10,11,12] [] Z kr_ fun R Q d=>Uw af U9<|Us 2 Z<|Uw af U9<|Us 3 Z<|Uw af U9<|UV (fun _=>((HT _ q.m_ _ S H (l.take 3) (fun s hs=>e.s s (List.take_subset _ _ hs)) g).ch _ mup)) U9<|Uq U6<|UM U8<|Uy (j:=1) U12<|C4 1 [2,3] d Z<|UA (Vw af U5 ?_);exact ⟨Z,_,CB,g.mono mup⟩
 have h3:¬ 3<(cA S H l).obs.length:=by
  have:=QJ t;omega
 have g:BookIn w (.agg ⟨[.slice y (cA S H l).pts.length z,.slice B (cA S H l).tris.length E,.slice F (cA S H l).terr.length G,.slice I (cA S H l).col.length J,.slice r (cA S H l).obs.length f]⟩) (cA S H (l.take 3)):=by
  rw [tg,Rr om_];exact ⟨_,_,_,_,_,Z,i,k,n,o,p⟩
 refine UK [0,1,2,3,4,5,6,7,8,9,10,11,12] [] Z kr_ fun R Q d=>Uw af U9<|Us 2 Z<|Uw af U9<|Us 3 Z<|Uw af U9<|UV (fun _=>((HT _ q.m_ _ S H (l.take 3) (fun s hs=>e.s s (List.take_subset _ _ hs)) g).ch _ mup)) U9<|Uq U6<|UM U8<|Uy (j:=1) U12<|C4 1 [2,3] d Z<|UA (Vw af U5 ?_);exact ⟨Z,_,CB,g.mono mup⟩
theorem Dj {B:Bk}{o:Obs}{p:Pt}{t:Tri}{z:Rat}(h:(cG B.col o).length<=2):(rowsO B o p t z).length<=8:=by
 unfold rowsO;split
 ·rw [QO];split <;> split <;> simp
 split
 ·have:=Kh (c:=2) (f:=fun k=>[1, -1].map (iF (bs B) (bp B) k (atT t (wgt B.pts t p)) (kF o z))) (l:=cG B.col o) (fun k _=>by simp);omega
 have:=Kh (c:=4) (f:=fun k=>[1, -1].map (iF (bs B) (bp B) k (atT t fun j=>(slf B.pts t j).1) (qu o))++[1, -1].map (iF (bs B) (bp B) k (atT t fun j=>(slf B.pts t j).2) (jk o))) (l:=cG B.col o) (fun k _=>by simp);omega
theorem Ei (S:Sht)(H:Hts)(l:List Sgt)(c:∀ s∈l,SgtR s)(e:(cC (S.kd % 8) S.a S.b S.h).length<=4):Calm (cA S H l) (fsK (cC (S.kd % 8) S.a S.b S.h).length H) (roK S H l):=by
 have f:(cA S H l).obs.length=min l.length 6:=jO S l;refine ⟨Eh S H l c, ?_,AH Qx _,fun i g=>?_, ?_,fun i _=>?_,by omega⟩
 ·show 2*(cC (S.kd % 8) S.a S.b S.h).length<=12;omega
 ·have d:i<l.length:=by omega
  refine OR S H l _ i ?_;rw [al,aj d];exact c _ (RE d)
 ·have h1:=jF (bs (cA S H l)) (bp (cA S H l)) colK 1;have h2:bp (cA S H l)<=4:=e;show (bj (bs (cA S H l)) (bp (cA S H l)) colK 1).length<=24;omega
 refine Dj ?_;unfold cG vR;refine Q1 (RT _ _) ?_;rw [RB];exact QG 2
theorem HH (C:Mem)(g:Tabs C)(V:Value)(S:Sht)(H:Hts)(l:List Sgt)(b:Nat)(hb:b<256)(hP:CF C V S H l)(W:PlanR S H l) :
  Gives cx.P 8 [V,.int .u8 b] C (.bool true):=by
 obtain ⟨A,c,rfl,D⟩:=id hP;have aF:maxLen<=9223372036854775807:=by simp [maxLen]
 refine Uv func8 109 U3 fun w0=>?_;refine Ur fun R e=>?_;refine UG U6 (fun b2=>?_);refine C4 1 [1,2] e Z ?_;clear e R;refine G.freeze 0 Z (fun _ _ aj=>?_);refine Ur fun R e=>?_;refine Uz (Gz _ g.m_) U7 ?_;refine C4 1 [1,2,18] e Z ?_;clear e R;refine Up (fun X=>?_) fun X=>?_
 ·exact absurd X dc_
 refine Ur fun R e=>?_;refine Uo (bkT aj 12) U8 ?_;refine UW (N1 _ g.m_ _ S H l ⟨_,_,Z,D.mono mup⟩ W) U7 (fun aG _ _ ak=>?_);obtain ⟨bv,rfl,f⟩:=ak;have E:=Ei S H (l.take 3) (fun s hs=>W.s s (List.take_subset _ _ hs));have Y:(cA S H (l.take 3)).obs.length<=3:=by
  show (re S (l.take 3)).length<=3;rw [jO,QX];omega
 obtain ⟨RO,al⟩:∃ RO,roK S H (l.take 3)=RO:=⟨_,rfl⟩;obtain ⟨fs,an⟩:∃ fs,fsK (cC (S.kd % 8) S.a S.b S.h).length H=fs:=⟨_,rfl⟩;obtain ⟨B,aa⟩:∃ B,cA S H (l.take 3)=B:=⟨_,rfl⟩;rw [al,an,aa] at E;rw [aa] at f Y;obtain ⟨m4,ao⟩:∃ m,(cC (S.kd % 8) S.a S.b S.h).length=m:=⟨_,rfl⟩;rw [ao] at E ⊢;obtain ⟨v1,v2,tv,cv,ov,rfl,g1,g2,g3,g4,g5⟩:=id f;obtain ⟨B1,d1,rfl,_⟩:=id g1;obtain ⟨B2,d2,rfl,_⟩:=id g2;obtain ⟨B3,d3,rfl,_⟩:=id g3;obtain ⟨B4,d4,rfl,_⟩:=id g4;obtain ⟨B5,d5,rfl,_⟩:=id g5;obtain ⟨n,hn⟩:∃ n,B.obs.length=n:=⟨_,rfl⟩;simp only [ax,hn] at f Y ⊢;refine Us 3 Z ?_;refine UI U5 (fun b5=>?_);refine Uy (j:=0) U12 ?_;refine C4 1 [1,5,6] e Z ?_;clear e R;refine Um 2 [1,5,25] Z ?_;refine Up (fun ab=>?_) fun ab=>?_
 ·refine Um 1 [4] Z ?_;refine Uu U2 ?_;exact ⟨Z,Z⟩
 have h:=E (by simpa using ab);have aH:=f;refine G.freeze 0 Z (fun _ _ o=>?_);refine Un 2 Z fun R e=>?_;refine Uo (bkT o 1) U8 ?_;refine Uq U6 ?_;refine US (No _ b n hb om_) U7 fl_ (fun aI _ _ v=>?_);obtain ⟨s,hs⟩:∃ s,b % 2 ^ n=s:=⟨_,rfl⟩;have ap:s<2 ^ n:=by rw [<- hs];exact Rs _ (Nat.two_pow_pos n)
 rw [hs] at v;obtain ⟨As,aJ,rfl,ac,aK,_⟩:=id v;have i:AscIn B.obs.length (cV s):=by rw [hn];exact HV om_ ap
 obtain ⟨ls,ad⟩:∃ ls,cV s=ls:=⟨_,rfl⟩;rw [ad] at i v ac;have p:=v;rw [ad,ax];rw [ax] at p ac;refine C4 1 [5,7] e Z ?_;clear e R;refine Ur fun R e=>?_;refine Uo (bkT o 5) U8 ?_;refine Uq U6 ?_;refine Uz (vh _ g.m_ _ _ B fs RO ls f.m_ h i p.m_) U7 ?_;refine C4 5 [5,7,8,9] e Z ?_;clear e R;refine Ur fun R e=>?_;refine Uo (bkT o 5) U8 ?_;refine Uq U6 ?_;refine UW (FT _ g.m_ _ _ B fs RO ls f.m_ h i p.m_) U7 (fun aL _ _ aq=>?_);obtain ⟨Ap,np,cp,rfl,ar,au⟩:=aq;refine Us 4 Z ?_;refine UI U5 (fun aM=>?_);refine Uy (j:=0) U12 ?_;refine C4 2 [5,7,8,9,10,11,12] e Z ?_;clear e R;refine G.freeze 0 Z (fun _ _ u=>?_);refine Un 1 Z fun R e=>?_;refine Uo (bkT o 5) U8 ?_;refine Uq U6 ?_;refine Uz (wT _ g.m_ _ _ B fs RO ls f.m_ h i.set p.m_) U7 ?_;refine Us 4 Z ?_;refine UU U8 ?_;refine Us 4 Z ?_;refine UU U8 ?_;refine Us 3 Z ?_;refine UU U8 ?_;refine Ut [5,7,8,10,61] e Z ?_;clear e R;refine Up (fun ae=>?_) fun ae=>?_
 ·exact absurd ae (by cases eB B RO ls <;> decide)
 refine Um 1 [5,7,10,62] Z ?_;refine Up (fun F=>?_) fun F=>?_
 ·have hh:eB B RO ls=true:=F;refine Un 1 Z fun R e=>?_;refine Uo (bkT u 1) U8 ?_;refine C4 3 [4] e Z ?_;clear e R;refine Uu U2 ?_;refine ⟨?_,Z⟩;rw [ar hh];rfl
 have av:eB B RO ls=false:=F;obtain ⟨du,I,r⟩:=au av;have J:=Mi I;have af:=h.cnt i.set;have hZ:=h.rich.bookz g.m_ f;have w:=h.rowsQ i.set;have ag:=h.q22 i.set;have aN:=h.n12;have aw:sY (bs B*bp B) ((rwS B RO ls).map dI) ((List.replicate (bs B*bp B) (0:Rat)).map qtx)=0:=ng om_ (by have:=w.m;unfold rwS;omega) w.l ag am (fun x K=>by rw [(List.mem_replicate.1 K).2];exact QB_zero.le dc_);have y:=Jh aw I;have L:=Ps I;have M:((duL (rwS B RO ls) du).map qtx).length=(obF B RO ls).length:=by rw [ax,mW,yD]
 have N:=Ix (d:=(duL (rwS B RO ls) du).map qtx) i M;have ay:(duL (rwS B RO ls) du).length<=150:=by rw [mW];exact w.m
 obtain ⟨ds,az⟩:∃ ds,duL (rwS B RO ls) du=ds:=⟨_,rfl⟩;rw [az] at J y L M N ay r;have O:∀ s∈ds.map qtx,s.length<=999998:=fun s hs=>by
  obtain ⟨q,Q,rfl⟩:=QM.1 hs;exact Q1 (bG (L q Q) dc_) dc_
 have T:(ds.map qtx).all aW=true->ds.map qtx=ds.map qtx/\∀ x∈ds,QB 23 x:=fun _=>⟨rfl,fun x K=>(L x K).le dc_⟩;rw [jv] at r;have aA:∀ s∈(List.replicate (bs B*bp B) (0:Rat)).map qtx,s.length<=999998:=fun s hs=>by obtain ⟨q,Q,rfl⟩:=QM.1 hs;rw [(List.mem_replicate.1 Q).2];exact Q1 (bG (k:=22) (QB_zero.le dc_) dc_) dc_
 obtain ⟨t,U⟩:∃ t,bC (usN (obF B RO ls) (ds.map qtx))=t:=⟨_,rfl⟩;rw [U] at J N;refine Ur fun R e=>?_;refine Uo (bkT o 5) U8 ?_;refine Uq U6 ?_;refine US (pM _ _ _ B (aZ (ba B) RO ls) hZ.m_ om_ (by unfold dp at af;rw [ax] at af;omega) (eA _ g.m_ _ _ f.m_ h i.set p.m_)) U7 fl_ (fun aO _ _ aB=>?_);obtain ⟨rv,aP,rfl,ah,ai⟩:=aB;obtain ⟨_,_,_,D⟩:=id ah;obtain ⟨Ar,cr,rfl,_⟩:=id D;obtain ⟨Ao,co,rfl,_⟩:=id ai;refine Us 3 Z ?_;refine UI U5 (fun aQ=>?_);refine Uy (j:=0) U12 ?_;refine C4 1 [5,7,10,13] e Z ?_;clear e R;refine G.freeze 0 Z (fun _ _ aC=>?_);refine Ur fun R e=>?_;refine Uo (bkT o 5) U8 ?_;refine Uq U6 ?_;refine Uo (bkT u 1) U8 ?_;refine US (Iy _ g.m_ _ _ _ B fs RO ls (ds.map qtx) ds f.m_ h i p.m_ r.m_ O (by rw [ax];omega) T) U7 fl_ (fun aR _ _ aD=>?_);obtain ⟨uv,rfl,z⟩:=Ou aD y;rw [U] at z;obtain ⟨Au,cu,rfl,_⟩:=id z;refine C4 5 [5,7,10,13,15,16] e Z ?_;clear e R;refine UO [(20,2)] Z (fun R e=>?_);refine Uo (bkT aC 3) U8 ?_;refine Uo (bkT u 1) U8 ?_;refine UC (LM (pq _ g.m_ (bs B*bp B) _ _ _ ((rwS B RO ls).map dI) ((List.replicate (bs B*bp B) (0:Rat)).map qtx) (ds.map qtx) (rwS B RO ls) ds ah.m_ (by rw [<- jv];exact ai.mono mup) (Fy ag) aA r.m_ O (fun _=>⟨Z,w⟩) T) y) U7 fl_ ?_;refine Us 2 Z ?_;refine UQ U6 (fun _=>PtrTo.blockT (Mem.get o mup) _ 5) U3 ?_;refine Uq U6 ?_;refine UQ U6 (fun _=>PtrTo.blockT (Mem.get u mup) _ 1) U3 ?_;refine UV (fun _=>(LM (pi _ g.m_ _ _ _ B fs RO ls (ds.map qtx) ds f.m_ h i p.m_ r.m_ O T) y)) U9 ?_;refine Uq U6 ?_;refine UM U8 ?_;refine Us 3 Z ?_;refine UM U8 ?_;refine Us 2 Z ?_;refine UQ U6 (fun _=>PtrTo.blockT (Mem.get o mup) _ 5) U3 ?_;refine Uq U6 ?_;refine UQ U6 (fun _=>PtrTo.blockT (Mem.get u mup) _ 1) U3 ?_;refine WK (fun x:Option Addr × Nat=>.slice x.1 t.length x.2) (fun aS=>(OY U (JT _ g.m_ _ _ _ B fs RO ls (ds.map qtx) f.m_ h i p.m_ r.m_ M))) Z Z Z Z Z Z Z fl_ Z Z (fun aT _ _ aE=>?_);refine UL (fun hg=>(by exact pS _ _ _ t t z.m_ ((aE hg).mono mup))) U9 ?_;refine UM U8 ?_;refine Uq U6 ?_;refine UQ U6 (fun _=>PtrTo.blockT (Mem.get o mup) _ 5) U3 ?_;refine Uq U6 ?_;refine UV (fun _=>(wT _ g.m_ _ _ B fs RO t f.m_ h N.set z.m_)) U9 ?_;refine Uq U6 ?_;refine UM U8 ?_;refine C4 1 [4] e Z ?_;clear e R;refine Uu U2 ?_;refine ⟨?_,Z⟩;rw [J];simp
end Go.Proofs.YthnpijdjlddpmaaGreatDoor
