/- Laws that the proofs of this seat share, part 15. -/
import Derived.Test.YthnpijdjlddpmaaGreatDoorG14
import Derived.Test.YthnpijdjlddpmaaGreatDoorShelf
set_option maxHeartbeats 4000000
namespace Go.Proofs.YthnpijdjlddpmaaGreatDoor
open Go Go.Jog
set_option maxRecDepth 100000
variable {C:Mem}{args:List Value}{f:FuncId}{l:List Nat}
theorem Qb (h:Pur cx.P f args C fun u D=>Sl D 1 u (l.map aL)):Pur cx.P f args C fun v D=>∃ x:Option Addr × Nat,v=.slice x.1 l.length x.2/\Sl D 1 (.slice x.1 l.length x.2) (l.map aL) :=
 Fn.mono h fun v C' a _ ⟨h1,h2⟩=>by
  obtain ⟨A,c,rfl,_⟩:=id h2;rw [aw] at h2;exact ⟨h1,(A,c),by rw [aw],h2⟩
theorem OX {m:List Nat}(e:m=l)(h:Pur cx.P f args C fun u D=>Sl D 1 u (m.map aL)):Pur cx.P f args C fun v D=>∃ x:Option Addr × Nat,v=.slice x.1 l.length x.2/\Sl D 1 (.slice x.1 l.length x.2) (l.map aL):=by subst e;exact Qb h
theorem KS:∀ n<4,∀ b<256,(List.range n).filter (fun q=>b.testBit q)=cW (b % 2 ^ n):=by decide +kernel
theorem Nn (C:Mem)(b n:Nat)(r:b<256)(s:n<4):Pur cx.P 26 [.int .u8 b,.int .i64 n] C fun u D=>Sl D 1 u ((cW (b % 2 ^ n)).map aL):=by
 have z:maxLen<=9223372036854775807:=by simp [maxLen]
 refine Uv Tryz.func26 26 U3 fun w0=>Ul 1 [0,1] Z<|Ul 1 [0,1,5] Z<|Ul 1 [0,1,5,6] Z<|G.nilArr 3 1<|G.loop (fun fr C' f t=>∃ (j:Nat)(c:Option Addr)(n1 d:Nat),(j<=n)/\fr=[(0,[],.int .u8 b),(1,[],.int .i64 n),(5,[],.slice c n1 d),(6,[],.int .i64 j)]/\f=[.arr (.slice c n1 d) 3 1 ((List.range j).filter fun q=>b.testBit q).length ((((List.range j).filter fun q=>b.testBit q)).map aL).flatten]/\t=n-j) (hn_ [0,1,5,6] Z) ⟨0,none,0,0,QK _,Z,Z,Z⟩ (fun fr A B m _ v=>?_);obtain ⟨j,c,n1,d,E,rfl,rfl,rfl⟩:=v;refine Um 6 Z fun R a=>UM U8<|Ur [0,1,5,6,13] a Z<|Uo (fun g=>?_) fun g=>?_
 ·have F:j<n:=by
   have:=aW (SC.1 g).1;omega
  have H:((List.range j).filter fun q=>b.testBit q).length<=j:=by
   have:=RT (fun q=>b.testBit q) (List.range j)
   rwa [RB] at this
  have e:=Ke (b:=b) (j:=j);have I:=RM b (2 ^ j);refine Um 2 Z fun R a=>WM (b) (j) Z Z Z Z Z Z Z Z om_ Z Z<|WP (b / 2 ^ j) (1) Z Z Z Z Z Z Z Z om_ om_ Z Z<|C4 1 [0,1,5,6,20] a Z<|Uo (fun i=>?_) fun i=>?_
  ·have k:b.testBit j=true:=by
    rw [<- H4,<- Gl];exact i
   rw [k,aJ rfl] at e;refine Um 2 Z fun R a=>UI [[.int .i64 j]] U12 fun J _ _ w=>UP (j:=0) U11 w Z ax (by show (((List.range j).filter fun q=>b.testBit q).length+1)*8<=_;omega) fl_ fun l o p=>C4 1 [0,1,5,6] a Z<|Um 1 Z fun R a=>Uw _ U7<|C4 1 [0,1,5,6] a Z<|UE (L':=[.arr (.slice l o p) 3 1 ((List.range (j+1)).filter fun q=>b.testBit q).length ((((List.range (j+1)).filter fun q=>b.testBit q)).map aL).flatten]) (by rw [e,Rj,Ri,QM];rfl)<|UA (m':=n-(j+1)) om_ mup (hn_ [0,1,5,6] Z) ⟨j+1,l,o,p,om_,Z,Z,Z⟩
  have k:b.testBit j=false:=by
   rw [<- H4,<- Gl];exact i
  rw [k,aB dc_,Q7] at e;refine Um 1 Z fun R a=>Uw _ U7<|C4 1 [0,1,5,6] a Z<|UE (L':=[.arr (.slice c n1 d) 3 1 ((List.range (j+1)).filter fun q=>b.testBit q).length ((((List.range (j+1)).filter fun q=>b.testBit q)).map aL).flatten]) (by rw [e])<|UA (m':=n-(j+1)) om_ mup (hn_ [0,1,5,6] Z) ⟨j+1,c,n1,d,om_,Z,Z,Z⟩
 have x:n=j:=by
  rcases Tx.1 g with h | h
  ·have:=QJ h;omega
  have:=QJ h;omega
 subst x;rw [KS n s b r];exact G.freezeArr 0 ((cW (b % 2 ^ n)).map aL) Z Z (jC _) (aw _) fun _ _ y=>Ul 2 [4] Z<|Ut U2<|⟨Z,y.mono mup⟩
theorem Gg (S:Sht)(l:List Sgt):(rk S l).take 3=rk S (l.take 3):=by
 unfold rk;rw [<- Tn,List.take_range,QW,show min 3 (min l.length 6)=min (min 3 l.length) 6 by omega];refine List.map_congr_left fun i a=>?_;have:=Q2.1 a;rw [al,al,Rk,aJ om_]
theorem tm (S:Sht)(H:Hts)(l:List Sgt):cD S H (l.take 3)={ cD S H l with obs:=(cD S H l).obs.take 3 }:=by
 unfold cD;simp only [Gg]
theorem CB {v:Value}{n:Nat}:(.tuple #[v,.bool (decide ((n:Int)<=4) && true)]:Value)=.tuple #[v,.bool (decide (n<=4))]:=by
 rw [Bool.and_true,show decide ((n:Int)<=4)=decide (n<=4) from Rv.2 om_]
theorem N1 (C:Mem)(q:Tabs C)(v:Value)(S:Sht)(H:Hts)(l:List Sgt)(L:CF C v S H l)(e:PlanR S H l) :
  Pur cx.P 12 [v] C fun u D=>∃ bv,u=.tuple #[bv,.bool (decide ((cE (S.kd % 8) S.a S.b S.h).length<=4))]/\BookIn D bv (cD S H (l.take 3)):=by
 obtain ⟨A,c,rfl,M⟩:=L;have N:=(fu (S.kd % 8) (Rs _ dc_) S.a S.b S.h).1;refine Uv Tryz.func12 26 U3 fun w0=>Uq fun R d=>UF U6 fun T=>UH U5 fun U=>C4 1 [1,2] d Z<|Uq fun R d=>Uu ae U9<|UV (Gw _ q.m_ S H _ l e.kd e.h M.m_ e.s N) U7 (fun V w _ x=>?_);obtain ⟨W,X,Y,cv,ov,rfl,i,k,n,o,p⟩:=id x;obtain ⟨y,z,rfl,_⟩:=id i;obtain ⟨B,E,rfl,_⟩:=id k;obtain ⟨F,G,rfl,_⟩:=id n;obtain ⟨I,J,rfl,_⟩:=id o;obtain ⟨r,f,rfl,O,aa,_⟩:=id p;simp only [aw] at x i k n o p O ⊢;refine UH U5 fun b4=>Ux (j:=0) U12<|Ur [2,4] d Z<|Um 1 Z fun R d=>Uu af U9<|C4 2 [2,4,10] d Z<|Uo (fun t=>?_) fun t=>?_
 ·have h3:3<(cD S H l).obs.length:=by
   have:=aW t;omega
  have K:=p.sub (l:=0) (h:=3) (m:=f) (QK _) (by rw [aw];omega) om_ (QG _);rw [RQ,<- Tn] at K;have g:BookIn w (.agg ⟨[.slice y (cD S H l).pts.length z,.slice B (cD S H l).tris.length E,.slice F (cD S H l).terr.length G,.slice I (cD S H l).col.length J,.slice (if f=0 then r else r.map (·.add (0*11))) (3-0) (f-0)]⟩) (cD S H (l.take 3)):=by
   rw [tm];exact ⟨_,_,_,_,_,Z,i,k,n,o,K⟩
  refine Um 1 Z fun R d=>Uu af U9<|Vf 0 3 f U12 (fun _=>⟨.inl ⟨Z,Z⟩,.inr ⟨_,Z⟩,.inl ⟨Z,Z⟩,by omega,by omega,QG _⟩) U2<|Up U6<|Ux (j:=0) U12<|Ur [2,4] d Z<|UJ [0,1,2,3,4,5,6,7,8,9,10,11,12] [] Z kr_ fun R Q d=>Uu af U9<|Us 2 Z<|Uu af U9<|Us 3 Z<|Uu af U9<|UU (fun _=>((HV _ q.m_ _ S H (l.take 3) (fun s hs=>e.s s (List.take_subset _ _ hs)) g).ch _ mup)) U9<|Up U6<|UM U8<|Ux (j:=1) U12<|C4 1 [2,3] d Z<|Uz (Vw af U5 ?_);exact ⟨Z,_,CB,g.mono mup⟩
 have h3:¬ 3<(cD S H l).obs.length:=by
  have:=QJ t;omega
 have g:BookIn w (.agg ⟨[.slice y (cD S H l).pts.length z,.slice B (cD S H l).tris.length E,.slice F (cD S H l).terr.length G,.slice I (cD S H l).col.length J,.slice r (cD S H l).obs.length f]⟩) (cD S H (l.take 3)):=by
  rw [tm,Rr om_];exact ⟨_,_,_,_,_,Z,i,k,n,o,p⟩
 refine UJ [0,1,2,3,4,5,6,7,8,9,10,11,12] [] Z kr_ fun R Q d=>Uu af U9<|Us 2 Z<|Uu af U9<|Us 3 Z<|Uu af U9<|UU (fun _=>((HV _ q.m_ _ S H (l.take 3) (fun s hs=>e.s s (List.take_subset _ _ hs)) g).ch _ mup)) U9<|Up U6<|UM U8<|Ux (j:=1) U12<|C4 1 [2,3] d Z<|Uz (Vw af U5 ?_);exact ⟨Z,_,CB,g.mono mup⟩
theorem Dk {B:Bk}{o:Obs}{p:Pt}{t:Tri}{z:Rat}(h:(cI B.col o).length<=2):(rowsO B o p t z).length<=8:=by
 unfold rowsO;split
 ·rw [QM];split <;> split <;> simp
 split
 ·have:=Kh (c:=2) (f:=fun k=>[1, -1].map (iL (bs B) (bp B) k (atT t (wgt B.pts t p)) (kK o z))) (l:=cI B.col o) (fun k _=>by simp);omega
 have:=Kh (c:=4) (f:=fun k=>[1, -1].map (iL (bs B) (bp B) k (atT t fun j=>(slf B.pts t j).1) (qC o))++[1, -1].map (iL (bs B) (bp B) k (atT t fun j=>(slf B.pts t j).2) (jp o))) (l:=cI B.col o) (fun k _=>by simp);omega
theorem Ei (S:Sht)(H:Hts)(l:List Sgt)(c:∀ s∈l,SgtR s)(e:(cE (S.kd % 8) S.a S.b S.h).length<=4):Calm (cD S H l) (fsK (cE (S.kd % 8) S.a S.b S.h).length H) (roK S H l):=by
 have f:(cD S H l).obs.length=min l.length 6:=jT S l;refine ⟨Eh S H l c, ?_,AJ Qx _,fun i g=>?_, ?_,fun i _=>?_,by omega⟩
 ·show 2*(cE (S.kd % 8) S.a S.b S.h).length<=12;omega
 ·have d:i<l.length:=by omega
  refine OQ S H l _ i ?_;rw [al,aj d];exact c _ (RH d)
 ·have h1:=jK (bs (cD S H l)) (bp (cD S H l)) colK 1;have h2:bp (cD S H l)<=4:=e;show (bk (bs (cD S H l)) (bp (cD S H l)) colK 1).length<=24;omega
 refine Dk ?_;unfold cI vR;refine Q0 (RT _ _) ?_;rw [RB];exact QG 2
theorem Ps:∀ d:List Str,∃ ds:List Rat,d.all aX=true->d=ds.map qtx/\∀ x∈ds,QB 23 x
 | []=>⟨[],fun _=>⟨rfl,fun _ h=>nomatch h⟩⟩
 | s::t=>by
  obtain ⟨ds,h⟩:=Ps t;by_cases hs:aX s=true
  ·obtain ⟨q,e,a⟩:=FH hs;refine ⟨q::ds,fun h2=>?_⟩;simp only [List.all_cons,QT] at h2;obtain ⟨b,h3⟩:=h h2.2;refine ⟨by rw [Q9,<- b,e],fun x c=>?_⟩;rcases QU.1 c with rfl | h4
   ·exact a
   exact h3 x h4
  refine ⟨[],fun h2=>?_⟩;simp only [List.all_cons,QT] at h2;exact absurd h2.1 hs
theorem Mh {o:List Int}{d:List Str}{r:Int}{D:Mem}{u:Value}(h:PD o d r D u):∃ A n c,u=.tuple #[.slice A n c,.int .i64 r]/\(r≠0->n=0)/\(r=0->Sl D 1 (.slice A n c) ((bR (usN o d)).map aL)):=by
 rcases h with ⟨h1,h2⟩ | ⟨h1,v,h2,h3⟩
 ·exact ⟨none,0,0,h2,fun _=>rfl,fun h=>absurd h h1⟩
 obtain ⟨A,c,rfl,h4⟩:=id h3;exact ⟨A,_,c,by rw [h2,h1],fun h=>absurd h1 h,fun _=>h3⟩
theorem LL {z w:Int}(e:w=z)(h:Gives cx.P f args C (.int .i64 w)):Gives cx.P f args C (.int .i64 z):=by subst e;exact h
theorem xn:∀ s:Str,(eL s).length=1:=fun _=>rfl
theorem zo (C:Mem)(u:Tabs C)(pv:Value)(S:Sht)(H:Hts)(l:List Sgt)(b:Nat)(hb:b<256)(p cm:Nat)(bf:p<256)(bg:cm<256)(y:Str)(hP:CF C pv S H l)(ar:PlanR S H l) :
  Gives cx.P 9 [pv,.int .u8 b,.agg ⟨[.int .u8 p,.int .u8 cm,ai y]⟩] C (.bool true):=by
 obtain ⟨A,c,rfl,aQ⟩:=id hP;have bh:maxLen<=9223372036854775807:=by simp [maxLen]
 refine Uv Tryz.func9 144 U3 fun w0=>?_;refine Uq fun R f=>?_;refine UF U6 (fun b3=>?_);refine UF U6 (fun b5=>?_);refine C4 1 [1,3,5] f Z ?_;clear f R;refine G.freeze 1 Z (fun _ _ aR=>?_);refine G.freeze 0 Z (fun _ _ I=>?_);refine Uq fun R f=>?_;refine Uy (wT _ u.m_) U7 ?_;refine Us 3 Z ?_;refine UQ U6 (fun _=>PtrTo.blockT (Mem.get I mup) _ 1) U3 ?_;refine Us 2 Z ?_;refine US U8 ?_;refine Ur [1,3,5,26] f Z ?_;clear f R;refine Uo (fun au=>?_) fun au=>?_
 ·refine Uq fun R f=>?_;refine Uy (wT _ u.m_) U7 ?_;refine C4 1 [6] f Z ?_;clear f R;refine Ut U2 ?_;exact ⟨Z,Z⟩
 have hy:y.length<=24:=by
  have h:decide ((y.length:Int) > 24)=false:=au;have:=QJ h;omega
 refine Uq fun R f=>?_;refine Un (bkT aR 12) U8 ?_;refine UV (N1 _ u.m_ _ S H l ⟨_,_,Z,aQ.mono mup⟩ ar) U7 (fun bk _ _ aS=>?_);obtain ⟨bv,rfl,o⟩:=aS;have aa:=Ei S H (l.take 3) (fun s hs=>ar.s s (List.take_subset _ _ hs));have av:(cD S H (l.take 3)).obs.length<=3:=by
  show (rk S (l.take 3)).length<=3;rw [jT,QW];omega
 obtain ⟨RO,aT⟩:∃ RO,roK S H (l.take 3)=RO:=⟨_,rfl⟩;obtain ⟨fs,aU⟩:∃ fs,fsK (cE (S.kd % 8) S.a S.b S.h).length H=fs:=⟨_,rfl⟩;obtain ⟨B,ay⟩:∃ B,cD S H (l.take 3)=B:=⟨_,rfl⟩;rw [aT,aU,ay] at aa;rw [ay] at o av;obtain ⟨m4,aV⟩:∃ m,(cE (S.kd % 8) S.a S.b S.h).length=m:=⟨_,rfl⟩;rw [aV] at aa ⊢;obtain ⟨v1,v2,tv,cv,ov,rfl,g1,g2,g3,g4,g5⟩:=id o;obtain ⟨B1,d1,rfl,_⟩:=id g1;obtain ⟨B2,d2,rfl,_⟩:=id g2;obtain ⟨B3,d3,rfl,_⟩:=id g3;obtain ⟨B4,d4,rfl,_⟩:=id g4;obtain ⟨B5,d5,rfl,_⟩:=id g5;obtain ⟨n,hn⟩:∃ n,B.obs.length=n:=⟨_,rfl⟩;simp only [aw,hn] at o av ⊢;refine Us 3 Z ?_;refine UH U5 (fun b7=>?_);refine Ux (j:=0) U12 ?_;refine C4 1 [1,5,7,8] f Z ?_;clear f R;refine Ul 2 [1,5,7,34] Z ?_;refine Uo (fun az=>?_) fun az=>?_
 ·refine Ul 1 [6] Z ?_;refine Ut U2 ?_;exact ⟨Z,Z⟩
 have h:=aa (by simpa using az);have bl:=o;refine G.freeze 0 Z (fun _ _ J=>?_);refine Um 2 Z fun R f=>?_;refine Un (bkT J 1) U8 ?_;refine Up U6 ?_;refine UT (Nn _ b n hb om_) U7 fl_ (fun bm _ _ Q=>?_);obtain ⟨s,hs⟩:∃ s,b % 2 ^ n=s:=⟨_,rfl⟩;have aX:s<2 ^ n:=by rw [<- hs];exact Rs _ (Nat.two_pow_pos n)
 rw [hs] at Q;obtain ⟨As,ab,rfl,aA,bn,_⟩:=id Q;have E:AscIn B.obs.length (cW s):=by rw [hn];exact HX om_ aX
 obtain ⟨ls,aB⟩:∃ ls,cW s=ls:=⟨_,rfl⟩;rw [aB] at E Q aA;have K:=Q;rw [aB,aw];rw [aw] at K aA;have aC:=h.cnt E.set;have hZ:=h.rich.bookz u.m_ o;have T:=h.rowsQ E.set;have aD:=h.q22 E.set;have bo:=h.n12;have aY:uY (bs B*bp B) ((rwS B RO ls).map dz) ((List.replicate (bs B*bp B) (0:Rat)).map qtx)=0:=nk om_ (by have:=T.m;unfold rwS;omega) T.l aD am (fun x hx=>by rw [(List.mem_replicate.1 hx).2];exact QB_zero.le dc_);have aZ:∀ s∈(List.replicate (bs B*bp B) (0:Rat)).map qtx,s.length<=999998:=fun s hs=>by obtain ⟨q,hq,rfl⟩:=QO.1 hs;rw [(List.mem_replicate.1 hq).2];exact Q0 (bG (k:=22) (QB_zero.le dc_) dc_) dc_
 have aE:(rwS B RO ls).length<=150:=T.m;refine C4 1 [5,7,9] f Z ?_;clear f R;refine Uq fun R f=>?_;refine Un (bkT J 5) U8 ?_;refine Up U6 ?_;refine UT (yK _ _ _ B (bj (bi B) RO ls) hZ.m_ om_ (by unfold dT at aC;rw [aw] at aC;omega) (eP _ u.m_ _ _ o.m_ h E.set K.m_)) U7 fl_ (fun bq _ _ a0=>?_);obtain ⟨rv,br,rfl,ac,aF⟩:=a0;obtain ⟨ws,bt,_,a1⟩:=id ac;obtain ⟨Ar,cr,rfl,_⟩:=id a1;obtain ⟨k,hk⟩:∃ k,(List.zipWith (fun (w:Value)(r:List Str × Str)=>[w,ai r.2]) ws ((gG ((bj (bi B) RO ls).map SrcQ.r)).map dz)).length=k:=⟨_,rfl⟩;have bu:k<=150:=by
  have e:((gG ((bj (bi B) RO ls).map SrcQ.r)).map dz).length<=150:=by rw [aw];exact aE
  rw [<- hk,List.length_zipWith];omega
 rw [hk] at ac ⊢;obtain ⟨Ao,co,rfl,_⟩:=id aF;refine Us 3 Z ?_;refine UH U5 (fun ad=>?_);refine Ux (j:=0) U12 ?_;refine C4 1 [5,7,9,10] f Z ?_;clear f R;refine G.freeze 0 Z (fun _ _ aG=>?_);refine UN [(2,3)] Z (fun R f=>?_);refine Un (bkT J 5) U8 ?_;refine Up U6 ?_;refine D.call (FU _ u.m_ _ _ B fs RO ls o.m_ h E K.m_) Z (.inr dc_) U6 (QL _) fl_ (fun bw _ bx _ a2=>?_);obtain ⟨U,V,F,rfl,rfl,a3,a4⟩:=a2;have aH:F.length<=150/\∀ q∈F,QB 16 q:=by
  cases hh:gS B RO ls with
  | true=>rw [a3 hh];exact ⟨QK _,fun _ h=>nomatch h⟩
  | false =>
   obtain ⟨du,hi,rfl⟩:=a4 hh;exact ⟨by rw [NG];exact aE,Qu hi⟩
 refine Us 4 Z ?_;refine UH U5 (fun t=>?_);refine Ux (j:=0) U12 ?_;refine C4 2 [5,7,9,10,12,14] f Z ?_;clear f R;refine Um 1 Z fun R f=>?_;refine Uu af U9 ?_;refine C4 2 [5,7,9,10,12,14,56] f Z ?_;clear f R;refine G.cut (fun fr C' v L=>∃ (A:Option Addr)(c:Nat)(d:List Str),(d.length<=150/\∀ s∈d,s.length<=999998)/\fr=[(5,[],.pointer (some ⟨b5,0,none⟩)),(7,[],.pointer (some ⟨b7,0,none⟩)),(9,[],.slice As ls.length ab),(10,[],.pointer (some ⟨ad,0,none⟩)),(12,[],.pointer (some ⟨t,0,none⟩)),(14,[],.int .i64 0)]/\v=[.obj t (.cells ⟨[.slice A d.length c]⟩ 75 (0,0)),.arr (.slice A d.length c) 56 1 d.length (d.map eL).flatten]) ?_ (fun fr _ bz L _ M=>?_)
 ·refine Uo (fun aI=>?_) fun aI=>?_
  ·have a5:F=[]:=by
    have h0:((F.length:Int)=0):=by simpa using aI
    exact Rn om_
   subst a5;refine Um 1 Z fun R f=>?_;refine Un (bkT aG 1) U8 ?_;refine C4 2 [5,7,9,10,12,14,59,60] f Z ?_;clear f R;refine G.loop (fun fr C' v L=>∃ (i:Nat)(A:Option Addr)(c:Nat),(i<=k)/\fr=[(5,[],.pointer (some ⟨b5,0,none⟩)),(7,[],.pointer (some ⟨b7,0,none⟩)),(9,[],.slice As ls.length ab),(10,[],.pointer (some ⟨ad,0,none⟩)),(12,[],.pointer (some ⟨t,0,none⟩)),(14,[],.int .i64 0),(59,[],.int .i64 k),(60,[],.int .i64 i)]/\v=[.obj t (.cells ⟨[.slice A i c]⟩ 75 (0,0)),.arr (.slice A i c) 56 1 i ((List.replicate i ([48]:Str)).map eL).flatten]/\L=k-i) (hn_ [5,7,9,10,12,14,59,60] Z) ⟨0,U,V,QK _,Z,Z,Z⟩ (fun fr bA bB m _ M=>?_);obtain ⟨i,A,c,hi,rfl,rfl,rfl⟩:=M;refine Ul 1 [5,7,9,10,12,14,59,60,61] Z ?_;refine Uo (fun ag=>?_) fun ag=>?_
   ·have a6:i<k:=by
     have:=aW (by exact ag);omega
    refine Um 1 Z fun R f=>?_;refine Uu af U9 ?_;refine UI [[ai [48]]] U12 (fun bC _ _ a7=>?_);refine UP (j:=1) U11 a7 Z ax (by show (i+1)*16<=_;omega) fl_ (fun aj bD ak=>?_);refine Up U6 ?_;refine Ux (j:=1) U12 ?_;refine Ur [5,7,9,10,12,14,59,60] f Z ?_;clear f R;refine Uq fun R f=>?_;refine Uw _ U7 ?_;refine C4 1 [5,7,9,10,12,14,59,60] f Z ?_;clear f R;refine VN ae (fun _ _ N _=>?_);cases N
    refine UE (L':=[.obj t (.cells ⟨[.slice aj (i+1) ak]⟩ 75 (0,0)),.arr (.slice aj (i+1) ak) 56 1 (i+1) ((List.replicate (i+1) ([48]:Str)).map eL).flatten]) (by rw [List.replicate_succ',Rj,Ri];rfl) ?_;refine UA (m':=k-(i+1)) om_ mup (hn_ [5,7,9,10,12,14,59,60] Z) ⟨i+1,aj,ak,by omega,Z,Z,Z⟩
   have a6:i=k:=by
    have:=QJ (by exact ag);omega
   refine UE (L':=[.obj t (.cells ⟨[.slice A (List.replicate i ([48]:Str)).length c]⟩ 75 (0,0)),.arr (.slice A (List.replicate i ([48]:Str)).length c) 56 1 (List.replicate i ([48]:Str)).length ((List.replicate i ([48]:Str)).map eL).flatten]) (by rw [Sc]) ?_;refine UB 0 mup (hn_ [5,7,9,10,12,14] Z) ⟨A,c,List.replicate i [48],⟨by rw [Sc];omega,fun s hs=>by rw [(List.mem_replicate.1 hs).2];decide⟩,Z,Z⟩
  refine UE (L':=[.obj t (.cells ⟨[.slice U (F.map qtx).length V]⟩ 75 (0,0)),.arr (.slice U (F.map qtx).length V) 56 1 (F.map qtx).length ((F.map qtx).map eL).flatten]) (by rw [aw,jB];rfl) ?_;refine UB 0 (Mem.le.refl _) (hn_ [5,7,9,10,12,14] Z) ⟨U,V,F.map qtx,⟨by rw [aw];exact aH.1,fun s hs=>by
   obtain ⟨q,hq,rfl⟩:=QO.1 hs;exact Q0 (bG (aH.2 q hq) dc_) dc_⟩,Z,Z⟩
 obtain ⟨A ,c ,d,al,rfl,rfl⟩:=M;refine Um 1 Z fun R f=>?_;refine Uu af U9 ?_;refine C4 2 [5,7,9,10,12,14,15] f Z ?_;clear f R;refine Um 4 Z fun R f=>?_;refine UQ U6 (fun _=>PtrTo.blockT (Mem.get I mup) _ 1) U3 ?_;refine Vq U6 om_ om_ U2 ?_;refine Up U6 ?_;refine UM U8 ?_;refine Ur [5,7,9,10,12,14,15,78] f Z ?_;clear f R;refine G.cut (fun fr C' v L=>∃ (A:Option Addr)(c:Nat)(d:List Str),(d.length<=151/\∀ s∈d,s.length<=999998)/\fr=[(7,[],.pointer (some ⟨b7,0,none⟩)),(9,[],.slice As ls.length ab),(10,[],.pointer (some ⟨ad,0,none⟩)),(12,[],.pointer (some ⟨t,0,none⟩)),(14,[],.int .i64 0)]/\v=[.obj t (.cells ⟨[.slice A d.length c]⟩ 75 (0,0)),.arr (.slice A d.length c) 56 1 d.length (d.map eL).flatten]) ?_ (fun fr _ bE L _ M=>?_)
 ·refine Uo (fun aJ=>?_) fun aJ=>?_
  ·have aL:0<d.length:=by
    have e:(decide ((d.length:Int) > 0) && decide (((cm:Int).tmod 4) > 0))=true:=aJ;rw [QT] at e;have:=aW e.1;omega
   refine VN ae (fun _ _ N a8=>?_);cases N
   obtain ⟨g,rfl⟩:=a8 aL;have a9:p % d.length<d.length:=Rs _ aL;refine UJ [0,1,2,3,4,5,6,7,8,9,10] [(4,0)] Z kr_ (fun R o f=>?_);refine Up U6 ?_;refine Uu af U9 ?_;refine Up U6 ?_;refine Un (bkT I 1) U8 ?_;refine Vs (c:=(p:Int)) U8 (wrap_i64 om_ om_) U2 ?_;refine Up U6 ?_;refine Vq U6 om_ om_ U2 ?_;refine Up U6 ?_;refine Un (bkT I 1) U8 ?_;refine UR ((p % d.length)*1) U10 ah U2 ?_;refine UW (j:=1) U11 (by show (p % d.length)*1+1<=_;rw [bO xn];omega) ?_;refine Ur [7,9,10,12,14] f Z ?_;clear f o R;refine G.perm _ (List.Perm.swap _ _ _) ?_;refine UE (L':=[.obj t (.cells ⟨[.slice (some ⟨g,0,none⟩) (d.set (p % d.length) y).length c]⟩ 75 (0,0)),.arr (.slice (some ⟨g,0,none⟩) (d.set (p % d.length) y).length c) 56 1 (d.set (p % d.length) y).length ((d.set (p % d.length) y).map eL).flatten]) (by rw [RD,<- bK xn _ a9];rfl) ?_;refine UB 0 mup (hn_ [7,9,10,12,14] Z) ⟨_,c,d.set (p % d.length) y,⟨by rw [RD];omega,fun s hs=>by
    rcases SX hs with h1 | h1
    ·exact al.2 s h1
    rw [h1];omega⟩,rfl,rfl⟩
  refine Um 1 Z fun R f=>?_;refine Un (bkT I 1) U8 ?_;refine Vq U6 om_ om_ U2 ?_;refine C4 1 [5,7,9,10,12,14,92] f Z ?_;clear f R;refine Uo (fun ba=>?_) fun ba=>?_
  ·refine Um 1 Z fun R f=>?_;refine Uu af U9 ?_;refine Up U6 ?_;refine Un (bkT I 1) U8 ?_;refine UI [[ai y]] U12 (fun bF _ _ bb=>?_);refine UP (j:=1) U11 bb Z ax (by show (d.length+1)*16<=_;omega) fl_ (fun an bH ao=>?_);refine Up U6 ?_;refine Ux (j:=1) U12 ?_;refine Ur [7,9,10,12,14] f Z ?_;clear f R;refine VN ae (fun _ _ N _=>?_);cases N
   refine UE (L':=[.obj t (.cells ⟨[.slice an (d++[y]).length ao]⟩ 75 (0,0)),.arr (.slice an (d++[y]).length ao) 56 1 (d++[y]).length ((d++[y]).map eL).flatten]) (by rw [QM,Rj,Ri];rfl) ?_;refine UB 0 mup (hn_ [7,9,10,12,14] Z) ⟨an,ao,d++[y],⟨by rw [QM,aK];omega,fun s hs=>by
    rcases QX.1 hs with h1 | h1
    ·exact al.2 s h1
    rw [Q3.1 h1];omega⟩,rfl,rfl⟩
  refine UB 0 mup (hn_ [7,9,10,12,14] Z) ⟨A,c,d,⟨by omega,al.2⟩,Z,Z⟩
 obtain ⟨A ,c ,d,ap,rfl,rfl⟩:=M;refine G.freezeArr 1 (d.map eL) rfl rfl (fun r hr=>by obtain ⟨s,_,rfl⟩:=QO.1 hr;rfl) am (fun _ _ W=>?_);refine G.freeze 0 Z (fun _ _ X=>?_);obtain ⟨ds,aq⟩:=Ps d;obtain ⟨rz,Y⟩:∃ z,FG (bs B*bp B) ((rwS B RO ls).map dz) ((List.replicate (bs B*bp B) (0:Rat)).map qtx) d (rwS B RO ls) ds=z:=⟨_,rfl⟩;obtain ⟨O,aM⟩:∃ O,bR (usN (obF B RO ls) d)=O:=⟨_,rfl⟩;refine Uq fun R f=>?_;refine Un (bkT aG 3) U8 ?_;refine Un (bkT X 1) U8 ?_;refine UC (LL Y (pE _ u.m_ (bs B*bp B) _ _ _ ((rwS B RO ls).map dz) ((List.replicate (bs B*bp B) (0:Rat)).map qtx) d (rwS B RO ls) ds ac.m_ (by rw [<- jB];exact aF.mono mup) (Fy aD) aZ W.m_ ap.2 (fun _=>⟨Z,T⟩) aq)) U7 fl_ ?_;refine C4 1 [7,9,12,14,16] f Z ?_;clear f R;refine Uq fun R f=>?_;refine Un (bkT J 5) U8 ?_;refine Up U6 ?_;refine Un (bkT X 1) U8 ?_;refine UT (Iy _ u.m_ _ _ _ B fs RO ls d ds o.m_ h E K.m_ W.m_ ap.2 om_ aq) U7 fl_ (fun bI _ _ aN=>?_);rw [Y] at aN;obtain ⟨Au,nu,cu,rfl,bc,aO⟩:=Mh aN;rw [aM] at aO;refine C4 5 [7,9,12,14,16,17,18] f Z ?_;clear f R;refine Um 3 Z fun R f=>?_;refine UQ U6 (fun _=>PtrTo.blockT (Mem.get J mup) _ 5) U3 ?_;refine Up U6 ?_;refine UQ U6 (fun _=>PtrTo.blockT (Mem.get X mup) _ 1) U3 ?_;refine UU (fun _=>(LL Y (pp _ u.m_ _ _ _ B fs RO ls d ds o.m_ h E K.m_ W.m_ ap.2 aq))) U9 ?_;refine Us 2 Z ?_;refine US U8 ?_;refine Us 4 Z ?_;refine US U8 ?_;refine Ur [7,9,12,16,17,124] f Z ?_;clear f R;refine Uo (fun aP=>?_) fun aP=>?_
 ·exact absurd aP am
 refine UN [(15,2)] Z (fun R f=>?_);refine Us 6 Z ?_;refine UM U8 ?_;refine Us 5 Z ?_;refine UQ U6 (fun _=>PtrTo.blockT (Mem.get J mup) _ 5) U3 ?_;refine Up U6 ?_;refine UQ U6 (fun _=>PtrTo.blockT (Mem.get X mup) _ 1) U3 ?_;refine WJ (fun x:Option Addr × Nat=>.slice x.1 O.length x.2) (fun bd=>(OX aM (JT _ u.m_ _ _ _ B fs RO ls d o.m_ h E K.m_ W.m_ (by rw [Gk];exact Bh (Y.trans (aW (by exact bd.1))) aY)))) Z Z Z Z Z Z Z fl_ Z Z (fun bJ _ _ be=>?_);refine UK (fun hg=>(by exact pX _ _ _ O O ((aO (aW (by exact hg.1))).mono mup) ((be hg).mono mup))) U9 ?_;refine UM U8 ?_;refine US U8 ?_;refine C4 1 [6] f Z ?_;clear f R;refine Ut U2 ?_;refine ⟨?_,Z⟩;by_cases hz:rz=0
 ·simp [hz]
 simp [hz,bc hz]
end Go.Proofs.YthnpijdjlddpmaaGreatDoor
