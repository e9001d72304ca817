/- Laws that the proofs of this seat share, part 16. -/
import Derived.Test.YtfjcldheldflbaaGreatDoorG15
import Derived.Test.YtfjcldheldflbaaGreatDoorShelf
set_option maxHeartbeats 4000000
namespace Go.Proofs.YtfjcldheldflbaaGreatDoor
open Go Go.Jog
set_option maxRecDepth 100000
variable {B B':Bk}{RO:Nat->List RowQ}{a b c:Int}{cc:Nat->Rat}{d:Int}{f fs:List Rat}{i:Nat}{kd:Int}{l:List Sgt}{m:Nat}{o:Obs}{p:Pt}{pt:Nat->Rat}{pts:List Pt}{q:Rat}{s:Nat}{t:Tri}{u:Value}{v:Rat}{w x:Int}{y:Nat->Rat}{z:Rat}
theorem DB (h:(cE B.col o).length<=2):(rowsO B o p t z).length<=8:=by
 unfold rowsO;split
 ·rw[QG];split <;> split <;> simp
 split
 ·have:=Ki (c:=2) (f:=fun k=>[1, -1].map (gV (bs B) (bp B) k (atT t (wgt B.pts t p)) (lk o z))) (l:=cE B.col o) (fun k _=>by simp);omega
 have:=Ki (c:=4) (f:=fun k=>[1, -1].map (gV (bs B) (bp B) k (atT t fun j=>(slf B.pts t j).1) (qL o))++[1, -1].map (gV (bs B) (bp B) k (atT t fun j=>(slf B.pts t j).2) (jh o))) (l:=cE B.col o) (fun k _=>by simp);omega
theorem re (S:Sht)(H:Hts)(l:List Sgt)(c:∀ s∈l,SgtR s):Calm (dW S H l) (fsK (cA (S.kd % 8) S.a S.b S.h).length H) (roK S H l):=by
 have e:=hU (S.kd % 8) S.a S.b S.h;have f:(dW S H l).obs.length=min l.length 6:=jP S l;refine⟨Et S H l c, ?_,Bc Qs _,fun i g=>?_, ?_,fun i _=>?_,by omega⟩
 ·show 2*(cA (S.kd % 8) S.a S.b S.h).length<=12;omega
 ·have d:i<l.length:=by omega
  refine OX S H l _ i ?_;rw[am,aj d];exact c _ (Rv d)
 ·have h1:=jH (bs (dW S H l)) (bp (dW S H l)) colK 1;have h2:bp (dW S H l)<=6:=e;show(bh (bs (dW S H l)) (bp (dW S H l)) colK 1).length<=24;omega
 refine DB ?_;unfold cE wm;refine QW (Sm _ _) ?_;rw[RV];exact Qz 2
theorem H6 (S:Sht)(H:Hts)(l:List Sgt):bs (dW S H l)=2/\bp (dW S H l)<=6:=⟨CS S H l,hU (S.kd % 8) S.a S.b S.h⟩
def duL (rs:List (List Rat × Rat))(du:Nat->Rat):List Rat:=(List.range rs.length).map du
theorem H2 {D:Mem}(h:BuiO B RO D u):∃ (A:Option Addr)(n c:Nat)(A2:Option Addr)(n2 c2:Nat)(a:Bool),u=.tuple #[.slice A n c,.agg ⟨[.slice A2 n2 c2]⟩,.bool a,.int .i64 0] /\
  ((a=true/\n2=0/\∃ pt,(nI B RO).At pt/\Lp.CmD (bs B*bp B) 20 pt/\(∀ j,QB 20 (pt j))/\FieldsIn D (.slice A n c) (yL (bs B) (bp B) pt)) ∨
  (a=false/\n=0/\∃ du,Lp.InfR (nI B RO) 20 du/\Sl D 1 (.slice A2 n2 c2) ((duL (eO (dP B RO)) du).map aQ))):=by
 cases h with
|yes pt v h1 h2 h3 h4 =>
  obtain⟨vs,_,_,h5⟩:=id h4;obtain⟨A,c,rfl,_⟩:=id h5;exact⟨_,_,_,_,_,_,true,Z,.inl ⟨Z,Z,pt,h1,h2,h3,h4⟩⟩
|no du b h1 h2 =>
  obtain⟨A,c,rfl,_⟩:=id h2;refine⟨_,_,_,_,_,_,false,Z,.inr ⟨Z,Z,du,h1, ?_⟩⟩;have e:duL (eO (dP B RO)) du=(List.range (dP B RO).length).map du:=by unfold duL;rw[eO,ar]
  rw[e];exact h2
theorem wC (h:(qtx q).length<=20):q.num.natAbs<=100000000000000000000/\q.den<=100000000000000000000:=by
 have h1:(bj q.num.natAbs).length<=20:=by
  unfold qtx at h;simp only[QG]at h;omega
 have h2:(bj q.den).length<=20:=by
  by_cases a:q.den=1
  ·rw[a];decide +kernel
  unfold qtx at h;rw[eN a]at h;simp only[QG,df,QT]at h;omega
 have b:∀ k:Nat,(bj k).length<=20->k<=100000000000000000000:=fun k c=>by
  have e:=dz (bk k).1.1;rw[(bk k).2]at e;have h3:10 ^ (bj k).length<=10 ^ 20:=QZ dc_ c;omega
 exact⟨b _ h1,b _ h2⟩
def Eb:Nat:=10000000000000000000000000000000000000000000000000
theorem tQ (a:cj (cor pts t 0) (cor pts t 1) (cor pts t 2)≠0) :
  wgt pts t p 0*fz fs t 0+wgt pts t p 1*fz fs t 1+wgt pts t p 2*fz fs t 2=onQ pts fs t p:=by
 unfold onQ Fh dC nL wgt;simp only[Tc,List.foldl_nil];show cj p (cor pts t 1) (cor pts t 2) / _*_+cj p (cor pts t 2) (cor pts t 0) / _*_+cj p (cor pts t 0) (cor pts t 1) / _*_=_;unfold cj at a⊢;unfold eD;generalize fz fs t 0=b;generalize fz fs t 1=c;generalize fz fs t 2=d;generalize (cor pts t 0).1=x0 at a⊢;generalize (cor pts t 0).2=y0 at a⊢;generalize (cor pts t 1).1=x1 at a⊢;generalize (cor pts t 1).2=y1 at a⊢;generalize (cor pts t 2).1=x2 at a⊢;generalize (cor pts t 2).2=y2 at a⊢;generalize p.1=px;generalize p.2=py;grind
theorem Gu (q:Rat):q*((q.den:Int):Rat)=(q.num:Rat):=by
 have h:(q.den:Rat)≠0:=by
  rw[<- Rat.intCast_natCast];exact fun e=>q.den_nz (by have:=Rat.intCast_eq_zero_iff.mp e;omega)
 have e:=Rat.num_divInt_den q;rw[Rat.divInt_eq_div]at e;rw[Rat.intCast_natCast]at e⊢;generalize (q.den:Rat)=d at *;generalize (q.num:Rat)=n at *;rw[<- e];grind
theorem KR {u v:Pt}{y z:Int}(e:p.1*(b:Rat)=a)(f:p.2*(d:Rat)=c)(g:At4 u x y)(h:At4 v z w) :
  cj p u v*16*((b*d:Int):Rat)=((b*d*(x*w-y*z)-4*(a*d*(w-y))+4*(c*b*(z-x)):Int):Rat):=by
 obtain⟨u1,i⟩:=g;obtain⟨j,k⟩:=h;unfold cj;simp only[Rx,Tu,SX];rw[<- e,<- f,<- u1,<- i,<- j,<- k];rw[show((4:Int):Rat)=4 from rfl];grind
theorem Pi {y z:Int}(g:a.natAbs<=100000000000000000000)(e:b.natAbs<=100000000000000000000)(h:c.natAbs<=100000000000000000000)(f:d.natAbs<=100000000000000000000)(i:-600<=x/\x<=600)(j:-600<=y/\y<=600)(k:-600<=z/\z<=600)(l:-600<=w/\w<=600) :
  (b*d*(x*w-y*z)-4*(a*d*(w-y))+4*(c*b*(z-x)):Int).natAbs<=Eb:=by
 have h1:=da (a:=x) (b:=w) (M:=600) (K:=600) om_ om_;have h2:=da (a:=y) (b:=z) (M:=600) (K:=600) om_ om_;have h3:=da (da e f) (b:=x*w-y*z) (K:=720000) om_;have h4:=da (da g f) (b:=w-y) (K:=1200) om_;have h5:=da (da h e) (b:=z-x) (K:=1200) om_;unfold Eb;omega
theorem EY (e:∀ j,Qtr (cor pts t j))(g:cj (cor pts t 0) (cor pts t 1) (cor pts t 2)≠0)(h:(qtx p.1).length<=20)(i:(qtx p.2).length<=20) :
  ∃ D:Int,D≠0/\D.natAbs<=Eb/\∀ j,∃ N:Int,wgt pts t p j*(D:Rat)=N/\N.natAbs<=Eb:=by
 obtain⟨n1,J⟩:=wC h;obtain⟨n2,L⟩:=wC i;have k:=Gu p.1;have l:=Gu p.2;obtain⟨x0,y0,h0,m,o⟩:=e 0;obtain⟨x1,y1,h3,q,r⟩:=e 1;obtain⟨x2,y2,h4,s,u⟩:=e 2;have f:=kg h0 h3 h4;obtain⟨v,_⟩:=pA (n:=0) (N:=0) aq f g;have B:=xA (x0:=x0) (y0:=y0) (x1:=x1) (y1:=y1) (x2:=x2) (y2:=y2) ⟨m,o,q,r,s,u⟩;have C:(p.1.den:Int)≠0:=by have:=p.1.den_nz;omega
 have E:(p.2.den:Int)≠0:=by have:=p.2.den_nz;omega
 refine⟨iA x0 y0 x1 y1 x2 y2*((p.1.den:Int)*(p.2.den:Int)),Int.mul_ne_zero v (Int.mul_ne_zero C E), ?_,fun j=>?_⟩
 ·have h5:=da B (da (a:=(p.1.den:Int)) (b:=(p.2.den:Int)) (M:=100000000000000000000) (K:=100000000000000000000) om_ om_);unfold Eb;omega
 obtain⟨x,y,F,G,du⟩:=e ((j+1) % 3);obtain⟨z,w,H,bv,I⟩:=e ((j+2) % 3);refine⟨_, ?_,Pi (a:=p.1.num) (b:=p.1.den) (c:=p.2.num) (d:=p.2.den) n1 om_ n2 om_ G du bv I⟩;rw[<- KR k l F H,Rx,<- f];unfold wgt;generalize cj p (cor pts t ((j+1) % 3)) (cor pts t ((j+2) % 3))=A at *;generalize cj (cor pts t 0) (cor pts t 1) (cor pts t 2)=V at *;grind
theorem Pz (h:Lp.Quo (200*Eb) q):QB 22 q:=h.qb (by unfold Eb;decide +kernel)
theorem Mv (f:∀ j,Qtr (cor pts t j))(d:cj (cor pts t 0) (cor pts t 1) (cor pts t 2)≠0)(c:∀ j,Hlf (fz fs t j))(g:(qtx p.1).length<=20)(h:(qtx p.2).length<=20) :
  (∀ j,QB 22 (wgt pts t p j))/\QB 22 (onQ pts fs t p):=by
 obtain⟨D,i,v,a⟩:=EY f d g h;refine⟨fun j=>?_, ?_⟩
 ·obtain⟨N,e,w⟩:=a j;exact Pz ⟨N,D,i,e,by omega,by omega⟩
 obtain⟨k,l,n0⟩:=a 0;obtain⟨m,n,n1⟩:=a 1;obtain⟨o,q,n2⟩:=a 2;obtain⟨k0,r,x⟩:=c 0;obtain⟨k1,s,y⟩:=c 1;obtain⟨k2,u,z⟩:=c 2;have A:=da n0 (b:=k0) (K:=38) om_;have B:=da n1 (b:=k1) (K:=38) om_;have C:=da n2 (b:=k2) (K:=38) om_;refine Pz ⟨k*k0+m*k1+o*k2,2*D,by omega, ?_,by omega,by omega⟩;rw[<- tQ d];simp only[Rx,Tu];rw[<- l,<- n,<- q,<- r,<- s,<- u];rw[show((2:Int):Rat)=2 from rfl];grind
theorem AP {n a:Nat}{t:Tri}{w:Nat->Rat}:∀ {j:Nat}{x:Rat},x∈jF n a t w j->x=0∨∃ i,x=w i
|0,x,h=>.inl (List.mem_replicate.1 h).2
|j+1,x,h=>by
  rcases RS h with h|h
  ·exact AP h
  exact .inr ⟨j,h⟩
theorem Ja (c:List Rat):sgL c 0=c:=by
 unfold sgL oh;rw[aJ rfl];refine(List.map_congr_left fun x _=>Rat.one_mul x).trans (List.map_id _)
theorem FC {n a:Nat}{t:Tri}{w:Nat->Rat}:∀ j,sgL (jF n a t w j) 1=jF n a t (fun i=>-w i) j
|0=>by
  unfold sgL jF oh;rw[Ta,aF dc_,show(-1:Rat)*0=0 by decide +kernel]
|j+1=>by
  have h:=FC (n:=n) (a:=a) (t:=t) (w:=w) j;unfold sgL at h⊢;rw[jF,jF,List.map_set,h];unfold oh;rw[aF dc_,show(-1:Rat)*w j=-w j by grind]
theorem wD {a:Nat}(h:Calm B fs RO)(c:∀ j,Qtr (cor B.pts t j))(d:cj (cor B.pts t 0) (cor B.pts t 1) (cor B.pts t 2)≠0)(f:(qtx p.1).length<=20)(g:(qtx p.2).length<=20)(k:Nat) :
  Lp.Lim (nI B RO) (fun j=>(sgL (jF (bs B*bp B) a t (wgt B.pts t p) 3) k).getD j 0) 20:=by
 obtain⟨D,l,m,n⟩:=EY c d f g;refine xt (M0:=Eb) h.n12 (h.rowI (dD B.obs.length)) ⟨D,l,m,fun j _=>?_⟩ (by unfold Eb;decide +kernel);have o:∀ x∈sgL (jF (bs B*bp B) a t (wgt B.pts t p) 3) k,∃ z:Int,x*(D:Rat)=z/\z.natAbs<=Eb:=fun x r=>by
  obtain⟨y,hy,rfl⟩:=QE.1 r;have b:∃ z:Int,y*(D:Rat)=z/\z.natAbs<=Eb:=by
   rcases AP hy with rfl|⟨i,rfl⟩
   ·exact⟨0,by rw[Rat.zero_mul];rfl,by simp⟩
   exact n i
  obtain⟨z,e,b⟩:=b;unfold oh;split
  ·exact⟨z,by rw[Rat.one_mul];exact e,b⟩
  exact⟨-z,by rw[Rat.intCast_neg,<- e];grind,by omega⟩
 rw[am];cases s:(sgL (jF (bs B*bp B) a t (wgt B.pts t p) 3) k)[j]? with
|none=>exact⟨0,by show(0:Rat)*_=_;rw[Rat.zero_mul];rfl,by simp⟩
|some q=>exact o q (aX s)
theorem Hp (l:List Str):∀ r∈l.map eA,r.length=1:=by
 intro r hr;obtain⟨y,_,rfl⟩:=QE.1 hr;rfl
theorem IH {p:Nat}{a:List (List Rat)}(c:a.length=s)(d:∀ f∈a,f.length=p)(e:∀ f∈a,∀ x∈f,QB 22 x):EJ s p (txs a)=0:=by
 unfold EJ txs;rw[aJ (by rw[ar];exact c)];refine qG fun j b=>?_;rw[ar]at b;rw[am,QD,aj b];have hm:=Rv b;show nR p (a[j].map qtx)=0;unfold nR;rw[aJ (by rw[ar];exact d _ hm),QX.2 fun x g=>?_]
 ·rfl
 obtain⟨q,h,rfl⟩:=QE.1 g;exact bi (e _ hm q h)
theorem zw (C:Mem)(c:Tabs C)(p v y:Value)(B:Bk)(r:List Rat)(N:Nat->List RowQ)(a:List (List Rat))(g:List Rat->Str)(d:Int)(sx sy:Str)(s:BookIn C p B)(h:Calm B r N)(ai:y=.agg ⟨[af sx,af sy]⟩)(z:FieldsIn C v (txs a))(ak:a.length=bs B)(al:∀ f∈a,f.length=bp B)(O:∀ f∈a,∀ x∈f,QB 22 x)
  (Q:∀ (f:List Rat)(i k S:Value)(D:Mem),(f=r∨f∈a)->Tabs D->MeshIn D (.agg ⟨[i,k]⟩) B.pts B.tris->Sl D 1 S (f.map eM)->Gives cx.P 15 [.agg ⟨[i,k]⟩,S,y] D (.tuple #[af (g f),.int .i64 d])) :
  Pur cx.P 27 [p,v,y] C fun u D=>∃ w,u=.tuple #[w,.int .i64 d]/\Sl D 1 w ((if d=0 then a.map g else []).map eA):=by
 subst ai;have T:=s;have U:=h.rich.bookz c s;have am:=h.rich.terr;have an:=h.cnt (dD B.obs.length);have aI:=h.ob;have aK:=h.n12;have aL:=h.rich.scol;have ao:∀ l∈txs a,∀ x∈l,x.length<=999998:=fun l V x hx=>by
  unfold txs at V;obtain⟨m,hm,rfl⟩:=QE.1 V;obtain⟨q,ap,rfl⟩:=QE.1 hx;exact QW (bg (O m hm q ap) dc_) dc_
 have aq:(txs a).length=a.length:=by simp[txs]
 have au:=IH ak al O;have W:∀ D:Mem,C.le D->Pur cx.P 54 [p] D fun u E=>∃ v,u=.tuple #[v,.int .i64 0]:=fun D X=>by
  have:=LW D (c.mono X) p B r N (s.mono X) h.rich om_ (by have:=an;rw[pq,ar]at this;omega);exact Fn.mono this fun u E A _ ⟨h1,v,h2,_⟩=>⟨h1,v,h2⟩
 obtain⟨vs,aw,ay,F⟩:=id z;obtain⟨Af,cf,rfl,az,_⟩:=id F;have aA:vs.length=a.length:=by rw[aw,aq]
 obtain⟨i,k,tv,cv,ov,rfl,h1,h2,h3,h4,h5⟩:=id s.ex;have hm:MeshIn C (.agg ⟨[i,k]⟩) B.pts B.tris:=⟨i,k,rfl,h1,h2⟩;rw[am.e,<- iv]at h3;obtain⟨A4,c4,rfl,_⟩:=id h3;simp only[ar,aA]at F az z W T U h3 hm⊢;have aM:maxLen<=9223372036854775807:=by simp[maxLen]
 refine Ur Tryz.func27 71 U3 fun w0=>Ul fun R b=>UC U6 fun b3=>UC U6 fun b5=>C6 2 [1,3,5] b Z<|G.freeze 1 Z fun _ _ n=>G.freeze 0 Z fun _ _ Y=>Ul fun R b=>Uj (bkT n 5) U8<|UR (W _ mup) U7 (fun aN _ _ aB=>?_);obtain⟨lv,rfl⟩:=aB;refine C6 5 [1,3,5,9] b Z<|Uh 2 [1,3,5,9,25] Z<|G.cd (fun aa=>?_) fun aa=>?_
 ·exact absurd aa dc_
 refine Ul fun R b=>Uj (bkT n 5) U8<|Uk U6<|UK (Dg _ c.m_ _ _ B (txs a) T.m_ h.rich.good U.m_ h.rich.h60 z.m_ ao om_) U7 fl_ (fun aO _ _ aC=>?_);obtain⟨wv,rfl,aP⟩:=aC;rw[au];refine C6 5 [1,3,5,11] b Z<|Uh 2 [1,3,5,11,34] Z<|G.cd (fun ab=>?_) fun ab=>?_
 ·exact absurd ab dc_
 refine Ui 1 Z fun R b=>Uj (bkT n 2) U8<|Uk U6<|Uj (bkT n 1) U8<|Uj (bkT Y 2) U8<|Ut (Q r _ _ _ _ (.inl Z) c.m_ hm.m_ h3.m_) U7<|C6 5 [1,3,5,13] b Z<|Uh 2 [1,3,5,13,46] Z<|G.cd (fun H=>?_) fun H=>?_
 ·have o:d≠0:=by simpa using H
  refine Uh 3 [6,7] Z<|Uv (G.dropAll (UH U3 ?_));exact⟨Z,_,Z,by rw[aF o];exact Sl.nil _ _⟩
 have o:d=0:=by simpa using H
 refine Uh 1 [1,3,5,14] Z<|Uh 3 [3,5,14,48,49,50] Z<|G.nilArr 32 1<|G.loop (fun fr C' A μ=>∃ (j:Nat)(I:Option Addr)(n1 J:Nat),(j<=a.length)/\fr=[(3,[],.pointer (some ⟨b3,0,none⟩)),(5,[],.pointer (some ⟨b5,0,none⟩)),(14,[],.slice I n1 J),(48,[],.slice Af a.length cf),(49,[],.int .i64 (a.length:Nat)),(50,[],.int .i64 j)]/\A=[.arr (.slice I n1 J) 32 1 j (((a.take j).map g).map eA).flatten]/\μ=a.length-j) (hn_ [3,5,14,48,49,50] Z) ⟨0,none,0,0,QH _,Z,Z,Z⟩ (fun fr aQ aR m _ hI=>?_);obtain⟨j,I,n1,J,hj,rfl,rfl,rfl⟩:=hI;refine Uh 1 [3,5,14,48,49,50,51] Z<|G.cd (fun K=>?_) fun K=>?_
 ·have t:j<a.length:=by
   have:=PZ K;omega
  obtain⟨f,L⟩:∃ f,a[j]?=some f:=⟨a[j]'t,aj t⟩;obtain⟨w,ac⟩:∃ w,vs[j]?=some w:=⟨vs[j]'om_,aj om_⟩;have aD:=aX L;have M:=ay j w (f.map qtx) ac (by unfold txs;rw[QD,L];rfl);rw[<- iv]at M;obtain⟨Aw,cw,rfl,_⟩:=id M;refine Ul fun R b=>Uy F.m_ U10 om_ (by rw[QD,ac];rfl:(vs.map fun w=>[w])[j]?=some [_]) fl_ fun aS aE=>Uj aE U8<|C6 1 [3,5,14,16,48,49,50] b Z<|Ui 1 Z fun R b=>Uj (bkT n 2) U8<|Uk U6<|Uj (bkT Y 2) U8<|Ut (Q f _ _ _ _ (.inr aD) c.m_ hm.m_ M.m_) U7<|C6 5 [3,5,14,17,18,48,49,50] b Z<|Uh 2 [3,5,14,17,18,48,49,50,63] Z<|G.cd (fun ad=>?_) fun ad=>?_
  ·exact absurd ad (by simpa using o)
  refine Ui 2 Z fun R b=>UF [[af (g f)]] U12 fun aT _ _ aG=>UP (j:=0) U11 aG Z ax (by show(j+1)*16<=_;omega) fl_ fun ae ag ah=>C6 1 [3,5,14,48,49,50] b Z<|Ul fun R b=>Uq _ Z U6<|C6 1 [3,5,14,48,49,50] b Z<|Uz (L':=[.arr (.slice ae ag ah) 32 1 (j+1) (((a.take (j+1)).map g).map eA).flatten]) (by rw[Q4,L];simp[eA])<|Uw (m':=a.length-(j+1)) om_ mup (hn_ [3,5,14,48,49,50] Z) ⟨j+1,ae,ag,ah,by omega,Z,Z,Z⟩
 have t:j=a.length:=by
  have:=QF K;omega
 subst t;refine Uh 3 [6,7] Z ?_;rw[QM];refine G.freezeArr 0 ((a.map g).map eA) Z Z (Hp _) (by rw[ar,ar]) fun Cf aU aH=>Uv (G.dropAll (UH U3 ?_));exact⟨Z,_,by rw[o],by rw[aJ o];exact aH⟩
theorem xF (h:i<m):(l.take m).getD i xn=l.getD i xn:=by
 rw[am,List.getElem?_take_of_lt h,<- am]
theorem JN (S:Sht)(h:m<=min l.length 6):rC S (l.take m)=(rC S l).take m:=by
 unfold rC;rw[QO,show min (min m l.length) 6=m by omega,<- SH,List.take_range,RD h];exact List.map_congr_left fun i a=>by rw[xF (QU.1 a)]
theorem Dz (a:B'.pts=B.pts)(b:B'.col=B.col):rowsO B' o p t z=rowsO B o p t z:=by
 obtain⟨c,d,e,f,g⟩:=B;obtain⟨h,i,j,c2,k⟩:=B';simp only at a b;subst a b;rfl
theorem MG (S:Sht)(H:Hts)(h:i<m):roK S H (l.take m) i=roK S H l i:=by
 unfold roK;rw[xF h];exact Dz Z Z
theorem PH {a:Nat->List RowQ}(b:B'.pts=B.pts)(c:B'.col=B.col)(g:B'.obs.length<=B.obs.length)(d:∀ i,i<B'.obs.length->a i=RO i)(e:(nI B RO).At y):(nI B' a).At y:=by
 obtain⟨j,k,l,m,n⟩:=B;obtain⟨o,p,q,c2,s⟩:=B';simp only at b c g d;subst b c;unfold nI at e⊢;refine gQ.2 fun r hr=>gQ.1 e r ?_;rw[dP,gU]at hr⊢;rcases QS.1 hr with hr|hr
 ·exact Sb _ hr
 obtain⟨i,h,hr⟩:=List.mem_flatMap.1 hr;have f:=QU.1 h;rw[d i f]at hr;exact Sk _ (List.mem_flatMap.2 ⟨i,QU.2 (by simp only at f⊢;omega),hr⟩)
theorem AR {p:Lp.Sys}(h:Lp.Val p cc kd v)(a:kd=1)(b:p.At y):v<=Lp.sumN (fun j=>cc j*y j) p.n:=by
 rcases h with⟨_,_,h⟩|⟨h,_⟩|⟨h,_⟩
 ·exact h y b
 ·rw[h]at a;cases a
 rw[h]at a;cases a
theorem AQ {p q:Lp.Sys}{a:Int}{w:Rat}(b:q.n=p.n)(c:∀ y,p.At y->q.At y)(i:p.Hold)(h:Lp.Val p cc kd v)(d:Lp.Val q cc a w)(f:a=1):kd=1/\w<=v:=by
 rcases h with⟨e,⟨y,hy,g⟩,_⟩|⟨_,j⟩|⟨_,_,k⟩
 ·refine⟨e, ?_⟩;have:=AR d f (c y hy);rw[b,g]at this;exact this
 ·exact absurd i j
 obtain⟨y,hy,g⟩:=k w;have:=AR d f (c y hy);rw[b]at this;grind
theorem OE {p:Lp.Sys}(b:p.Hold)(h:Lp.Val p cc kd v):kd≠2:=by
 intro e;rcases h with⟨a,_⟩|⟨_,c⟩|⟨a,_⟩
 ·rw[a]at e;cases e
 ·exact c b
 rw[a]at e;cases e
theorem qB {l:List Rat}{j:Nat}{x:Rat}(h:i<l.length):(l.set i x).getD j 0=if j=i then x else l.getD j 0:=by
 rw[am,List.getElem?_set];by_cases e:i=j
 ·rw[aJ e,aJ h,aJ e.symm];rfl
 rw[aF e,aF (Ne.symm e),am]
theorem Jo (n j:Nat):(List.replicate n (0:Rat)).getD j 0=0:=by
 rw[am,RZ];split <;> rfl
theorem OI {n a:Nat}{w:Nat->Rat}(e:a+dw t 0<n)(f:a+dw t 1<n)(g:a+dw t 2<n)(p:dw t 0≠dw t 1)(q:dw t 0≠dw t 2)(r:dw t 1≠dw t 2) :
  Lp.sumN (fun j=>(jF n a t w 3).getD j 0*y j) n=w 0*y (a+dw t 0)+w 1*y (a+dw t 1)+w 2*y (a+dw t 2):=by
 have h:∀ j,(jF n a t w 3).getD j 0=if j=a+dw t 2 then w 2 else if j=a+dw t 1 then w 1 else if j=a+dw t 0 then w 0 else 0:=fun j=>by
  rw[jF,qB (by rw[ef];exact g),jF,qB (by rw[ef];exact f),jF,qB (by rw[ef];exact e),jF,Jo]
 rw[Lp.sumN_at e,Lp.sumN_at f,Lp.sumN_at g,Lp.sumN_zero fun j _=>?_]
 ·have i:¬ a+dw t 0=a+dw t 1:=by omega
  have k:¬ a+dw t 0=a+dw t 2:=by omega
  have n12:¬ a+dw t 1=a+dw t 2:=by omega
  have l:¬ a+dw t 1=a+dw t 0:=by omega
  have m:¬ a+dw t 2=a+dw t 0:=by omega
  have o:¬ a+dw t 2=a+dw t 1:=by omega
  simp only[h,aF i,aF k,aF n12,aF l,aF m,aF o,SC];grind
 simp only[h];by_cases b:j=a+dw t 2
 ·rw[aJ b]
 rw[aF b];by_cases c:j=a+dw t 1
 ·rw[aJ c]
 rw[aF c];by_cases d:j=a+dw t 0
 ·rw[aJ d]
 rw[aF d,aF b,aF c,aF d];exact Rat.zero_mul _
theorem E7 (a:cj (cor pts t 0) (cor pts t 1) (cor pts t 2)≠0):dw t 0≠dw t 1/\dw t 0≠dw t 2/\dw t 1≠dw t 2:=by
 unfold cor at a;refine⟨fun e=>a ?_,fun e=>a ?_,fun e=>a ?_⟩
 ·rw[e];unfold cj;grind
 ·rw[e];unfold cj;grind
 rw[e];unfold cj;grind
theorem Qi (e:∀ j,Qtr (cor pts t j))(c:cj (cor pts t 0) (cor pts t 1) (cor pts t 2)≠0)(g:Qtr p)(h:∃ d:Int,d≠0/\d.natAbs<B9 ^ 20/\∀ j,∃ z:Int,fz f t j*(d:Rat)=z/\z.natAbs<B9 ^ 20):QB 22 (onQ pts f t p):=by
 obtain⟨W,i,k,a,_⟩:=E6 (fs:=[]) e c (fun j=>mh (P:=Hlf) (fun x l=>by cases l) oa) g;obtain⟨d,m,n,b⟩:=h;obtain⟨o,q,n0⟩:=a 0;obtain⟨r,s,n1⟩:=a 1;obtain⟨u,v,n2⟩:=a 2;obtain⟨k0,w,y⟩:=b 0;obtain⟨k1,A,B⟩:=b 1;obtain⟨k2,C,D⟩:=b 2;have G:=da n0 (TG y);have H:=da n1 (TG B);have I:=da n2 (TG D);have J:=da k (TG n);have E:9000000*B9 ^ 20<B9 ^ 22:=by decide +kernel
 have F:Lp.Quo (9000000*B9 ^ 20) (onQ pts f t p):=by
  refine⟨o*k0+r*k1+u*k2,W*d,Int.mul_ne_zero i m, ?_,by omega,by omega⟩;rw[<- tQ c];simp only[Rx,Tu];rw[<- q,<- s,<- v,<- w,<- A,<- C];grind
 exact F.qb E
theorem Bg {p:Nat}(h:f∈gT s p pt):∀ x∈f,∃ j,j<s*p/\x=pt j:=fun x a=>by
 obtain⟨i,_,rfl⟩:=QE.1 h;obtain⟨j,b,rfl⟩:=QE.1 (RQ (Tp a));exact⟨j,QU.1 b,Z⟩
theorem Mp {p:Nat}(h:f∈gT s p pt)(a:Lp.CmD (s*p) 20 pt):∃ d:Int,d≠0/\d.natAbs<B9 ^ 20/\∀ j,∃ z:Int,fz f t j*(d:Rat)=z/\z.natAbs<B9 ^ 20:=by
 obtain⟨d,h1,h2,h3⟩:=a;refine⟨d,h1,h2,fun j=>?_⟩;unfold fz;rw[am];cases b:f[dw t j]? with
|none=>exact⟨0,by show(0:Rat)*_=_;rw[Rat.zero_mul];rfl,by decide +kernel⟩
|some x =>
  obtain⟨i,c,rfl⟩:=Bg h x (aX b);exact h3 i c
theorem Fc {p:Nat}(a:0<s)(b:i<p):((gT s p pt).getD 0 []).getD i 0=pt i:=by
 have c:p<=s*p:=Nat.le_mul_of_pos_left p a;have e:(gT s p pt).getD 0 []=List.drop (0*p) (List.take ((0+1)*p) ((List.range (s*p)).map pt)):=by
  unfold gT;rw[am,QD,Rc a];rfl
 rw[e,Nat.zero_mul,RR,RK,SV,am,List.getElem?_take_of_lt b,QD,Rc om_];rfl
theorem lG {p:Nat}:(gT s p pt).length=s/\∀ f∈gT s p pt,f.length=p:=by
 refine⟨by simp[gT],fun f a=>?_⟩;obtain⟨j,b,rfl⟩:=QE.1 a;have c:=QU.1 b;have h1:(j+1)*p<=s*p:=Rq _ c;have h2:(j+1)*p=j*p+p:=Nat.succ_mul _ _;rw[SE,QO,ar,RV];omega
theorem uH (h:qe kd v≠[]):kd=1/\qe kd v=qtx v:=by
 unfold qe at h⊢;split
 ·rename_i e;exact⟨e,by rw[Rat.one_mul]⟩
 rename_i e;rw[aF e]at h;exact absurd rfl h
theorem ox (h:fP kd v≠[]):kd=1/\fP kd v=qtx (-v):=by
 unfold fP at h⊢;split
 ·rename_i e;exact⟨e,by rw[show(-1:Rat)*v=-v by grind]⟩
 rename_i e;rw[aF e]at h;exact absurd rfl h
theorem HO {a b:Rat}(h:a<=b):jt a b<=0:=by
 unfold jt;split
 ·decide
 split
 ·rename_i h2;exact absurd h (by grind)
 decide
theorem Eu (C:Mem)(j:Tabs C)(c d:Str)(a m b:Rat)(k:c≠[]->c=qtx a/\a<=m)(l:d≠[]->d=qtx b/\m<=b)(o:QB 22 a)(n:QB 22 m)(p:QB 22 b) :
  Gives cx.P 28 [af c,af (qtx m),af d] C (.bool true):=by
 refine Ur Tryz.func28 25 U3 fun w0=>Uh 1 [0,1,2] Z<|Ui 5 Z fun R q=>UG (fun g=>by
  have h:(c.toArray.toList == ([]:List UInt8))=false:=g.1;have i:c≠[]:=fun e=>by subst e;exact absurd h dc_
  have f:=gi _ j.m_ a m 22 dc_ dc_ o n;rw[<- (k i).1]at f;exact f) U9 ?_
 refine Uk U6<|UN U8<|Um 6 Z<|UG (fun g=>by
  have h:(d.toArray.toList == ([]:List UInt8))=false:=g.1;have i:d≠[]:=fun e=>by subst e;exact absurd h dc_
  have f:=gi _ j.m_ m b 22 dc_ dc_ n p;rw[<- (l i).1]at f;exact f) U9 ?_
 refine Uk U6<|UN U8<|UJ U8<|C6 1 [6] q Z<|Up U2<|⟨?_,Z⟩;have k1:(c.toArray.toList == ([]:List UInt8) || decide (jt a m<=0))=true:=by
  by_cases e:c=[]
  ·subst e;rfl
  rw[QV (HO (k e).2),Bool.or_true]
 have k2:(d.toArray.toList == ([]:List UInt8) || decide (jt m b<=0))=true:=by
  by_cases e:d=[]
  ·subst e;rfl
  rw[QV (HO (l e).2),Bool.or_true]
 exact congrArg Value.bool (show((c.toArray.toList == ([]:List UInt8) || decide (jt a m<=0)) && (d.toArray.toList == ([]:List UInt8) || decide (jt m b<=0)))=true by rw[k1,k2];rfl)
theorem E0 {a:List Tri}{r:List Nat}(b:jU pts a p=i::r)(c:a.getD i (0,0,0)=t)(h:QB 22 (onQ pts f t p)):AS pts a f p=.tuple #[af (qtx (onQ pts f t p)),.int .i64 0]:=by
 unfold AS;rw[b];show zh (onQ pts f (a.getD i (0,0,0)) p)=_;rw[c,zh,aJ (bi h)]
theorem sd {p:Lp.Sys}{e:List Rat}(h:Ih p e u)(g:p.Hold):∃ (c:Int)(a:Rat)(d:Int)(b:Rat),u=.tuple #[af (qe c a),af (fP d b),.int .i64 0]/\QB 22 a/\QB 22 b/\Lp.Val p (fun j=>(sgL e 0).getD j 0) c a/\Lp.Val p (fun j=>(sgL e 1).getD j 0) d b:=by
 obtain⟨c,a,d,b,⟨i,k⟩,h1,h2,h3⟩:=h;have f:=OE g h1;rcases h3 with⟨h3,_⟩|⟨_,rfl⟩
 ·exact absurd h3 f
 exact⟨c,a,d,b,Z,i.le dc_,k.le dc_,h1,h2 f⟩
theorem PD {a b:Rat}(h:b<=a):0<=jt a b:=by
 unfold jt;split
 ·rename_i h2;exact absurd h (by grind)
 split <;> decide
theorem Mf {w d f g:Str}{h b i c:Rat}(j:w≠[]->h<=b)(k:w≠[]->d=qtx b)(m:f≠[]->c<=i)(n:f≠[]->g=qtx c) :
  (((0:Int) == 0 && (w.toArray.toList == ([]:List UInt8) || (d.toArray.toList != ([]:List UInt8) && decide (jt h b<=0)))) && (f.toArray.toList == ([]:List UInt8) || (g.toArray.toList != ([]:List UInt8) && decide (0<=jt i c))))=true:=by
 have ne:∀ z:Rat,((qtx z).toArray.toList != ([]:List UInt8))=true:=fun z=>by
  have:=sf z;cases o:qtx z with
 |nil=>rw[o]at this;cases this
 |cons a l=>rfl
 have k1:(w.toArray.toList == ([]:List UInt8) || (d.toArray.toList != ([]:List UInt8) && decide (jt h b<=0)))=true:=by
  by_cases e:w=[]
  ·subst e;rfl
  rw[k e,ne,QV (HO (j e)),Bool.and_self,Bool.or_true]
 have k2:(f.toArray.toList == ([]:List UInt8) || (g.toArray.toList != ([]:List UInt8) && decide (0<=jt i c)))=true:=by
  by_cases e:f=[]
  ·subst e;rfl
  rw[n e,ne,QV (PD (m e)),Bool.and_self,Bool.or_true]
 rw[k1,k2];rfl
theorem DP (C:Mem)(o:Tabs C)(pv:Value)(a0 a1:Int)(S:Sht)(H:Hts)(l:List Sgt)(hP:Ii C pv S H l)(Y:PlanR S H l):Gives cx.P 5 [pv,.agg ⟨[.int .i8 a0,.int .i8 a1]⟩] C (.bool true):=by
 obtain⟨A,c,rfl,bo⟩:=hP;obtain⟨w,aq⟩:=gz (S.kd % 8) (Rj _ dc_) S.a S.b S.h;have aK:=uo (m:=S.kd % 8) (a:=S.a) (b:=S.b) (h:=S.h);have aa:=fun(t:Tri)(j:Nat)=>qQ (m:=S.kd % 8) (a:=S.a) (b:=S.b) (h:=S.h) (t:=t) j;obtain⟨B,E⟩:∃ B,dW S H l=B:=⟨_,rfl⟩;obtain⟨m,hm⟩:∃ m,B.obs.length-1=m:=⟨_,rfl⟩;obtain⟨g,L⟩:∃ g,dW S H (l.take m)=g:=⟨_,rfl⟩;have v:=re S H l Y.s;have ab:=re S H (l.take m) (fun s hs=>Y.s s (RQ hs));have aL:=fun(D:Mem)(hD:C.le D)=>GF D (o.mono hD) S H _ l Y.kd Y.h (bo.mono hD) Y.s w;have bq:=(H6 S H l).1;have b0:B.obs.length=min l.length 6:=by rw[<- E];exact jP S l
 have aM:cA (S.kd % 8) S.a S.b S.h=B.pts:=by rw[<- E];rfl
 have aN:shT (S.kd % 8)=B.tris:=by rw[<- E];rfl
 have F:g.pts=B.pts:=by rw[<- aM,<- L];rfl
 have ak:g.tris=B.tris:=by rw[<- aN,<- L];rfl
 have br:g.terr=B.terr:=by rw[<- E,<- L];rfl
 have au:g.col=B.col:=by rw[<- E,<- L];rfl
 have av:g.obs=B.obs.take m:=by rw[<- E,<- L];exact JN S om_
 have aw:∀ i,i<g.obs.length->roK S H (l.take m) i=roK S H l i:=fun i hi=>MG S H (by rw[av,QO]at hi;omega);have ad:∀ y,(nI B (roK S H l)).At y->(nI g (roK S H (l.take m))).At y:=fun y hy=>PH F au (by rw[av,QO];omega) aw hy;have hz:∀ (t:Tri) j,Hlf (fz (fsK (cA (S.kd % 8) S.a S.b S.h).length H) t j):=fun t j=>Hh j;rw[E]at v aL bq;rw[L]at ab;rw[aN]at w aq;generalize fsK (cA (S.kd % 8) S.a S.b S.h).length H=fs at v ab hz;rw[aM]at w aq aK aa;generalize roK S H l=RO at v ad aw;generalize roK S H (l.take m)=ax at ab ad aw;have aO:bs g=bs B:=by unfold bs;rw[au]
 have aP:bp g=bp B:=by unfold bp;rw[F]
 have b1:=v.n12;have b4:=v.rich.scol.1;have ay:=v.rich.terr;obtain⟨z,bt,b6⟩:∃ z:Nat,IntKind.u8.wrap a0=(z:Int)/\z<256:=⟨(a0 % 256).toNat,by simp only[IntKind.wrap,IntKind.bits,IntKind.signed];simp;omega,by omega⟩;have bu:0<B.pts.length:=by
  obtain⟨t,N⟩:=List.exists_mem_of_ne_nil _ w.ne;have:=(w.ok.ins t N).1;omega
 obtain⟨ix,aQ⟩:∃ ix,z % B.pts.length=ix:=⟨_,rfl⟩;have aR:ix<B.pts.length:=by rw[<- aQ];exact Rj _ bu
 obtain⟨p,aS⟩:∃ p,B.pts[ix]?=some p:=⟨B.pts[ix]'aR,aj aR⟩;have az:=aX aS;have O:=w.ok.q p az;have aA:PtR p:=⟨bi (O.1.le dc_),bi (O.2.le dc_)⟩;have aB:QP 23 p:=⟨O.1.le dc_,O.2.le dc_⟩;have hx:(qtx p.1).length<=20:=bg O.1 dc_;have hy:(qtx p.2).length<=20:=bg O.2 dc_;obtain⟨i,r,hl⟩:∃ i r,jU B.pts B.tris p=i::r:=by
  cases hh:jU B.pts B.tris p with
 |nil=>exact absurd hh (aq p az)
 |cons i r=>exact⟨i,r,rfl⟩
 obtain⟨t,N,aT,_⟩:=Lx (pts:=B.pts) (tris:=B.tris) (p:=p) (i:=i) (by rw[hl];exact QC ..);have K:=ip w.ok (aX N);have aU:=w.ok.ins t (aX N);obtain⟨aV,aW⟩:=Mv (fs:=fs) (aa t) K (hz t) hx hy;have bv:∀ k,Lp.Lim (nI B RO) (fun j=>(sgL (jF (bs B*bp B) (0*bp B) t (wgt B.pts t p) 3) k).getD j 0) 20:=fun k=>wD v (aa t) K hx hy k;have bw:∀ k,Lp.Lim (nI g ax) (fun j=>(sgL (jF (bs g*bp g) (0*bp g) t (wgt g.pts t p) 3) k).getD j 0) 20:=fun k=>wD ab (by rw[F];exact aa t) (by rw[F];exact K) hx hy k;have aY:=E0 hl aT aW;refine Ur Tryz.func5 140 U3 fun w0=>?_;refine Ul fun R d=>?_;refine UC U6 (fun b2=>?_);refine UC U6 (fun b3=>?_);refine C6 1 [2,3] d Z ?_;clear d R;refine G.freeze 1 Z (fun _ _ bx=>?_);refine G.freeze 0 Z (fun _ _ bz=>?_);refine Ul fun R d=>?_;refine Ut (GY _ o.m_) U7 ?_;refine C6 1 [2,3,20] d Z ?_;clear d R;refine G.cd (fun aZ=>?_) fun aZ=>?_
 ·exact absurd aZ dc_
 refine Ul fun R d=>?_;refine Uj (bkT bx 12) U8 ?_;refine UR (aL _ mup) U7 (fun b8 a2 _ ai=>?_);obtain⟨Q,T,tv,cv,ov,rfl,g1,g2,g3,g4,g5⟩:=id ai;have bA:MeshIn a2 (.agg ⟨[Q,T]⟩) B.pts B.tris:=⟨Q,T,rfl,g1,g2⟩;have a3:=g3;rw[ay.e,<- iv]at a3;obtain⟨B1,d1,rfl,bB,_⟩:=id g1;obtain⟨bC,d2,rfl,_⟩:=id g2;obtain⟨B3,d3,rfl,_⟩:=id g3;obtain⟨B4,d4,rfl,_⟩:=id g4;obtain⟨B5,d5,rfl,bD,_⟩:=id g5;simp only[ar]at g1 g2 g3 g4 g5 a3 bA ai bB bD⊢;refine UB U5 (fun b5=>?_);refine Us (j:=0) U12 ?_;refine Un [3,5] d Z ?_;clear d R;refine Ul fun R d=>?_;refine Uo ag U9 ?_;refine UR (xE _ o.m_ _ B fs RO ai.m_ v) U7 (fun b9 a4 _ bE=>?_);obtain⟨As,ns,cs,Ad,nd,cd,is,rfl,bF⟩:=H2 bE;refine Um 5 Z ?_;refine UB U5 (fun b7=>?_);refine Uk U6 ?_;refine Us (j:=0) U12 ?_;refine C6 2 [3,5,6,8,9] d Z ?_;clear d R;refine Ui 5 Z fun R d=>?_;refine UN U8 ?_;refine Um 4 Z ?_;refine UN U8 ?_;refine Un [3,5,6,40] d Z ?_;clear d R;refine G.cd (fun a5=>?_) fun a5=>?_
 ·skip
  refine Uh 1 [4] Z ?_;refine Up U2 ?_;exact⟨Z,Z⟩
 have bG:is=true:=by
  cases is with
 |true=>rfl
 |false=>exact absurd a5 al
 subst bG;obtain⟨pt,U,bH,bI,a6⟩:∃ pt,(nI B RO).At pt/\Lp.CmD (bs B*bp B) 20 pt/\(∀ j,QB 20 (pt j))/\FieldsIn a4 (.slice As ns cs) (yL (bs B) (bp B) pt):=by
  rcases bF with⟨_,_,h⟩|⟨h,_⟩
  ·exact h
  cases h
 have bJ:ns=bs B:=by
  obtain⟨vs,h1,_,h3⟩:=id a6;obtain⟨A',c',he,_⟩:=id h3;simp only[Value.slice.injEq]at he;rw[he.2.1,ar,h1];simp[yL,chunks]
 subst bJ;have bK:FieldsIn a4 (.slice As (bs B) cs) (txs (gT (bs B) (bp B) pt)):=by unfold txs;rw[Mq];exact a6
 have a7:∀ f∈gT (bs B) (bp B) pt,QB 22 (onQ B.pts f t p):=fun f I=>Qi (aa t) K (aK p az) (Mp I bH);have a8:∀ f∈gT (bs B) (bp B) pt,∀ x∈f,QB 22 x:=fun f I x hx=>by
  obtain⟨j,_,rfl⟩:=Bg I x hx;exact(bI j).le dc_
 have bL:∀ (f:List Rat)(Q T fv:Value)(D:Mem),(f=fs∨f∈gT (bs B) (bp B) pt)->Tabs D->MeshIn D (.agg ⟨[Q,T]⟩) B.pts B.tris->Sl D 1 fv (f.map eM)->Gives cx.P 15 [.agg ⟨[Q,T]⟩,fv,.agg ⟨[af (qtx p.1),af (qtx p.2)]⟩] D (.tuple #[af (qtx (onQ B.pts f t p)),.int .i64 0]):=fun f Q T fv D I o hm hs=>by
  have h1:f.length=B.pts.length/\(∀ q∈f,QB 22 q)/\QB 22 (onQ B.pts f t p):=by
   rcases I with rfl|I
   ·exact⟨ay.l,ay.q,aW⟩
   exact⟨lG.2 f I,a8 f I,a7 f I⟩
  have h2:=tR D o _ fv B.pts B.tris f 22 dc_ dc_ hm w hs h1.1 h1.2.1 (fun q hq=>bi (h1.2.1 q hq)) p aB aA;rw[E0 hl aT h1.2.2]at h2;exact h2
 have aC:0<bs B:=by omega
 obtain⟨V,aD⟩:∃ V,(gT (bs B) (bp B) pt)[0]?=some V:=⟨_,aj (by rw[lG.1];exact aC)⟩;have W:∀ j,fz V t j=pt (dw t j):=fun j=>by
  have h:=Fc (s:=bs B) (p:=bp B) (pt:=pt) aC (eo aU j);rw[am (l:=gT (bs B) (bp B) pt),aD]at h;exact h
 have X:∀ j,0*bp B+dw t j<bs B*bp B:=fun j=>Ca aC (eo aU j);obtain⟨a9,ba,bb⟩:=E7 K;obtain⟨M,hM⟩:∃ M,onQ B.pts V t p=M:=⟨_,rfl⟩;have bM:QB 22 M:=by rw[<- hM];exact a7 V (aX aD)
 have bN:Lp.sumN (fun j=>(sgL (jF (bs B*bp B) (0*bp B) t (wgt B.pts t p) 3) 0).getD j 0*pt j) (nI B RO).n=M:=by
  show Lp.sumN _ (bs B*bp B)=_;rw[Ja,OI (X 0) (X 1) (X 2) a9 ba bb,<- hM,<- tQ K,W,W,W,Nat.zero_mul,RK,RK,RK]
 have bO:Lp.sumN (fun j=>(sgL (jF (bs B*bp B) (0*bp B) t (wgt B.pts t p) 3) 1).getD j 0*pt j) (nI B RO).n=-M:=by
  show Lp.sumN _ (bs B*bp B)=_;rw[FC,OI (X 0) (X 1) (X 2) a9 ba bb,<- hM,<- tQ K,W,W,W,Nat.zero_mul,RK,RK,RK];grind
 refine UD [0,1,2,3,4,5,6,7,8,9,10,11,12,13,14,15] [(5,0),(6,0)] Z kr_ (fun R E d=>?_);refine Um 2 Z ?_;refine Uo ae U9 ?_;refine UE (0) U9 ah U2 ?_;refine Uj (bkT bz 1) U8 ?_;refine Vm (c:=(z:Int)) U8 bt U2 ?_;refine Vm (c:=(z:Int)) U8 (wrap_i64 om_ om_) U2 ?_;refine Um 2 Z ?_;refine Uo ae U9 ?_;refine Uk U6 ?_;refine Vc (z) (B.pts.length) U6 om_ U2 ?_;refine Uy g1.m_ U10 om_ (by rw[aQ,QD,aS];rfl:(B.pts.map gl)[z % B.pts.length]?=some (gl p)) fl_ (fun ca bP=>?_);refine Uj bP U8 ?_;refine UB U5 (fun cb=>?_);refine Us (j:=0) U12 ?_;refine Un [5,6,10] d Z ?_;clear d E R;refine Ul fun R d=>?_;refine Uo ac U9 ?_;refine Uk U6 ?_;refine Uo ag U9 ?_;refine UR (zw _ o.m_ _ _ _ B fs RO (gT (bs B) (bp B) pt) (fun f=>qtx (onQ B.pts f t p)) 0 (qtx p.1) (qtx p.2) ai.m_ v Z bK.m_ lG.1 lG.2 a8 bL) U7 (fun cc _ _ bQ=>?_);obtain⟨wv,rfl,an⟩:=bQ;rw[aJ rfl]at an;obtain⟨Aw,cw,rfl,_⟩:=id an;simp only[ar,lG.1]at an⊢;refine C6 5 [5,6,10,11,12] d Z ?_;clear d R;refine Ul fun R d=>?_;refine Uo ac U9 ?_;refine Uo ag U9 ?_;refine UK (qu _ o.m_ _ B fs RO 0 p i r t _ ai.m_ v om_ aB aA hl N aV aY (fun k _=>bv k)) U7 fl_ (fun ce _ _ bR=>?_);obtain⟨ao,J,ap,u,rfl,bc,bd,be,bf⟩:=sd bR ⟨pt,U⟩;have bS:qe ao J≠[]->qe ao J=qtx J/\J<=M:=fun h=>⟨(uH h).2,by
  have h2:=AR be (uH h).1 U;rw[show Lp.sumN _ _=M from bN]at h2;exact h2⟩
 have bT:fP ap u≠[]->fP ap u=qtx (-u)/\M<=-u:=fun h=>⟨(ox h).2,by
  have h2:=AR bf (ox h).1 U;rw[show Lp.sumN _ _=-M from bO]at h2;grind⟩
 refine C6 7 [5,6,10,11,12,13,14,15] d Z ?_;clear d R;refine Ui 5 Z fun R d=>?_;refine UN U8 ?_;refine Um 6 Z ?_;refine UN U8 ?_;refine Um 3 Z ?_;refine D.index U10 (fun hg=>⟨an.mono mup,by decide,(by rw[QD,QD];show Option.map eA (Option.map _ (gT (bs B) (bp B) pt)[0]?)=_;rw[aD];show some (eA (qtx (onQ B.pts V t p)))=_;rw[hM];rfl:(((gT (bs B) (bp B) pt).map fun f=>qtx (onQ B.pts f t p)).map eA)[((0:Int)).toNat]?=some [af (qtx M)])⟩) fl_ Z (fun cf bU=>?_);refine UM U6 bU U3 ?_;refine Uk U6 ?_;refine US (fun _=>(Eu _ o.m_ _ _ J M (-u) bS bT bc bM (Lp.qb_neg bd))) U9 ?_;refine Uk U6 ?_;refine UN U8 ?_;refine Un [5,10,13,14,90] d Z ?_;clear d R;refine G.cd (fun bh=>?_) fun bh=>?_
 ·exact absurd bh al
 refine Ui 1 Z fun R d=>?_;refine Uo ac U9 ?_;refine C6 2 [5,10,13,14,94] d Z ?_;clear d R;refine G.cd (fun aE=>?_) fun aE=>?_
 ·refine Uh 1 [4] Z ?_;refine Up U2 ?_;exact⟨Z,Z⟩
 have cg:B.obs.length≠0:=by
  intro e;rw[e]at aE;exact absurd aE dc_
 refine Ui 1 Z fun R d=>?_;refine Uo ac U9 ?_;refine Uk U6 ?_;refine Uo ac U9 ?_;refine Uk U6 ?_;refine UQ (((m:Nat):Int)) U4 om_ om_ om_ U2 ?_;refine Vg 0 m d5 U12 (fun _=>⟨.inl ⟨Z,Z⟩,.inr ⟨_,Z⟩,.inl ⟨Z,Z⟩,QH _,by omega,Qz _⟩) U2 ?_;refine Uk U6 ?_;refine Us (j:=2) U12 ?_;refine Un [5,10,13,14] d Z ?_;clear d R;refine G.freeze 0 Z (fun _ _ bV=>?_);have bj:=Sl.sub (l:=0) (h:=m) (m:=d5) g5 (QH _) (by rw[ar];omega) om_ (Qz _);rw[RR,<- SH,<- av]at bj;have bW:BookIn a2 (.agg ⟨[.slice B1 B.pts.length d1,.slice bC B.tris.length d2,.slice B3 B.terr.length d3,.slice B4 B.col.length d4,.slice (if d5=0 then B5 else B5.map (·.add (0*10))) (m-0) (d5-0)]⟩) g:=⟨_,_,_,_,_,rfl,by rw[F];exact g1,by rw[ak];exact g2,by rw[br];exact g3,by rw[au];exact g4,bj⟩;refine Ul fun R d=>?_;refine Uj (bkT bV 5) U8 ?_;refine Uo ag U9 ?_;refine UK (qu _ o.m_ _ g fs ax 0 p i r t _ bW.m_ ab om_ aB aA (by rw[F,ak];exact hl) (by rw[ak];exact N) (by rw[F];exact aV) (by rw[F,ak];exact aY) (fun k _=>bw k)) U7 fl_ (fun ch bk _ bX=>?_);obtain⟨aF,y1,aG,y2,rfl,bY,bZ,bl,bm⟩:=sd bX ⟨pt,ad pt U⟩;rw[aO,aP,F]at bl bm;have hn:(nI g ax).n=(nI B RO).n:=by show bs g*bp g=bs B*bp B;rw[aO,aP]
 have aH:qe aF y1≠[]->qe ao J=qtx J/\qe aF y1=qtx y1/\y1<=J/\ao=1:=fun h=>by
  obtain⟨e,bn⟩:=AQ hn ad ⟨pt,U⟩ be bl (uH h).1;exact⟨by rw[qe,aJ e,Rat.one_mul],(uH h).2,bn,e⟩
 have aI:fP aG y2≠[]->fP ap u=qtx (-u)/\fP aG y2=qtx (-y2)/\-u<=-y2/\ap=1:=fun h=>by
  obtain⟨e,bn⟩:=AQ hn ad ⟨pt,U⟩ bf bm (ox h).1;exact⟨by rw[fP,aJ e,show(-1:Rat)*u=-u by grind],(ox h).2,by grind,e⟩
 refine C6 7 [13,14,16,17,18] d Z ?_;clear d R;refine Ui 11 Z fun R d=>?_;refine UG (fun hg=>by
  have h:((qe aF y1).toArray.toList == ([]:List UInt8))=false:=hg.2.1;obtain⟨e1,e2,_⟩:=aH fun e=>by rw[e]at h;exact absurd h dc_
  have hc:=gi bk o.m_ y1 J 22 dc_ dc_ bY bc;rw[<- e1,<- e2]at hc;exact hc) U9 ?_
 refine Uk U6 ?_;refine UJ U8 ?_;refine UN U8 ?_;refine UJ U8 ?_;refine Um 9 Z ?_;refine UG (fun hg=>by
  have h:((fP aG y2).toArray.toList == ([]:List UInt8))=false:=hg.2.1;obtain⟨e1,e2,_⟩:=aI fun e=>by rw[e]at h;exact absurd h dc_
  have hc:=gi bk o.m_ (-y2) (-u) 22 dc_ dc_ (Lp.qb_neg bZ) (Lp.qb_neg bd);rw[<- e1,<- e2]at hc;exact hc) U9 ?_
 refine Uk U6 ?_;refine UJ U8 ?_;refine UN U8 ?_;refine UJ U8 ?_;refine C6 1 [4] d Z ?_;clear d R;refine Up U2 ?_;exact⟨congrArg Value.bool (Mf (fun e=>(aH e).2.2.1) (fun e=>(aH e).1) (fun e=>(aI e).2.2.1) (fun e=>(aI e).1)),Z⟩
end Go.Proofs.YtfjcldheldflbaaGreatDoor
