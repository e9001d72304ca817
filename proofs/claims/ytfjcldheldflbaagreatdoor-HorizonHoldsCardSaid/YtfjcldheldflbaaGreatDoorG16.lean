/- Laws that the proofs of this seat share, part 16. -/
import Derived.Test.YtfjcldheldflbaaGreatDoorG15
import Derived.Test.YtfjcldheldflbaaGreatDoorShelf
set_option maxHeartbeats 4000000
namespace Go.Proofs.YtfjcldheldflbaaGreatDoor
open Go.Proofs.Tryz
open Go Go.Jog
set_option maxRecDepth 100000
variable {B:Bk}{C:Mem}{RO:Nat->List RowQ}{a b:List Rat}{c d:Int}{fs:List Rat}{p:Pt}{pt:Nat->Rat}{pts:List Pt}{q:Rat}{s:Nat}{t:Tri}{w:Int}{ws:List Value}{x y z:Int}
theorem Ed {o:Obs}{z:Rat}(h:(cG B.col o).length<=2):(rowsO B o p t z).length<=8:=by
 unfold rowsO;split
 ·rw[Ru];split <;> split <;> simp
 split
 ·have:=K0 (c:=2) (f:=fun k=>[1, -1].map (gZ (bs B) (bp B) k (atT t (wgt B.pts t p)) (lH o z))) (l:=cG B.col o) (fun k _=>by simp);omega
 have:=K0 (c:=4) (f:=fun k=>[1, -1].map (gZ (bs B) (bp B) k (atT t fun j=>(slf B.pts t j).1) (rm o))++[1, -1].map (gZ (bs B) (bp B) k (atT t fun j=>(slf B.pts t j).2) (jo o))) (l:=cG B.col o) (fun k _=>by simp);omega
theorem AZ (S:Sht)(H:Hts)(l:List Sgt)(c:∀ s∈l,SgtR s):Calm (dW S H l) (fsK (cA (S.kd % 8) S.a S.b S.h).length H) (roK S H l):=by
 have e:=ie (S.kd % 8) S.a S.b S.h;have f:(dW S H l).obs.length=min l.length 6:=lZ S l;refine⟨E4 S H l c, ?_,BL Ri _,fun i g=>?_, ?_,fun i _=>?_,by omega⟩
 ·show 2*(cA (S.kd % 8) S.a S.b S.h).length<=12;omega
 ·have d:i<l.length:=by omega
  refine PK S H l _ i ?_;rw[am,ai d];exact c _ (Sj d)
 ·have h1:=jM (bs (dW S H l)) (bp (dW S H l)) colK 1;have h2:bp (dW S H l)<=6:=e;show(bj (bs (dW S H l)) (bp (dW S H l)) colK 1).length<=24;omega
 refine Ed ?_;unfold cG wJ;refine RD (S9 _ _) ?_;rw[SI];exact Ro 2
theorem IK (S:Sht)(H:Hts)(l:List Sgt):bs (dW S H l)=2/\bp (dW S H l)<=6:=⟨Dv S H l,ie (S.kd % 8) S.a S.b S.h⟩
theorem Jt {p:Nat}(c:∀ j,QB 22 (pt j)):pB s p (iZ s p pt)=0:=by
 have b:(iZ s p pt).length=s:=by unfold iZ chunks;simp
 unfold pB;rw[aM b];refine ly fun j a=>?_;rw[b]at a;have e:(iZ s p pt).getD j []=yH p (((List.range (s*p)).map pt).map qtx) j:=by
  unfold iZ chunks;rw[am,Rr,RY a];rfl
 rw[e];have h1:(j+1)*p<=s*p:=Sa _ a;have h2:(j+1)*p=j*p+p:=Nat.succ_mul _ _;unfold nj;rw[aM (by unfold yH;rw[Th,RE,au,au,SI];omega),RI.2 fun x d=>?_]
 ·rfl
 have f:=SD (TN d);obtain⟨q,g,rfl⟩:=Rs.1 f;obtain⟨j,_,rfl⟩:=Rs.1 g;exact bh (c j)
theorem FN (a:∀ j,QB 22 (pt j)):IX B (iZ (bs B) (bp B) pt) ((List.range (bs B*bp B)).map pt):=fun _=>by
 refine⟨?_,by simp,fun x b=>?_⟩
 ·rw[<- zq,<- List.map_flatten,sw]
 obtain⟨j,_,rfl⟩:=Rs.1 b;exact(a j).le dc_
theorem DS {p:Nat}(a:∀ j,QB 22 (pt j)):∀ l∈iZ s p pt,∀ x∈l,x.length<=999998:=fun l b x c=>by
 obtain⟨j,_,rfl⟩:=Rs.1 b;have d:=SD (TN c);obtain⟨q,e,rfl⟩:=Rs.1 d;obtain⟨j,_,rfl⟩:=Rs.1 e;exact RD (bd (a j) dc_) dc_
theorem LB {p:Lp.Sys}:(p.At fun j=>((List.range p.n).map pt).getD j 0) ↔ p.At pt:=by
 have e:∀ j,j<p.n->((List.range p.n).map pt).getD j 0=pt j:=fun j b=>by
  rw[am,Rr,RY b];rfl
 refine forall_congr' fun r=>imp_congr_right fun _=>?_;rw[show Lp.sumN (fun j=>p.a r j*(fun j=>((List.range p.n).map pt).getD j 0) j) p.n=Lp.sumN (fun j=>p.a r j*pt j) p.n from Lp.sumN_congr fun j b=>by show p.a r j*((List.range p.n).map pt).getD j 0=_;rw[e j b]]
theorem Qe (a:∀ j,QB 22 (pt j)):KP B RO (iZ (bs B) (bp B) pt) ((List.range (bs B*bp B)).map pt)=if atB (oA B RO) pt=true then 0 else 23:=by
 unfold KP;rw[aF (fun h=>h (Jt a))];have this:((oA B RO).At fun j=>((List.range (bs B*bp B)).map pt).getD j 0) ↔ (oA B RO).At pt:=LB (p:=oA B RO) (pt:=pt);by_cases h:(oA B RO).At pt
 ·rw[aM (this.2 h),aM (IR.2 h)]
 rw[aF fun h2=>h (this.1 h2),aF fun h2=>h (IR.1 h2)]
theorem Ew (C:Mem)(f:Tabs C)(g:Value)(d:List Pt)(e:List Tri)(b c:Str)(h:MeshIn C g d e)(l:Good d e)(m:b.length<=999998)(n:c.length<=999998)(o:(aR b && aR c)=false) :
  Gives cx.P 18 [g,.agg ⟨[ae b,ae c]⟩] C (.tuple #[.slice none 0 0,i_ 2]):=by
 have p:=h;obtain⟨t,u,rfl,h1,h2⟩:=id h.ex;have i:=fun(D:Mem)(q:C.le D)=>fD D (f.mono q) b c m n;rw[o]at i;refine Vi func18 34 U3 fun w0=>Vd fun R a=>Vs U6 fun v=>Vs U6 fun w=>C6 2 [2,3] a U<|G.freeze 1 U fun _ _ r=>G.freeze 0 U fun _ _ s=>Vd fun R a=>Vb (PtrTo.block (Mem.get r mup) _) U8<|Vl (fH _ f.m_ _ d e p.m_ l) U7<|C6 1 [2,3,6] a U<|U1 2 [2,3,6,12] U<|G.cd (fun j=>?_) fun j=>?_
 ·exact absurd j dc_
 refine Vd fun R a=>Vb (PtrTo.block (Mem.get s mup) _) U8<|Vl (i _ mup) U7<|C6 1 [2,3,16] a U<|G.cd (fun k=>?_) fun k=>?_
 ·refine U1 2 [4,5] U<|Vo (G.dropAll (VA U3 ?_));exact⟨U,U⟩
 exact absurd k dc_
theorem FD (C:Mem)(h:Tabs C)(i j:Value)(b:List Pt)(d:List Tri)(a:List Rat)(l:MeshIn C i b d)(m:Good b d)(g:Sl C 1 j (a.map dJ))(s:a.length=b.length)(t:∀ q∈a,QB 22 q)(u:∀ q∈a,aR (qtx q)=true)
  (e f:Str) (v:e.length<=999998) (w:f.length<=999998) (x:(aR e && aR f)=false):Gives cx.P 15 [i,j,.agg ⟨[ae e,ae f]⟩] C (.tuple #[ae [],i_ 2]):=by
 have n:=l;obtain⟨D,E,rfl,h1,h2⟩:=id l.ex;obtain⟨y,z,rfl,_⟩:=id g;simp only[au]at g⊢;refine Vi func15 40 U3 fun w0=>Vd fun R c=>Vs U6 fun F=>Vs U6 fun H=>C6 2 [1,3,5] c U<|G.freeze 1 U fun _ _ o=>G.freeze 0 U fun _ _ A=>Vd fun R c=>Vb (PtrTo.block (Mem.get o mup) _) U8<|Vc U6<|Vy [[.slice y a.length z]] U12 fun I _ _ B=>Vm (rD _ h.m_ _ _ _ b d a n.m_ m B.m_ g.m_ s (k:=22) dc_ t u) U7 fl_<|C6 1 [1,3,5,8] c U<|U1 2 [1,3,5,8,16] U<|G.cd (fun p=>?_) fun p=>?_
 ·exact absurd p dc_
 refine Vd fun R c=>Vb (PtrTo.block (Mem.get o mup) _) U8<|Vb (PtrTo.block (Mem.get A mup) _) U8<|Vl (Ew _ h.m_ _ b d e f n.m_ m v w x) U7<|C6 5 [1,3,5,9,10] c U<|U1 2 [1,3,5,9,10,25] U<|G.cd (fun r=>?_) fun r=>?_
 ·refine U1 3 [6,7] U<|Vo (G.dropAll (VA U3 ?_));exact⟨U,U⟩
 exact absurd r dc_
theorem wV (h:(qtx q).length<=20):q.num.natAbs<=100000000000000000000/\q.den<=100000000000000000000:=by
 have h1:(bk q.num.natAbs).length<=20:=by
  unfold qtx at h;simp only[Ru]at h;omega
 have h2:(bk q.den).length<=20:=by
  by_cases a:q.den=1
  ·rw[a];decide +kernel
  unfold qtx at h;rw[eM a]at h;simp only[Ru,dh,RH]at h;omega
 have b:∀ k:Nat,(bk k).length<=20->k<=100000000000000000000:=fun k c=>by
  have e:=dt (bl k).1.1;rw[(bl k).2]at e;have h3:10 ^ (bk k).length<=10 ^ 20:=RM dc_ c;omega
 exact⟨b _ h1,b _ h2⟩
def Eb:Nat:=10000000000000000000000000000000000000000000000000
theorem MZ (a:cJ (cor pts t 0) (cor pts t 1) (cor pts t 2)≠0) :
  wgt pts t p 0*fz fs t 0+wgt pts t p 1*fz fs t 1+wgt pts t p 2*fz fs t 2=onQ pts fs t p:=by
 unfold onQ FR dD og wgt;simp only[T3,List.foldl_nil];show cJ p (cor pts t 1) (cor pts t 2) / _*_+cJ p (cor pts t 2) (cor pts t 0) / _*_+cJ p (cor pts t 0) (cor pts t 1) / _*_=_;unfold cJ at a⊢;unfold eD;generalize fz fs t 0=b;generalize fz fs t 1=c;generalize fz fs t 2=d;generalize (cor pts t 0).1=x0 at a⊢;generalize (cor pts t 0).2=y0 at a⊢;generalize (cor pts t 1).1=x1 at a⊢;generalize (cor pts t 1).2=y1 at a⊢;generalize (cor pts t 2).1=x2 at a⊢;generalize (cor pts t 2).2=y2 at a⊢;generalize p.1=px;generalize p.2=py;grind
theorem G6 (q:Rat):q*((q.den:Int):Rat)=(q.num:Rat):=by
 have h:(q.den:Rat)≠0:=by
  rw[<- Rat.intCast_natCast];exact fun e=>q.den_nz (by have:=Rat.intCast_eq_zero_iff.mp e;omega)
 have e:=Rat.num_divInt_den q;rw[Rat.divInt_eq_div]at e;rw[Rat.intCast_natCast]at e⊢;generalize (q.den:Rat)=d at *;generalize (q.num:Rat)=n at *;rw[<- e];grind
theorem LC {u v:Pt}{a b:Int}(e:p.1*(b:Rat)=a)(f:p.2*(d:Rat)=c)(g:At4 u x y)(h:At4 v z w) :
  cJ p u v*16*((b*d:Int):Rat)=((b*d*(x*w-y*z)-4*(a*d*(w-y))+4*(c*b*(z-x)):Int):Rat):=by
 obtain⟨u1,i⟩:=g;obtain⟨j,k⟩:=h;unfold cJ;simp only[Si,Ut,TP];rw[<- e,<- f,<- u1,<- i,<- j,<- k];rw[show((4:Int):Rat)=4 from rfl];grind
theorem P8 {a b:Int}(g:a.natAbs<=100000000000000000000)(e:b.natAbs<=100000000000000000000)(h:c.natAbs<=100000000000000000000)(f:d.natAbs<=100000000000000000000)(i:-600<=x/\x<=600)(j:-600<=y/\y<=600)(k:-600<=z/\z<=600)(l:-600<=w/\w<=600) :
  (b*d*(x*w-y*z)-4*(a*d*(w-y))+4*(c*b*(z-x)):Int).natAbs<=Eb:=by
 have h1:=dA (a:=x) (b:=w) (M:=600) (K:=600) om_ om_;have h2:=dA (a:=y) (b:=z) (M:=600) (K:=600) om_ om_;have h3:=dA (dA e f) (b:=x*w-y*z) (K:=720000) om_;have h4:=dA (dA g f) (b:=w-y) (K:=1200) om_;have h5:=dA (dA h e) (b:=z-x) (K:=1200) om_;unfold Eb;omega
theorem M1 (e:∀ j,Qtr (cor pts t j))(g:cJ (cor pts t 0) (cor pts t 1) (cor pts t 2)≠0)(h:(qtx p.1).length<=20)(i:(qtx p.2).length<=20) :
  ∃ D:Int,D≠0/\D.natAbs<=Eb/\∀ j,∃ N:Int,wgt pts t p j*(D:Rat)=N/\N.natAbs<=Eb:=by
 obtain⟨n1,J⟩:=wV h;obtain⟨n2,L⟩:=wV i;have k:=G6 p.1;have l:=G6 p.2;obtain⟨x0,y0,h0,m,o⟩:=e 0;obtain⟨x1,y1,h3,q,r⟩:=e 1;obtain⟨x2,y2,h4,s,u⟩:=e 2;have f:=kv h0 h3 h4;obtain⟨v,_⟩:=pZ (n:=0) (N:=0) aq f g;have B:=yi (x0:=x0) (y0:=y0) (x1:=x1) (y1:=y1) (x2:=x2) (y2:=y2) ⟨m,o,q,r,s,u⟩;have C:(p.1.den:Int)≠0:=by have:=p.1.den_nz;omega
 have E:(p.2.den:Int)≠0:=by have:=p.2.den_nz;omega
 refine⟨iA x0 y0 x1 y1 x2 y2*((p.1.den:Int)*(p.2.den:Int)),Int.mul_ne_zero v (Int.mul_ne_zero C E), ?_,fun j=>?_⟩
 ·have h5:=dA B (dA (a:=(p.1.den:Int)) (b:=(p.2.den:Int)) (M:=100000000000000000000) (K:=100000000000000000000) om_ om_);unfold Eb;omega
 obtain⟨x,y,F,G,du⟩:=e ((j+1) % 3);obtain⟨z,w,H,bv,I⟩:=e ((j+2) % 3);refine⟨_, ?_,P8 (a:=p.1.num) (b:=p.1.den) (c:=p.2.num) (d:=p.2.den) n1 om_ n2 om_ G du bv I⟩;rw[<- LC k l F H,Si,<- f];unfold wgt;generalize cJ p (cor pts t ((j+1) % 3)) (cor pts t ((j+2) % 3))=A at *;generalize cJ (cor pts t 0) (cor pts t 1) (cor pts t 2)=V at *;grind
theorem Qn (h:Lp.Quo (200*Eb) q):QB 22 q:=h.qb (by unfold Eb;decide +kernel)
theorem Ni (f:∀ j,Qtr (cor pts t j))(d:cJ (cor pts t 0) (cor pts t 1) (cor pts t 2)≠0)(c:∀ j,Hlf (fz fs t j))(g:(qtx p.1).length<=20)(h:(qtx p.2).length<=20) :
  (∀ j,QB 22 (wgt pts t p j))/\QB 22 (onQ pts fs t p):=by
 obtain⟨D,i,v,a⟩:=M1 f d g h;refine⟨fun j=>?_, ?_⟩
 ·obtain⟨N,e,w⟩:=a j;exact Qn ⟨N,D,i,e,by omega,by omega⟩
 obtain⟨k,l,n0⟩:=a 0;obtain⟨m,n,n1⟩:=a 1;obtain⟨o,q,n2⟩:=a 2;obtain⟨k0,r,x⟩:=c 0;obtain⟨k1,s,y⟩:=c 1;obtain⟨k2,u,z⟩:=c 2;have A:=dA n0 (b:=k0) (K:=38) om_;have B:=dA n1 (b:=k1) (K:=38) om_;have C:=dA n2 (b:=k2) (K:=38) om_;refine Qn ⟨k*k0+m*k1+o*k2,2*D,by omega, ?_,by omega,by omega⟩;rw[<- MZ d];simp only[Si,Ut];rw[<- l,<- n,<- q,<- r,<- s,<- u];rw[show((2:Int):Rat)=2 from rfl];grind
theorem H4 (l:List Str):∀ r∈l.map ef,r.length=1:=by
 intro r hr;obtain⟨y,_,rfl⟩:=Rs.1 hr;rfl
theorem Jk {p:Nat}{a:List (List Rat)}(c:a.length=s)(d:∀ f∈a,f.length=p)(e:∀ f∈a,∀ x∈f,QB 22 x):pB s p (txs a)=0:=by
 unfold pB txs;rw[aM (by rw[au];exact c)];refine ly fun j b=>?_;rw[au]at b;rw[am,Rr,ai b];have hm:=Sj b;show nj p (a[j].map qtx)=0;unfold nj;rw[aM (by rw[au];exact d _ hm),RI.2 fun x g=>?_]
 ·rfl
 obtain⟨q,h,rfl⟩:=Rs.1 g;exact bh (e _ hm q h)
theorem Aa (C:Mem)(c:Tabs C)(p v y:Value)(B:Bk)(r:List Rat)(N:Nat->List RowQ)(a:List (List Rat))(g:List Rat->Str)(d:Int)(sx sy:Str)(s:BookIn C p B)(h:Calm B r N)(aj:y=.agg ⟨[ae sx,ae sy]⟩)(z:FieldsIn C v (txs a))(ak:a.length=bs B)(al:∀ f∈a,f.length=bp B)(O:∀ f∈a,∀ x∈f,QB 22 x)
  (Q:∀ (f:List Rat)(i k S:Value)(D:Mem),(f=r∨f∈a)->Tabs D->MeshIn D (.agg ⟨[i,k]⟩) B.pts B.tris->Sl D 1 S (f.map dJ)->Gives cx.P 15 [.agg ⟨[i,k]⟩,S,y] D (.tuple #[ae (g f),i_ d])) :
  Pur cx.P 27 [p,v,y] C fun u D=>∃ w,u=.tuple #[w,i_ d]/\Sl D 1 w ((if d=0 then a.map g else []).map ef):=by
 subst aj;have T:=s;have V:=h.rich.bookz c s;have am:=h.rich.terr;have an:=h.cnt (de B.obs.length);have aI:=h.ob;have aJ:=h.n12;have aK:=h.rich.scol;have ao:∀ l∈txs a,∀ x∈l,x.length<=999998:=fun l W x hx=>by
  unfold txs at W;obtain⟨m,hm,rfl⟩:=Rs.1 W;obtain⟨q,ap,rfl⟩:=Rs.1 hx;exact RD (bd (O m hm q ap) dc_) dc_
 have aq:(txs a).length=a.length:=by simp[txs]
 have ar:=Jk ak al O;have X:∀ D:Mem,C.le D->Pur cx.P 54 [p] D fun u E=>∃ v,u=.tuple #[v,i_ 0]:=fun D Y=>by
  have:=IS D (c.mono Y) p B r N (s.mono Y) h.rich om_ (by have:=an;rw[oD,au]at this;omega);exact Fn.mono this fun u E A _ ⟨h1,v,h2,_⟩=>⟨h1,v,h2⟩
 obtain⟨vs,aw,ay,F⟩:=id z;obtain⟨Af,cf,rfl,az,_⟩:=id F;have aA:vs.length=a.length:=by rw[aw,aq]
 obtain⟨i,k,tv,cv,ov,rfl,h1,h2,h3,h4,h5⟩:=id s.ex;have hm:MeshIn C (.agg ⟨[i,k]⟩) B.pts B.tris:=⟨i,k,rfl,h1,h2⟩;rw[am.e,<- fW]at h3;obtain⟨A4,c4,rfl,_⟩:=id h3;simp only[au,aA]at F az z X T V h3 hm⊢;have aL:=mx_
 refine Vi func27 71 U3 fun w0=>Vd fun R b=>Vs U6 fun b3=>Vs U6 fun b5=>C6 2 [1,3,5] b U<|G.freeze 1 U fun _ _ n=>G.freeze 0 U fun _ _ Z=>Vd fun R b=>Vb (bkT n 5) U8<|VJ (X _ mup) U7 (fun aN _ _ aB=>?_);obtain⟨lv,rfl⟩:=aB;refine C6 5 [1,3,5,9] b U<|U1 2 [1,3,5,9,25] U<|G.cd (fun aa=>?_) fun aa=>?_
 ·exact absurd aa dc_
 refine Vd fun R b=>Vb (bkT n 5) U8<|Vc U6<|VC (so _ c.m_ _ _ B (txs a) T.m_ h.rich.good V.m_ h.rich.h60 z.m_ ao om_) U7 fl_ (fun aO _ _ aC=>?_);obtain⟨wv,rfl,aP⟩:=aC;rw[ar];refine C6 5 [1,3,5,11] b U<|U1 2 [1,3,5,11,34] U<|G.cd (fun ab=>?_) fun ab=>?_
 ·exact absurd ab dc_
 refine Va 1 U fun R b=>Vb (bkT n 2) U8<|Vc U6<|Vb (bkT n 1) U8<|Vb (bkT Z 2) U8<|Vl (Q r _ _ _ _ (.inl U) c.m_ hm.m_ h3.m_) U7<|C6 5 [1,3,5,13] b U<|U1 2 [1,3,5,13,46] U<|G.cd (fun H=>?_) fun H=>?_
 ·have o:d≠0:=by simpa using H
  refine U1 3 [6,7] U<|Vo (G.dropAll (VA U3 ?_));exact⟨U,_,U,by rw[aF o];exact Sl.nil _ _⟩
 have o:d=0:=by simpa using H
 refine U1 1 [1,3,5,14] U<|U1 3 [3,5,14,48,49,50] U<|G.nilArr 32 1<|G.loop (fun fr C' A μ=>∃ (j:Nat)(I:Option Addr)(n1 J:Nat),(j<=a.length)/\fr=[(3,[],p_ b3),(5,[],p_ b5),(14,[],.slice I n1 J),(48,[],.slice Af a.length cf),(49,[],i_ (a.length:Nat)),(50,[],i_ j)]/\A=[.arr (.slice I n1 J) 32 1 j (((a.take j).map g).map ef).flatten]/\μ=a.length-j) (hn_ [3,5,14,48,49,50] U) ⟨0,none,0,0,Rv _,U,U,U⟩ (fun fr aQ aR m _ hI=>?_);obtain⟨j,I,n1,J,hj,rfl,rfl,rfl⟩:=hI;refine U1 1 [3,5,14,48,49,50,51] U<|G.cd (fun K=>?_) fun K=>?_
 ·have t:j<a.length:=by
   have:=QL K;omega
  obtain⟨f,L⟩:∃ f,a[j]?=some f:=⟨a[j]'t,ai t⟩;obtain⟨w,ac⟩:∃ w,vs[j]?=some w:=⟨vs[j]'om_,ai om_⟩;have aD:=aU L;have M:=ay j w (f.map qtx) ac (by unfold txs;rw[Rr,L];rfl);rw[<- fW]at M;obtain⟨Aw,cw,rfl,_⟩:=id M;refine Vd fun R b=>Vq F.m_ U10 om_ (by rw[Rr,ac];rfl:(vs.map fun w=>[w])[j]?=some [_]) fl_ fun aS aE=>Vb aE U8<|C6 1 [3,5,14,16,48,49,50] b U<|Va 1 U fun R b=>Vb (bkT n 2) U8<|Vc U6<|Vb (bkT Z 2) U8<|Vl (Q f _ _ _ _ (.inr aD) c.m_ hm.m_ M.m_) U7<|C6 5 [3,5,14,17,18,48,49,50] b U<|U1 2 [3,5,14,17,18,48,49,50,63] U<|G.cd (fun ad=>?_) fun ad=>?_
  ·exact absurd ad (by simpa using o)
  refine Va 2 U fun R b=>Vy [[ae (g f)]] U12 fun aT _ _ aG=>VF (j:=0) U11 aG U ax (by show(j+1)*16<=_;omega) fl_ fun af ag ah=>C6 1 [3,5,14,48,49,50] b U<|Vd fun R b=>Vh _ U U6<|C6 1 [3,5,14,48,49,50] b U<|Vr (L':=[.arr (.slice af ag ah) 32 1 (j+1) (((a.take (j+1)).map g).map ef).flatten]) (by rw[RR,L];simp[ef])<|Vn (m':=a.length-(j+1)) om_ mup (hn_ [3,5,14,48,49,50] U) ⟨j+1,af,ag,ah,by omega,U,U,U⟩
 have t:j=a.length:=by
  have:=Rt K;omega
 subst t;refine U1 3 [6,7] U ?_;rw[Rz];refine G.freezeArr 0 ((a.map g).map ef) U U (H4 _) (by rw[au,au]) fun Cf aV aH=>Vo (G.dropAll (VA U3 ?_));exact⟨U,_,by rw[o],by rw[aM o];exact aH⟩
theorem M3 {a:List Tri}{f:List Rat}{i:Nat}{r:List Nat}(b:kC pts a p=i::r)(c:a.getD i (0,0,0)=t)(h:QB 22 (onQ pts f t p)):zi pts a f p=.tuple #[ae (qtx (onQ pts f t p)),i_ 0]:=by
 unfold zi;rw[b];show zO (onQ pts f (a.getD i (0,0,0)) p)=_;rw[c,zO,aM (bh h)]
theorem D4 {S:Sht}{H:Hts}{l:List Sgt}(o s:Str)(z:o.length<=20)(A:s.length<=20)(C:dW S H l=B)(E:Calm B fs RO) :
  ∃ (g:List Rat->Str)(x:Int),(x=0->∀ f,g f≠[])/\∀ (f:List Rat)(a b c:Value)(D:Mem),f.length=B.pts.length->(∀ q∈f,Hlf q)->(∀ q∈f,QB 22 q)->Tabs D->MeshIn D (.agg ⟨[a,b]⟩) B.pts B.tris->Sl D 1 c (f.map dJ)->Gives cx.P 15 [.agg ⟨[a,b]⟩,c,.agg ⟨[ae o,ae s]⟩] D (.tuple #[ae (g f),i_ x]):=by
 have u:=E.rich.good;by_cases hr:(aR o && aR s)=true
 ·rw[RG]at hr;obtain⟨k,rfl,F⟩:=Ci hr.1;obtain⟨m,rfl,G⟩:=Ci hr.2;have y:=fun(f:List Rat)(a b c:Value)(D:Mem)(n:f.length=B.pts.length)(d:∀ q∈f,QB 22 q)(hT:Tabs D)(hm:MeshIn D (.agg ⟨[a,b]⟩) B.pts B.tris)(h3:Sl D 1 c (f.map dJ))=>ug D hT (.agg ⟨[a,b]⟩) c B.pts B.tris f 22 dc_ dc_ hm u h3 n d (fun q v=>bh (d q v)) (k,m) ⟨F,G⟩ hr;cases w:kC B.pts B.tris (k,m) with
 |nil =>
   refine⟨fun _=>[],28,fun h=>absurd h dc_,fun f a b c D n _ d hT hm h3=>?_⟩;have h:=y f a b c D n d hT hm h3;rw[show zi B.pts B.tris f (k,m)=.tuple #[ae [],i_ 28] by unfold zi;rw[w]]at h;exact h
 |cons i r =>
   obtain⟨t,I,J,_⟩:=Mr (pts:=B.pts) (tris:=B.tris) (p:=(k,m)) (i:=i) (by rw[w];exact Rq ..);have K:∀ j,Qtr (cor B.pts t j):=fun j=>by rw[<- C];exact rz j
   have L:=iv u.ok (aU I);refine⟨fun f=>qtx (onQ B.pts f t (k,m)),0,fun _ f e=>?_,fun f a b c D n M d hT hm h3=>?_⟩
   ·have:=sM (onQ B.pts f t (k,m));have N:qtx (onQ B.pts f t (k,m))=[]:=e;rw[N]at this;cases this
   obtain⟨_,h5⟩:=Ni (fs:=f) (p:=(k,m)) K L (fun j=>ix (P:=Hlf) M lJ) z A;have h:=y f a b c D n d hT hm h3;rw[M3 w J h5]at h;exact h
 refine⟨fun _=>[],2,fun h=>absurd h dc_,fun f a b c D n _ d hT hm h3=>?_⟩;exact FD D hT (.agg ⟨[a,b]⟩) c B.pts B.tris f hm u h3 n d (fun q v=>bh (d q v)) o s om_ om_ (by simpa using hr)
def ji (a b:List Rat)(j:Nat):Rat:=(a++b).getD j 0
theorem zI (l:List Rat)(n:Nat)(h:l.length=n):(List.range n).map (fun j=>l.getD j 0)=l:=by
 refine List.ext_getElem (by simp[h]) fun i h1 h2=>?_;rw[List.getElem_map,List.getElem_range,am,ai h2];rfl
theorem Ju {p:Nat}(c:a.length=p)(d:b.length=p):wI 2 p (ji a b)=[a,b]:=by
 unfold wI ji;rw[zI (a++b) (2*p) (by rw[Ru];omega),show List.range 2=[0,1] from rfl];simp only[R6,Tm,Tz,Uu];refine⟨?_, ?_⟩
 ·rw[Nat.zero_mul,SE,SP,TC,List.take_append,RN om_,c,TO,List.take_zero,RQ]
 rw[TC,RN (by rw[Ru];omega),TY,S3 om_,c,TO,SE,Tq]
theorem Jo (c:∀ q∈a,Hlf q)(d:∀ q∈b,Hlf q)(j:Nat):Hlf (ji a b j):=by
 unfold ji;refine ix (P:=Hlf) (fun x e=>?_) lJ;rcases RF.1 e with h|h
 ·exact c x h
 exact d x h
theorem Pu (c:∀ q∈a,Hlf q)(d:∀ q∈b,Hlf q)(n:Nat):Lp.CmD n 20 (ji a b):=by
 refine⟨2,by decide,by decide +kernel,fun j _=>?_⟩;obtain⟨k,h,e⟩:=Jo c d j;have:(38:Nat)<B9 ^ 20:=by decide +kernel
 exact⟨k,h,by omega⟩
theorem xJ {p:Nat}(f:List Str)(a:s=2):pB s p [f]=5:=by
 unfold pB;rw[aF (by rw[a];simp)]
theorem HI (C:Mem)(x:Str):Gives cx.P 34 [ae x] C (.bool (decide (x=[]))):=by
 refine Vi func34 5 U3 fun w0=>U1 1 [0] U<|U1 3 [2] U<|Vg U2<|⟨?_,U⟩;congr 1;by_cases h:x=[]
 ·subst h;rfl
 rw[RU h];simp[h]
theorem HH (C:Mem)(b:Value)(y:Str)(c d:Nat)(e j k l:Value)(f g:Value)(h i:Str)(m:e=.agg ⟨[f,g]⟩)
  (n:C c=some (.cells ⟨[f,g,j,k,l]⟩ 45 (0,0))) (o:C d=some (.cells ⟨[ae h,ae i]⟩ 34 (0,0)))
  (p:∀ D:Mem,C.le D->Gives cx.P 15 [e,b,.agg ⟨[ae h,ae i]⟩] D (.tuple #[ae y,i_ 0])) :
  Gives cx.P 36 [b,ae y,p_ c,p_ d] C (.bool true):=by
 subst m;exact Vi func36 24 U3 fun w0=>U1 1 [0,1,2,3] U<|Va 1 U fun R a=>Vb (bkT n 2) U8<|Vc U6<|Vb (bkT o 2) U8<|Vl (p _ mup) U7<|C6 5 [1,7,8] a U<|Va 6 U fun R a=>Vz U8<|C6 1 [6] a U<|Vg U2<|⟨by simp,U⟩
theorem Qm (C:Mem)(v w:Value)(e:List Value)(b:List Str)(f g:Nat)(h:Sl C 1 v (e.map fun w=>[w]))(j:Sl C 1 w (b.map ef))(r:e.length=b.length)(K:b.length<=1000)
  (s:∀ (i:Nat)(a:Value)(y:Str),e[i]?=some a->b[i]?=some y->(∃ A n c,a=.slice A n c)/\∀ D:Mem,C.le D->Gives cx.P 36 [a,ae y,p_ f,p_ g] D (.bool true)) :
  Gives cx.P 35 [v,w,.func (.func 36) #[] #[p_ f,p_ g]] C (.bool true):=by
 obtain⟨t,c0,rfl,_⟩:=id h;obtain⟨u,x,rfl,_⟩:=id j;simp only[au,r]at h j⊢;refine Vi func35 32 U3 fun w0=>U1 1 [0,1,2] U<|U1 5 [0,1,2,14] U<|G.cd (fun k=>?_) fun k=>?_
 ·exact absurd k ak
 refine U1 3 [1,2,15,16,17] U<|G.loop (fun fr L z B=>∃ (i:Nat),(i<=b.length)/\fr=[(1,[],.slice u b.length x),(2,[],.func (.func 36) #[] #[p_ f,p_ g]),(15,[],.slice t b.length c0),(16,[],i_ b.length),(17,[],i_ i)]/\z=[]/\B=b.length-i) (hn_ [1,2,15,16,17] U) ⟨0,Rv _,U,U,U⟩ (fun fr M N m _ E=>?_);obtain⟨i,O,rfl,rfl,rfl⟩:=E;refine U1 1 [1,2,15,16,17,18] U<|G.cd (fun l=>?_) fun l=>?_
 ·have F:i<b.length:=by
   have:=QL l;omega
  obtain⟨y,o⟩:∃ y,b[i]?=some y:=⟨b[i],ai F⟩;obtain⟨a,p⟩:∃ a,e[i]?=some a:=⟨e[i]'om_,ai om_⟩;obtain⟨⟨A2,n2,c2,rfl⟩,H⟩:=s i a y p o;refine Va 1 U fun R d=>Vq h.m_ U10 om_ (by rw[Rr,p];rfl:(e.map fun w=>[w])[i]?=some [_]) fl_ fun Q I=>Vb I U8<|C6 2 [1,2,7,8,15,16,17] d U<|Va 2 U fun R d=>Vq j.m_ U10 om_ (by rw[Rr,o];rfl:(b.map ef)[i]?=some (ef y)) fl_ fun S J=>Vb J U8<|C6 1 [1,2,8,9,15,16,17] d U<|Va 3 U fun R d=>Vl (H _ mup) U7<|C6 1 [1,2,15,16,17,30] d U<|G.cd (fun q=>?_) fun q=>?_
  ·exact absurd q dc_
  refine Vd fun R d=>Vh _ U U6<|C6 1 [1,2,15,16,17] d U<|Vn (m':=b.length-(i+1)) om_ mup (hn_ [1,2,15,16,17] U) ⟨i+1,by omega,U,U,U⟩
 exact U1 1 [6] U<|Vg U2<|⟨U,U⟩
abbrev sF8 (A:Option Addr)(n c:Nat):Value:=.slice A n c
def xA (a b:List Rat)(k:Nat):List Rat:=if k=0 then a else b
theorem EM {v:Value}(c:ws.length=2)(d:∀ (k:Nat)(w:Value),ws[k]?=some w->Sl C 1 w ((xA a b k).map dJ))(f:Sl C 1 v (ws.map fun w=>[w])):FieldsIn C v (txs [a,b]):=by
 refine⟨ws,by rw[c];rfl,fun i w l h1 h2=>?_,f⟩;have h3:=d i w h1;rw[fW]at h3;have g:=(aJ.1 h1).1;rcases(by omega:i=0∨i=1) with rfl|rfl
 ·have e:a.map qtx=l:=Sx h2;rw[<- e];exact h3
 have e:b.map qtx=l:=Sx h2;rw[<- e];exact h3
theorem Fs {D:Mem}{w:Value}(c:C.le D)(d:∀ (k:Nat)(w:Value),ws[k]?=some w->Sl C 1 w ((xA a b k).map dJ))(f:Sl D 1 w ((xA a b ws.length).map dJ)):∀ (k:Nat)(x:Value),(ws++[w])[k]?=some x->Sl D 1 x ((xA a b k).map dJ):=fun k x h=>by
 rw[List.getElem?_append]at h;split at h
 ·exact(d k x h).mono c
 have:k-ws.length=0:=by
  have:=(aJ.1 h).1;simp at this;omega
 rw[this]at h;have e:w=x:=Sx h;rw[<- e,show k=ws.length by omega];exact f
theorem ED (C:Mem)(t:Tabs C)(pv:Value)(O Q:Str)(S:Sht)(H H0 H1:Hts)(l:List Sgt)(hP:IW C pv S H l)(al:PlanR S H l)(a2:Jb H0)(a3:Jb H1):Gives cx.P 6 [pv,.agg ⟨HF H0++HF H1⟩,.agg ⟨[ae O,ae Q]⟩] C (.bool true):=by
 obtain⟨A,c,rfl,a4⟩:=hP;have hG:=(gH (S.kd % 8) (R9 _ dc_) S.a S.b S.h).1;obtain⟨B,L⟩:∃ B,dW S H l=B:=⟨_,rfl⟩;have u:=AZ S H l al.s;have aK:=fun(D:Mem)(J:C.le D)=>Hi D (t.mono J) S H _ l al.kd al.h (a4.mono J) al.s hG;obtain⟨aa,aq⟩:=IK S H l;have aL:=vl (cA (S.kd % 8) S.a S.b S.h).length H;rw[L]at u aK aa aq;generalize fsK (cA (S.kd % 8) S.a S.b S.h).length H=fs at u aL;generalize roK S H l=RO at u;have a5:=fun(T:O.length<=20)(hy:Q.length<=20)=>D4 (S:=S) (H:=H) (l:=l) (B:=B) (RO:=RO) O Q T hy L u;obtain⟨p,am⟩:∃ F,fsK B.pts.length H0=F:=⟨_,rfl⟩;obtain⟨o,an⟩:∃ F,fsK B.pts.length H1=F:=⟨_,rfl⟩;have aN:p.length=bp B:=by rw[<- am];exact nN _ _
 have aO:o.length=bp B:=by rw[<- an];exact nN _ _
 have aP:∀ q∈p,Hlf q:=by rw[<- am];exact vl _ _
 have aQ:∀ q∈o,Hlf q:=by rw[<- an];exact vl _ _
 have aR:∀ q∈p,QB 22 q:=by rw[<- am];exact fun q hq=>(yp _ _ q hq).le dc_
 have ar:∀ q∈o,QB 22 q:=by rw[<- an];exact fun q hq=>(yp _ _ q hq).le dc_
 have a6:wI (bs B) (bp B) (ji p o)=[p,o]:=by rw[aa];exact Ju aN aO
 have a7:iZ (bs B) (bp B) (ji p o)=txs [p,o]:=by rw[<- zq,a6];rfl
 have a8:=Pu aP aQ (bs B*bp B);have ao:∀ j,QB 22 (ji p o j):=fun j=>by
  unfold ji;refine ix (P:=QB 22) (fun x T=>?_) (QB_zero.le dc_);rcases RF.1 T with h|h
  ·exact aR x h
  exact ar x h
 have bw:=u.n12;have bx:=u.rich.scol.1;have av:=u.rich.terr;have bz:=mx_
 refine Vi func6 125 U3 fun w0=>?_;refine Vd fun R d=>?_;refine Vs U6 (fun b3=>?_);refine Vs U6 (fun b4=>?_);refine Vs U6 (fun b5=>?_);refine C6 1 [3,4,5] d U ?_;clear d R;refine G.freeze 2 U (fun _ _ a9=>?_);refine G.freeze 1 U (fun _ _ aS=>?_);refine G.freeze 0 U (fun _ _ ab=>?_);refine Vd fun R d=>?_;refine Vl (ye _ t.m_) U7 ?_;refine Ve 3 U ?_;refine VE U6 (fun _=>PtrTo.blockT (Mem.get ab mup) _ 1) U3 ?_;refine Ve 2 U ?_;refine VH U8 ?_;refine Ve 2 U ?_;refine VE U6 (fun _=>PtrTo.blockT (Mem.get ab mup) _ 1) U3 ?_;refine Ve 2 U ?_;refine VH U8 ?_;refine Vf [3,4,5,30] d U ?_;clear d R;refine G.cd (fun aw=>?_) fun aw=>?_
 ·refine Vd fun R d=>?_;refine Vl (ye _ t.m_) U7 ?_;refine C6 1 [6] d U ?_;clear d R;refine Vg U2 ?_;exact⟨U,U⟩
 have T:O.length<=20:=by
  simp at aw;omega
 have hy:Q.length<=20:=by
  simp at aw;omega
 obtain⟨g,we,ba,bb⟩:=a5 T hy;refine Vd fun R d=>?_;refine Vb (bkT a9 12) U8 ?_;refine VJ (aK _ mup) U7 (fun bA bc _ V=>?_);obtain⟨W,X,tv,cv,ov,rfl,g1,g2,g3,g4,g5⟩:=id V;have hm:MeshIn bc (.agg ⟨[W,X]⟩) B.pts B.tris:=⟨W,X,rfl,g1,g2⟩;rw[av.e,<- fW]at g3;obtain⟨B1,d1,rfl,be,_⟩:=id g1;obtain⟨B2,d2,rfl,_⟩:=id g2;obtain⟨B3,d3,rfl,_⟩:=id g3;obtain⟨B4,d4,rfl,bf,_⟩:=id g4;obtain⟨B5,d5,rfl,_⟩:=id g5;have bg:(B.col.map vu).length=bs B+1:=by rw[au];omega
 have bh:(B.pts.map gx).length=B.pts.length:=au _;simp only[bg,bh]at g4 bf g1 be hm V⊢;refine Vt U5 (fun b7=>?_);refine Vk (j:=0) U12 ?_;refine Vf [4,5,7] d U ?_;clear d R;refine G.freeze 0 U (fun _ _ z=>?_);refine Vd fun R d=>?_;refine Vb (bkT z 5) U8 ?_;refine VJ (xZ _ t.m_ _ B fs RO V.m_ u) U7 (fun bB _ _ bi=>?_);obtain⟨lv,rfl,bC⟩:=bi;refine C6 5 [4,5,7,9] d U ?_;clear d R;refine U1 2 [4,5,7,40] U ?_;refine G.cd (fun aT=>?_) fun aT=>?_
 ·exact absurd aT dc_
 refine U1 1 [4,5,7,10] U ?_;refine Va 1 U fun R d=>?_;refine Vb (bkT z 1) U8 ?_;refine Vc U6 ?_;refine Vh _ U U6 ?_;refine C6 1 [4,5,7,10,44,45] d U ?_;clear d R;refine G.nilArr 41 1 ?_;refine G.loop (fun fr C' L' μ=>∃ (i:Nat)(ws:List Value)(M:Option Addr)(n1 I:Nat),(ws.length=i/\i<=2/\∀ (k:Nat)(w:Value),ws[k]?=some w->Sl C' 1 w ((xA p o k).map dJ))/\fr=[(4,[],p_ b4),(5,[],p_ b5),(7,[],p_ b7),(10,[],.slice M n1 I),(44,[],i_ (bs B+1-1:Int)),(45,[],i_ i)]/\L'=[.arr (.slice M n1 I) 41 1 i (ws.map fun w=>[w]).flatten]/\μ=2-i) (hn_ [4,5,7,10,44,45] U) ⟨0,[],none,0,0,⟨U,Rv _,fun k w h=>by cases h⟩,U,U,U⟩ (fun fr bD bE m _ hI=>?_);obtain⟨i,ws,M,n1,I,⟨ac,bF,ad⟩,rfl,rfl,rfl⟩:=hI;refine U1 1 [4,5,7,10,44,45,46] U ?_;refine G.cd (fun ay=>?_) fun ay=>?_
 ·have bG:i<2:=by
   have:=QL ay;omega
  rcases(by omega:i=0∨i=1) with rfl|rfl
  ·refine U1 2 [4,5,7,10,11,44,45] U ?_;refine Vv [0,1,2,3,4,5,6,7,8,9,10] [] U kr_ (fun R L d=>?_);refine Ve 2 U ?_;refine Vb (bkT z 2) U8 ?_;refine Vc U6 ?_;refine VW (0) (2) U6 om_ U2 ?_;refine Vw ((0*7)) U9 w_ U2 ?_;refine Vb (bkT aS 7) U8 ?_;refine VC (fS _ t.m_ _ _ B.pts.length _ _ H0 U (by have:B.pts.length<=6:=aq;omega) a2) U7 fl_ (fun bj bk _ K=>?_);rw[am]at K;obtain⟨Y,Z,rfl,_⟩:=id K;simp only[au]at K⊢;refine Vy [[.slice Y p.length Z]] U12 (fun bl bm _ az=>?_);refine VF (j:=0) U11 az U ax (by show(0+1)*24<=_;decide) fl_ (fun af ag ah=>?_);refine Vc U6 ?_;refine Vf [4,5,7,10,44,45] d U ?_;clear d L R;refine Vd fun R d=>?_;refine Vh _ U U6 ?_;refine C6 1 [4,5,7,10,44,45] d U ?_;clear d R;refine Vr (L':=[.arr (.slice af ag ah) 41 1 (0+1) ((ws++[sF8 Y p.length Z]).map fun w=>[w]).flatten]) ak ?_;refine Vn (m':=2-(0+1)) om_ mup (hn_ [4,5,7,10,44,45] U) ⟨0+1,ws++[sF8 Y p.length Z],af,ag,ah,⟨by rw[Ru,ac];rfl,by decide,Fs mup ad (by rw[ac];exact K.mono mup)⟩,U,U,U⟩
  refine U1 2 [4,5,7,10,11,44,45] U ?_;refine Vv [0,1,2,3,4,5,6,7,8,9,10] [] U kr_ (fun R L d=>?_);refine Ve 2 U ?_;refine Vb (bkT z 2) U8 ?_;refine Vc U6 ?_;refine VW (1) (2) U6 om_ U2 ?_;refine Vw ((1*7)) U9 w_ U2 ?_;refine Vb (bkT aS 7) U8 ?_;refine VC (fS _ t.m_ _ _ B.pts.length _ _ H1 U (by have:B.pts.length<=6:=aq;omega) a3) U7 fl_ (fun bj bk _ K=>?_);rw[an]at K;obtain⟨Y,Z,rfl,_⟩:=id K;simp only[au]at K⊢;refine Vy [[.slice Y o.length Z]] U12 (fun bl bm _ az=>?_);refine VF (j:=0) U11 az U ax (by show(1+1)*24<=_;decide) fl_ (fun af ag ah=>?_);refine Vc U6 ?_;refine Vf [4,5,7,10,44,45] d U ?_;clear d L R;refine Vd fun R d=>?_;refine Vh _ U U6 ?_;refine C6 1 [4,5,7,10,44,45] d U ?_;clear d R;refine Vr (L':=[.arr (.slice af ag ah) 41 1 (1+1) ((ws++[sF8 Y o.length Z]).map fun w=>[w]).flatten]) ak ?_;refine Vn (m':=2-(1+1)) om_ mup (hn_ [4,5,7,10,44,45] U) ⟨1+1,ws++[sF8 Y o.length Z],af,ag,ah,⟨by rw[Ru,ac];rfl,by decide,Fs mup ad (by rw[ac];exact K.mono mup)⟩,U,U,U⟩
 have bn:i=2:=by
  have:=Rt ay;omega
 subst bn;have N:ws.length=2:=ac;refine G.freezeArr 0 (ws.map fun w=>[w]) rfl rfl (by intro r hr;obtain⟨y,_,rfl⟩:=Rs.1 hr;rfl) (by rw[au,N]) (fun Cf bH ai=>?_);have aU:=EM N (fun k w h=>(ad k w h).mono mup) ai;have bo:n1=2:=by
  obtain⟨A',c',he,_⟩:=id ai;simp only[Value.slice.injEq]at he;rw[he.2.1,au,N]
 subst bo;have aV:2<=I:=by
  obtain⟨A',c',he,bq,_⟩:=id ai;simp only[Value.slice.injEq]at he;rw[au,N]at bq;omega
 have aW:=Sl.sub ai (l:=1) (h:=2) (m:=I) dc_ (by rw[au,N];exact Ro _) aV (Ro _);rw[RN (by rw[au,N];exact Ro _),<- List.map_drop]at aW;have br:FieldsIn Cf (.slice (if I=1 then M else M.map (·.add (1*1))) (2-1) (I-1)) [o.map qtx]:=by
  refine⟨ws.drop 1,by rw[Th,N];rfl,fun i w l h1 h2=>?_,aW⟩;rw[List.getElem?_drop]at h1;have hi:=(aJ.1 h1).1;obtain rfl:i=0:=by omega
  have e:o.map qtx=l:=Sx h2;rw[<- e,<- fW];exact(ad 1 w h1).mono mup
 have h5:KP B RO [o.map qtx] []=5:=by
  unfold KP;rw[xJ _ aa];exact aM dc_
 have aX:=fun(D:Mem)(aA:Tabs D)(bv sv:Value)(aB:BookIn D bv B)(aC:FieldsIn D sv [o.map qtx])=>yj D aA bv sv B fs RO [o.map qtx] [] aB u aC (fun l hl x T=>by
  rw[RK]at hl;subst hl;obtain⟨q,hq,rfl⟩:=Rs.1 T;exact RD (bd (ar q hq) dc_) dc_) ak (fun h=>absurd h (by rw[xJ _ aa];decide))
 simp only[h5]at aX;have aY:FieldsIn Cf (.slice M 2 I) (iZ (bs B) (bp B) (ji p o)):=by rw[a7];exact aU
 have aj:∀ f,(f=fs∨f∈[p,o])->f.length=B.pts.length/\(∀ q∈f,Hlf q)/\(∀ q∈f,QB 22 q):=fun f v=>by
  rcases v with rfl|v
  ·exact⟨av.l,aL,av.q⟩
  simp only[RC,Ss,TS]at v;rcases v with rfl|rfl
  ·exact⟨aN,aP,aR⟩
  exact⟨aO,aQ,ar⟩
 have aD:∀ (f:List Rat)(W X fv:Value)(D:Mem),(f=fs∨f∈[p,o])->Tabs D->MeshIn D (.agg ⟨[W,X]⟩) B.pts B.tris->Sl D 1 fv (f.map dJ)->Gives cx.P 15 [.agg ⟨[W,X]⟩,fv,.agg ⟨[ae O,ae Q]⟩] D (.tuple #[ae (g f),i_ we]):=fun f W X fv D v t hm hs=>bb f W X fv D (aj f v).1 (aj f v).2.1 (aj f v).2.2 t hm hs;refine Vd fun R d=>?_;refine Vb (bkT z 5) U8 ?_;refine Vc U6 ?_;refine Vb (bkT ab 2) U8 ?_;refine VJ (Aa _ t.m_ _ _ _ B fs RO [p,o] g we O Q V.m_ u U aU.m_ aa.symm (fun f v=>(aj f (.inr v)).1) (fun f v=>(aj f (.inr v)).2.2) aD) U7 (fun bI bt _ bu=>?_);obtain⟨wv,rfl,ap⟩:=bu;obtain⟨Aw,cw,rfl,_⟩:=id ap;refine C6 5 [5,7,10,12,13] d U ?_;clear d R;refine U1 1 [5,7,10,12,13,14] U ?_;refine Vd fun R d=>?_;refine Vb (bkT z 5) U8 ?_;refine Vc U6 ?_;refine Vm (Ey _ t.m_ _ _ B fs RO (ji p o) 20 V.m_ u aY.m_ dc_ a8 ao) U7 fl_ ?_;refine Vf [5,7,10,12,13,14,68] d U ?_;clear d R;refine G.cut (fun fr C' L' μ=>∃ (w:Int),(w=if atB (oA B RO) (ji p o)=true then 0 else 23)/\fr=[(5,[],p_ b5),(7,[],p_ b7),(10,[],.slice M 2 I),(12,[],.slice Aw (((if we=0 then [p,o].map g else []).map ef)).length cw),(13,[],i_ we),(14,[],i_ w)]/\L'=[]) ?_ (fun fr _ bJ μ _ hI=>?_)
 ·refine G.cd (fun aE=>?_) fun aE=>?_
  ·have aG:atB (oA B RO) (ji p o)=true:=aE;refine U1 1 [5,7,10,12,13,14] U ?_;refine Vp 0 mup (hn_ [5,7,10,12,13,14] U) ⟨0,(by rw[aM aG]),U,U⟩
  have aG:¬ atB (oA B RO) (ji p o)=true:=by rw[show atB (oA B RO) (ji p o)=false from aE];decide
  refine Vp 0 mup (hn_ [5,7,10,12,13,14] U) ⟨23,(by rw[aF aG]),U,U⟩
 obtain⟨w,hw,rfl,rfl⟩:=hI;have aZ:=fun(D:Mem)(aA:Tabs D)(bv:Value)(aB:BookIn D bv B)(aC:FieldsIn D (.slice M 2 I) (iZ (bs B) (bp B) (ji p o)))=>yj D aA bv _ B fs RO _ ((List.range (bs B*bp B)).map (ji p o)) aB u aC (DS ao) (by unfold iZ chunks;simp;omega) (FN ao);simp only[Qe ao,<- hw]at aZ;refine Vv [0,1,2,3,4,5,6,7,8,9,10,11,12,13,14,15,16] [(2,1)] U kr_ (fun R L d=>?_);refine Vb (bkT z 5) U8 ?_;refine Vc U6 ?_;refine VK (fun _=>(aZ _ t.m_ _ V.m_ aY.m_)) U9 ?_;refine Ve 7 U ?_;refine VE U6 (fun _=>PtrTo.blockT (Mem.get z mup) _ 5) U3 ?_;refine Vc U6 ?_;refine VV 1 2 I U12 (fun _=>⟨.inr ⟨_,U⟩,.inl ⟨U,U⟩,.inl ⟨U,U⟩,by decide,aV,Ro _⟩) U2 ?_;refine VK (fun _=>(aX _ t.m_ _ _ V.m_ br.m_)) U9 ?_;refine Vc U6 ?_;refine Vz U8 ?_;refine VH U8 ?_;refine Vf [5,7,10,12,13,85] d U ?_;clear d L R;refine G.cd (fun a0=>?_) fun a0=>?_
 ·exact absurd a0 ak
 refine Va 1 U fun R d=>?_;refine Vb (bkT z 2) U8 ?_;refine Vc U6 ?_;refine Vb (bkT z 1) U8 ?_;refine Vb (bkT ab 2) U8 ?_;refine Vl (aD fs _ _ _ _ (.inl U) t.m_ hm.m_ g3.m_) U7 ?_;refine C6 5 [5,7,10,12,13,16] d U ?_;clear d R;refine U1 2 [5,7,10,12,13,16,96] U ?_;refine G.cd (fun aH=>?_) fun aH=>?_
 ·have aI:we≠0:=by simpa using aH
  refine Va 7 U fun R d=>?_;refine Vz U8 ?_;refine C6 1 [6] d U ?_;clear d R;refine Vg U2 ?_;exact⟨by simp[aI],U⟩
 have aI:we=0:=by simpa using aH
 subst aI;rw[aM rfl]at ap⊢;have a1:∀ (i:Nat)(a:Value)(y:Str),ws[i]?=some a->([p,o].map g)[i]?=some y->(∃ A n c,a=.slice A n c)/\∀ D:Mem,bt.le D->Gives cx.P 36 [a,ae y,p_ b7,p_ b5] D (.bool true):=fun i a y h1 h2=>by
  have h3:=ad i a h1;have hi:=(aJ.1 h1).1;obtain⟨A',c',rfl,_⟩:=id h3;refine⟨⟨_,_,_,U⟩,fun D J=>?_⟩;have hy:y=g (xA p o i):=by
   rcases(by omega:i=0∨i=1) with rfl|rfl
   ·exact(Sx h2).symm
   exact(Sx h2).symm
  subst hy;refine HH D _ _ b7 b5 _ _ _ _ _ _ O Q U (Mem.get z (Mem.le.trans mup J)) (Mem.get ab (Mem.le.trans mup J)) fun E hE=>?_;refine aD (xA p o i) _ _ _ E (.inr (by unfold xA;split <;> simp)) (t.mono (Mem.le.trans (Mem.le.trans mup J) hE)) (hm.mono (Mem.le.trans (Mem.le.trans mup J) hE)) (h3.mono (Mem.le.trans (Mem.le.trans mup J) hE))
 refine Va 8 U fun R d=>?_;refine Vz U8 ?_;refine Ve 2 U ?_;refine Vx (fun _=>(zL _ _ ([p,o].map g) 34 [] (fun x=>decide (x=[])) ap.m_ kr_ (fun x _ D _=>HI D x))) U9 ?_;refine Vc U6 ?_;refine Vz U8 ?_;refine Ve 4 U ?_;refine Vx (fun _=>(Qm _ _ _ ws ([p,o].map g) b7 b5 ai.m_ ap.m_ (by rw[N];rfl) ak (fun i a y h1 h2=>⟨(a1 i a y h1 h2).1,fun D J=>(a1 i a y h1 h2).2 D (Mem.le.trans mup J)⟩))) U9 ?_;refine Vz U8 ?_;refine C6 1 [6] d U ?_;clear d R;refine Vg U2 ?_;exact⟨by simp[ba rfl],U⟩
end Go.Proofs.YtfjcldheldflbaaGreatDoor
