/- Laws that the proofs of this seat share, part 16. -/
import Derived.Test.YtfjcldheldflbaaGreatDoorG15
import Derived.Test.YtfjcldheldflbaaGreatDoorShelf
set_option maxHeartbeats 4000000
namespace Go.Proofs.YtfjcldheldflbaaGreatDoor
open Go.Proofs.Tryz
open Go Go.Jog
set_option maxRecDepth 100000
variable {B:Bk}{RO:Nat->List RowQ}{a b c d:Int}{fs:List Rat}{p:Pt}{pts:List Pt}{q:Rat}{t:Tri}{w x y z:Int}
theorem CO {o:Obs}{z:Rat}(h:(cD B.col o).length<=2):(rowsO B o p t z).length<=8:=by
 unfold rowsO;split
 ·rw [PM];split <;> split <;> simp
 split
 ·have:=Jr (c:=2) (f:=fun k=>[1, -1].map (gJ (bs B) (bp B) k (atT t (wgt B.pts t p)) (kU o z))) (l:=cD B.col o) (fun k _=>by simp);omega
 have:=Jr (c:=4) (f:=fun k=>[1, -1].map (gJ (bs B) (bp B) k (atT t fun j=>(slf B.pts t j).1) (pY o))++[1, -1].map (gJ (bs B) (bp B) k (atT t fun j=>(slf B.pts t j).2) (iS o))) (l:=cD B.col o) (fun k _=>by simp);omega
theorem zq (S:Sht)(H:Hts)(l:List Sgt)(c:∀ s∈l,SgtR s):Calm (ef S H l) (fsK (cC (S.kd % 8) S.a S.b S.h).length H) (roK S H l):=by
 have e:=jF (S.kd % 8) S.a S.b S.h;have f:(ef S H l).obs.length=min l.length 6:=lC S l;refine ⟨DK S H l c, ?_,zY Pv _,fun i g=>?_, ?_,fun i _=>?_,by omega⟩
 ·show 2*(cC (S.kd % 8) S.a S.b S.h).length<=12;omega
 ·have d:i<l.length:=by omega
  refine NU S H l _ i ?_;rw [ax,aj d];exact c _ (Qx d)
 ·have h1:=jt (bs (ef S H l)) (bp (ef S H l)) colK 1;have h2:bp (ef S H l)<=6:=e;show (ba (bs (ef S H l)) (bp (ef S H l)) colK 1).length<=24;omega
 refine CO ?_;unfold cD vF;refine PV (Rc _ _) ?_;rw [QR];exact PE 2
theorem Dd (C:Mem)(f:Tabs C)(g:Value)(d:List Pt)(e:List Tri)(b c:Str)(h:MeshIn C g d e)(l:Good d e)(m:b.length<=999998)(n:c.length<=999998)(o:(aS b && aS c)=false) :
  Gives cx.P 18 [g,.agg ⟨[af b,af c]⟩] C (.tuple #[.slice none 0 0,.int .i64 2]):=by
 have p:=h;obtain ⟨t,u,rfl,h1,h2⟩:=id h.ex;have i:=fun (D:Mem)(q:C.le D)=>fu D (f.mono q) b c m n;rw [o] at i;refine Tr func18 34 U3 fun w0=>Tl fun R a=>TC U6 fun v=>TC U6 fun w=>C6 2 [2,3] a Z<|G.freeze 1 Z fun _ _ r=>G.freeze 0 Z fun _ _ s=>Tl fun R a=>Tj (PtrTo.block (Mem.get r mup) _) U8<|Tt (fA _ f.m_ _ d e p.m_ l) U7<|C6 1 [2,3,6] a Z<|Th 2 [2,3,6,12] Z<|G.cd (fun j=>?_) fun j=>?_
 ·exact absurd j dc_
 refine Tl fun R a=>Tj (PtrTo.block (Mem.get s mup) _) U8<|Tt (i _ mup) U7<|C6 1 [2,3,16] a Z<|G.cd (fun k=>?_) fun k=>?_
 ·refine Th 2 [4,5] Z<|Tu (G.dropAll (TM U3 ?_));exact ⟨Z,Z⟩
 exact absurd k dc_
theorem Eg (C:Mem)(h:Tabs C)(i j:Value)(b:List Pt)(d:List Tri)(a:List Rat)(l:MeshIn C i b d)(m:Good b d)(g:Sl C 1 j (a.map ec))(s:a.length=b.length)(t:∀ q∈a,QB 22 q)(u:∀ q∈a,aS (qtx q)=true)
  (e f:Str) (v:e.length<=999998) (w:f.length<=999998) (x:(aS e && aS f)=false):Gives cx.P 15 [i,j,.agg ⟨[af e,af f]⟩] C (.tuple #[af [],.int .i64 2]):=by
 have n:=l;obtain ⟨D,E,rfl,h1,h2⟩:=id l.ex;obtain ⟨y,z,rfl,_⟩:=id g;simp only [al] at g ⊢;refine Tr func15 40 U3 fun w0=>Tl fun R c=>TC U6 fun F=>TC U6 fun H=>C6 2 [1,3,5] c Z<|G.freeze 1 Z fun _ _ o=>G.freeze 0 Z fun _ _ A=>Tl fun R c=>Tj (PtrTo.block (Mem.get o mup) _) U8<|Tk U6<|TF [[.slice y a.length z]] U12 fun I _ _ B=>Tw (qu _ h.m_ _ _ _ b d a n.m_ m B.m_ g.m_ s (k:=22) dc_ t u) U7 fl_<|C6 1 [1,3,5,8] c Z<|Th 2 [1,3,5,8,16] Z<|G.cd (fun p=>?_) fun p=>?_
 ·exact absurd p dc_
 refine Tl fun R c=>Tj (PtrTo.block (Mem.get o mup) _) U8<|Tj (PtrTo.block (Mem.get A mup) _) U8<|Tt (Dd _ h.m_ _ b d e f n.m_ m v w x) U7<|C6 5 [1,3,5,9,10] c Z<|Th 2 [1,3,5,9,10,25] Z<|G.cd (fun r=>?_) fun r=>?_
 ·refine Th 3 [6,7] Z<|Tu (G.dropAll (TM U3 ?_));exact ⟨Z,Z⟩
 exact absurd r dc_
theorem E3 (C:Mem)(n:Tabs C)(b c:Value)(B:Bk)(d:List Rat)(e:Nat->List RowQ)(s:Int)(o p:Str)(f:BookIn C b B)(h:Calm B d e)(v:s<0∨(bs B:Int)<=s)(q:c=.agg ⟨[af o,af p]⟩) :
  Gives cx.P 14 [b,.int .i64 s,c] C (.tuple #[af [],af [],.int .i64 3]):=by
 subst q;have g:=fun (D:Mem)(i:C.le D)=>fN D (n.mono i) b B d e (f.mono i) h;obtain ⟨w,x,y,z,A,rfl,h1,h2,h3,h4,h5⟩:=id f.ex;obtain ⟨E,F,rfl,r,_⟩:=id h4;have t:(B.col.map sj).length=bs B+1:=by rw [al];have:=h.rich.scol.1;omega
 simp only [t] at h4 r g ⊢;have H:maxLen<=9223372036854775807:=by simp [maxLen]
 refine Tr func14 110 U3 fun w0=>Tl fun R a=>TC U6 fun I=>TC U6 fun J=>C6 3 [1,3,5] a Z<|G.freeze 1 Z fun _ _ k=>G.freeze 0 Z fun _ _ K=>TH [(1,3)] Z fun R a=>Tj (bkT k 5) U8<|D.call (g _ mup) Z (.inr dc_) U6 (PI _) fl_ (fun L _ M _ u=>?_);obtain ⟨N,O,Q,vs,rfl,S,rfl⟩:=u;refine Tm 3 Z<|TB U5 fun T=>Ts (j:=0) U12<|C6 1 [1,3,5,8,9] a Z<|Th 2 [1,3,5,8,9,26] Z<|G.cd (fun l=>?_) fun l=>?_
 ·exact absurd l dc_
 refine Ti 5 Z fun R a=>TN U6 (fun _=>PtrTo.blockT (Mem.get k mup) _ 1) U3<|Tk U6<|Tq _ Z U6<|Tk U6<|TQ U8<|Tn [1,3,5,9,37] a Z<|G.cd (fun m=>?_) fun m=>?_
 ·refine Th 3 [6,7,8] Z<|Tu (G.dropAll (Uk U4 ?_));exact ⟨Z,Z⟩
 exact absurd m ap
theorem E2 (C:Mem)(t:Tabs C)(g i:Value)(B:Bk)(k:List Rat)(l:Nat->List RowQ)(s:Nat)(u v w:Str)(e:Int)(m:BookIn C g B)(h:Calm B k l)(K:s<bs B)(x:i=.agg ⟨[af u,af v]⟩)(y:e≠0)
  (z:∀ b c d,MeshIn C (.agg ⟨[b,c]⟩) B.pts B.tris->Sl C 1 d (k.map ec)->∀ D:Mem,C.le D->Gives cx.P 15 [.agg ⟨[b,c]⟩,d,i] D (.tuple #[af w,.int .i64 e])) :
  Gives cx.P 14 [g,.int .i64 s,i] C (.tuple #[af [],af [],.int .i64 e]):=by
 subst x;have n:=fun (D:Mem)(o:C.le D)=>fN D (t.mono o) g B k l (m.mono o) h;have A:=h.rich.terr;obtain ⟨b,c,d,L,M,rfl,h1,h2,h3,h4,h5⟩:=id m.ex;have hm:MeshIn C (.agg ⟨[b,c]⟩) B.pts B.tris:=⟨b,c,rfl,h1,h2⟩;rw [A.e,<- jg] at h3;have E:=z b c d hm h3;obtain ⟨N,O,rfl,F,_⟩:=id h4;have H:(B.col.map sj).length=bs B+1:=by rw [al];have:=h.rich.scol.1;omega
 simp only [H] at h4 F n ⊢;have Q:maxLen<=9223372036854775807:=by simp [maxLen]
 refine Tr func14 110 U3 fun w0=>Tl fun R a=>TC U6 fun S=>TC U6 fun T=>C6 3 [1,3,5] a Z<|G.freeze 1 Z fun _ _ f=>G.freeze 0 Z fun _ _ I=>TH [(1,3)] Z fun R a=>Tj (bkT f 5) U8<|D.call (n _ mup) Z (.inr dc_) U6 (PI _) fl_ (fun U _ V _ J=>?_);obtain ⟨W,X,Y,vs,rfl,aa,rfl⟩:=J;refine Tm 3 Z<|TB U5 fun b9=>Ts (j:=0) U12<|C6 1 [1,3,5,8,9] a Z<|Th 2 [1,3,5,8,9,26] Z<|G.cd (fun p=>?_) fun p=>?_
 ·exact absurd p dc_
 refine Ti 5 Z fun R a=>TN U6 (fun _=>PtrTo.blockT (Mem.get f mup) _ 1) U3<|Tk U6<|Tq _ Z U6<|Tk U6<|TQ U8<|Tn [1,3,5,9,37] a Z<|G.cd (fun q=>?_) fun q=>?_
 ·exact absurd q ap
 refine Ti 1 Z fun R a=>Tj (bkT f 2) U8<|Tk U6<|Tj (bkT f 1) U8<|Tj (bkT I 2) U8<|Tt (E _ mup) U7<|C6 5 [1,3,5,9,11] a Z<|Th 2 [1,3,5,9,11,48] Z<|G.cd (fun r=>?_) fun r=>?_
 ·refine Th 4 [6,7,8] Z<|Tu (G.dropAll (Uk U4 ?_));exact ⟨Z,Z⟩
 exact absurd r (by simpa using y)
theorem vP (h:(qtx q).length<=20):q.num.natAbs<=100000000000000000000/\q.den<=100000000000000000000:=by
 have h1:(bj q.num.natAbs).length<=20:=by
  unfold qtx at h;simp only [PM] at h;omega
 have h2:(bj q.den).length<=20:=by
  by_cases a:q.den=1
  ·rw [a];decide +kernel
  unfold qtx at h;rw [eY a] at h;simp only [PM,eJ,PW] at h;omega
 have b:∀ k:Nat,(bj k).length<=20->k<=100000000000000000000:=fun k c=>by
  have e:=dJ (bx k).1.1;rw [(bx k).2] at e;have h3:10 ^ (bj k).length<=10 ^ 20:=P2 dc_ c;omega
 exact ⟨b _ h1,b _ h2⟩
def Eb:Nat:=10000000000000000000000000000000000000000000000000
theorem La (a:cK (cor pts t 0) (cor pts t 1) (cor pts t 2)≠0) :
  wgt pts t p 0*fz fs t 0+wgt pts t p 1*fz fs t 1+wgt pts t p 2*fz fs t 2=onQ pts fs t p:=by
 unfold onQ Ew dC nh wgt;simp only [R5,List.foldl_nil];show cK p (cor pts t 1) (cor pts t 2) / _*_+cK p (cor pts t 2) (cor pts t 0) / _*_+cK p (cor pts t 0) (cor pts t 1) / _*_=_;unfold cK at a ⊢;unfold eo;generalize fz fs t 0=b;generalize fz fs t 1=c;generalize fz fs t 2=d;generalize (cor pts t 0).1=x0 at a ⊢;generalize (cor pts t 0).2=y0 at a ⊢;generalize (cor pts t 1).1=x1 at a ⊢;generalize (cor pts t 1).2=y1 at a ⊢;generalize (cor pts t 2).1=x2 at a ⊢;generalize (cor pts t 2).2=y2 at a ⊢;generalize p.1=px;generalize p.2=py;grind
theorem FJ (q:Rat):q*((q.den:Int):Rat)=(q.num:Rat):=by
 have h:(q.den:Rat)≠0:=by
  rw [<- Rat.intCast_natCast];exact fun e=>q.den_nz (by have:=Rat.intCast_eq_zero_iff.mp e;omega)
 have e:=Rat.num_divInt_den q;rw [Rat.divInt_eq_div] at e;rw [Rat.intCast_natCast] at e ⊢;generalize (q.den:Rat)=d at *;generalize (q.num:Rat)=n at *;rw [<- e];grind
theorem J2 {u v:Pt}(e:p.1*(b:Rat)=a)(f:p.2*(d:Rat)=c)(g:At4 u x y)(h:At4 v z w) :
  cK p u v*16*((b*d:Int):Rat)=((b*d*(x*w-y*z)-4*(a*d*(w-y))+4*(c*b*(z-x)):Int):Rat):=by
 obtain ⟨u1,i⟩:=g;obtain ⟨j,k⟩:=h;unfold cK;simp only [Qv,SB,RS];rw [<- e,<- f,<- u1,<- i,<- j,<- k];rw [show ((4:Int):Rat)=4 from rfl];grind
theorem Ol (g:a.natAbs<=100000000000000000000)(e:b.natAbs<=100000000000000000000)(h:c.natAbs<=100000000000000000000)(f:d.natAbs<=100000000000000000000)(i:-600<=x/\x<=600)(j:-600<=y/\y<=600)(k:-600<=z/\z<=600)(l:-600<=w/\w<=600) :
  (b*d*(x*w-y*z)-4*(a*d*(w-y))+4*(c*b*(z-x)):Int).natAbs<=Eb:=by
 have h1:=dx (a:=x) (b:=w) (M:=600) (K:=600) om_ om_;have h2:=dx (a:=y) (b:=z) (M:=600) (K:=600) om_ om_;have h3:=dx (dx e f) (b:=x*w-y*z) (K:=720000) om_;have h4:=dx (dx g f) (b:=w-y) (K:=1200) om_;have h5:=dx (dx h e) (b:=z-x) (K:=1200) om_;unfold Eb;omega
theorem Ef (e:∀ j,Qtr (cor pts t j))(g:cK (cor pts t 0) (cor pts t 1) (cor pts t 2)≠0)(h:(qtx p.1).length<=20)(i:(qtx p.2).length<=20) :
  ∃ D:Int,D≠0/\D.natAbs<=Eb/\∀ j,∃ N:Int,wgt pts t p j*(D:Rat)=N/\N.natAbs<=Eb:=by
 obtain ⟨n1,J⟩:=vP h;obtain ⟨n2,L⟩:=vP i;have k:=FJ p.1;have l:=FJ p.2;obtain ⟨x0,y0,h0,m,o⟩:=e 0;obtain ⟨x1,y1,h3,q,r⟩:=e 1;obtain ⟨x2,y2,h4,s,u⟩:=e 2;have f:=jV h0 h3 h4;obtain ⟨v,_⟩:=oW (n:=0) (N:=0) aq f g;have B:=wS (x0:=x0) (y0:=y0) (x1:=x1) (y1:=y1) (x2:=x2) (y2:=y2) ⟨m,o,q,r,s,u⟩;have C:(p.1.den:Int)≠0:=by have:=p.1.den_nz;omega
 have E:(p.2.den:Int)≠0:=by have:=p.2.den_nz;omega
 refine ⟨iA x0 y0 x1 y1 x2 y2*((p.1.den:Int)*(p.2.den:Int)),Int.mul_ne_zero v (Int.mul_ne_zero C E), ?_,fun j=>?_⟩
 ·have h5:=dx B (dx (a:=(p.1.den:Int)) (b:=(p.2.den:Int)) (M:=100000000000000000000) (K:=100000000000000000000) om_ om_);unfold Eb;omega
 obtain ⟨x,y,F,G,du⟩:=e ((j+1) % 3);obtain ⟨z,w,H,bv,I⟩:=e ((j+2) % 3);refine ⟨_, ?_,Ol (a:=p.1.num) (b:=p.1.den) (c:=p.2.num) (d:=p.2.den) n1 om_ n2 om_ G du bv I⟩;rw [<- J2 k l F H,Qv,<- f];unfold wgt;generalize cK p (cor pts t ((j+1) % 3)) (cor pts t ((j+2) % 3))=A at *;generalize cK (cor pts t 0) (cor pts t 1) (cor pts t 2)=V at *;grind
theorem OC (h:Lp.Quo (200*Eb) q):QB 22 q:=h.qb (by unfold Eb;decide +kernel)
theorem Lq (f:∀ j,Qtr (cor pts t j))(d:cK (cor pts t 0) (cor pts t 1) (cor pts t 2)≠0)(c:∀ j,Hlf (fz fs t j))(g:(qtx p.1).length<=20)(h:(qtx p.2).length<=20) :
  (∀ j,QB 22 (wgt pts t p j))/\QB 22 (onQ pts fs t p):=by
 obtain ⟨D,i,v,a⟩:=Ef f d g h;refine ⟨fun j=>?_, ?_⟩
 ·obtain ⟨N,e,w⟩:=a j;exact OC ⟨N,D,i,e,by omega,by omega⟩
 obtain ⟨k,l,n0⟩:=a 0;obtain ⟨m,n,n1⟩:=a 1;obtain ⟨o,q,n2⟩:=a 2;obtain ⟨k0,r,x⟩:=c 0;obtain ⟨k1,s,y⟩:=c 1;obtain ⟨k2,u,z⟩:=c 2;have A:=dx n0 (b:=k0) (K:=38) om_;have B:=dx n1 (b:=k1) (K:=38) om_;have C:=dx n2 (b:=k2) (K:=38) om_;refine OC ⟨k*k0+m*k1+o*k2,2*D,by omega, ?_,by omega,by omega⟩;rw [<- La d];simp only [Qv,SB];rw [<- l,<- n,<- q,<- r,<- s,<- u];rw [show ((2:Int):Rat)=2 from rfl];grind
theorem nE {n a:Nat}{t:Tri}{w:Nat->Rat}:∀ {j:Nat}{x:Rat},x∈gm n a t w j->x=0∨∃ i,x=w i
 | 0,x,h=>.inl (List.mem_replicate.1 h).2
 | j+1,x,h=>by
  rcases QM h with h | h
  ·exact nE h
  exact .inr ⟨j,h⟩
theorem AH (c:List Rat):sgL c 0=c:=by
 unfold sgL nI;rw [aK rfl];refine (List.map_congr_left fun x _=>Rat.one_mul x).trans (List.map_id _)
theorem ym {n a:Nat}{t:Tri}{w:Nat->Rat}:∀ j,sgL (gm n a t w j) 1=gm n a t (fun i=>-w i) j
 | 0=>by
  unfold sgL gm nI;rw [R4,aG dc_,show (-1:Rat)*0=0 by decide +kernel]
 | j+1=>by
  have h:=ym (n:=n) (a:=a) (t:=t) (w:=w) j;unfold sgL at h ⊢;rw [gm,gm,List.map_set,h];unfold nI;rw [aG dc_,show (-1:Rat)*w j=-w j by grind]
theorem EI {a:Nat}(h:Calm B fs RO)(c:∀ j,Qtr (cor B.pts t j))(d:cK (cor B.pts t 0) (cor B.pts t 1) (cor B.pts t 2)≠0)(f:(qtx p.1).length<=20)(g:(qtx p.2).length<=20)(k:Nat) :
  Lp.Lim (ya B RO) (fun j=>(sgL (gm (bs B*bp B) a t (wgt B.pts t p) 3) k).getD j 0) 20:=by
 obtain ⟨D,l,m,n⟩:=Ef c d f g;refine wH (M0:=Eb) h.n12 (h.rowI (dq B.obs.length)) ⟨D,l,m,fun j _=>?_⟩ (by unfold Eb;decide +kernel);have o:∀ x∈sgL (gm (bs B*bp B) a t (wgt B.pts t p) 3) k,∃ z:Int,x*(D:Rat)=z/\z.natAbs<=Eb:=fun x r=>by
  obtain ⟨y,hy,rfl⟩:=PK.1 r;have b:∃ z:Int,y*(D:Rat)=z/\z.natAbs<=Eb:=by
   rcases nE hy with rfl | ⟨i,rfl⟩
   ·exact ⟨0,by rw [Rat.zero_mul];rfl,by simp⟩
   exact n i
  obtain ⟨z,e,b⟩:=b;unfold nI;split
  ·exact ⟨z,by rw [Rat.one_mul];exact e,b⟩
  exact ⟨-z,by rw [Rat.intCast_neg,<- e];grind,by omega⟩
 rw [ax];cases s:(sgL (gm (bs B*bp B) a t (wgt B.pts t p) 3) k)[j]? with
 | none=>exact ⟨0,by show (0:Rat)*_=_;rw [Rat.zero_mul];rfl,by simp⟩
 | some q=>exact o q (O0 s)
theorem EH {S:Sht}{H:Hts}{l:List Sgt}(n o:Str)(w:n.length<=20)(x:o.length<=20)(J:ef S H l=B)(K:fsK (cC (S.kd % 8) S.a S.b S.h).length H=fs)(u:Calm B fs RO) :
  ∃ (x0:Str)(y:Int)(p:Pt)(i:Nat)(r:List Nat)(t:Tri),(∀ (c d e:Value)(D:Mem),Tabs D->MeshIn D (.agg ⟨[c,d]⟩) B.pts B.tris->Sl D 1 e (fs.map ec)->Gives cx.P 15 [.agg ⟨[c,d]⟩,e,.agg ⟨[af n,af o]⟩] D (.tuple #[af x0,.int .i64 y])) /\
   (y=0->n=qtx p.1/\o=qtx p.2/\QP 23 p/\PtR p/\jL B.pts B.tris p=i::r/\B.tris[i]?=some t/\vc B.pts B.tris fs p=.tuple #[af x0,.int .i64 0] /\
    (∀ j,QB 22 (wgt B.pts t p j))/\∀ a k,Lp.Lim (ya B RO) (fun j=>(sgL (gm (bs B*bp B) a t (wgt B.pts t p) 3) k).getD j 0) 20):=by
 have v:=u.rich.good;have m:=u.rich.terr;by_cases hr:(aS n && aS o)=true
 ·rw [PR] at hr;obtain ⟨f,rfl,z⟩:=AS hr.1;obtain ⟨g,rfl,A⟩:=AS hr.2;have C:=fun (c d e:Value)(D:Mem)(hT:Tabs D)(hm:MeshIn D (.agg ⟨[c,d]⟩) B.pts B.tris)(h3:Sl D 1 e (fs.map ec))=>tj D hT (.agg ⟨[c,d]⟩) e B.pts B.tris fs 22 dc_ dc_ hm v h3 m.l m.q (Aa m) (f,g) ⟨z,A⟩ hr;cases s:jL B.pts B.tris (f,g) with
  | nil =>
   refine ⟨[],28,(0,0),0,[],(0,0,0),fun c d e D hT hm h3=>?_,fun h=>absurd h dc_⟩;have h:=C c d e D hT hm h3;rw [show vc B.pts B.tris fs (f,g)=.tuple #[af [],.int .i64 28] by unfold vc;rw [s]] at h;exact h
  | cons i r =>
   obtain ⟨t,E,L,_⟩:=KE (pts:=B.pts) (tris:=B.tris) (p:=(f,g)) (i:=i) (by rw [s];exact PG ..);have F:∀ j,Qtr (cor B.pts t j):=fun j=>by rw [<- J];exact qm j
   have M:∀ j,Hlf (fz fs t j):=fun j=>by rw [<- K];exact Gv j
   have G:=ic v.ok (O0 E);obtain ⟨h4,h5⟩:=Lq (p:=(f,g)) F G M w x;have I:vc B.pts B.tris fs (f,g)=.tuple #[af (qtx (onQ B.pts fs t (f,g))),.int .i64 0]:=by
    unfold vc;rw [s];show yy (onQ B.pts fs (B.tris.getD i (0,0,0)) (f,g))=_;rw [L,yy,aK (bB h5)]
   refine ⟨qtx (onQ B.pts fs t (f,g)),0,(f,g),i,r,t,fun c d e D hT hm h3=>?_,fun _=>⟨Z,Z,⟨z,A⟩,hr,s,E,I,h4,fun a k=>EI (p:=(f,g)) u F G w x k⟩⟩;have h:=C c d e D hT hm h3;rw [I] at h;exact h
 refine ⟨[],2,(0,0),0,[],(0,0,0),fun c d e D hT hm h3=>?_,fun h=>absurd h dc_⟩;exact Eg D hT (.agg ⟨[c,d]⟩) e B.pts B.tris fs hm v h3 m.l m.q (Aa m) n o om_ om_ (by simpa using hr)
def OW (B:Bk)(RO:Nat->List RowQ)(s we:Int)(cw:List Rat)(lo hi:Str)(e:Int):Prop :=
 if s<0∨(bs B:Int)<=s then lo=[]/\hi=[]/\e=3 else if we≠0 then lo=[]/\hi=[]/\e=we else Hu (ya B RO) cw (.tuple #[af lo,af hi,.int .i64 e])
theorem NY (C:Mem)(n:Tabs C)(g:Value)(B:Bk)(b:List Rat)(c:Nat->List RowQ)(s d:Int)(l m o:Str)(p:Pt)(i:Nat)(r:List Nat)(t:Tri)(y:BookIn C g B)(h:Calm B b c)
  (G:∀ (q v w:Value)(D:Mem),Tabs D->MeshIn D (.agg ⟨[q,v]⟩) B.pts B.tris->Sl D 1 w (b.map ec)->Gives cx.P 15 [.agg ⟨[q,v]⟩,w,.agg ⟨[af l,af m]⟩] D (.tuple #[af o,.int .i64 d]))
  (H:d=0->l=qtx p.1/\m=qtx p.2/\QP 23 p/\PtR p/\jL B.pts B.tris p=i::r/\B.tris[i]?=some t/\vc B.pts B.tris b p=.tuple #[af o,.int .i64 0] /\
    (∀ j,QB 22 (wgt B.pts t p j))/\∀ a k,Lp.Lim (ya B c) (fun j=>(sgL (gm (bs B*bp B) a t (wgt B.pts t p) 3) k).getD j 0) 20) :
  Pur cx.P 14 [g,.int .i64 s,.agg ⟨[af l,af m]⟩] C fun u _=>∃ (lo f:Str)(e:Int),u=.tuple #[af lo,af f,.int .i64 e]/\OW B c s d (gm (bs B*bp B) (s.toNat*bp B) t (wgt B.pts t p) 3) lo f e:=by
 unfold OW;by_cases hs:s<0∨(bs B:Int)<=s
 ·exact Fn.mono (E3 C n g _ B b c s l m y h hs Z) fun u E F _ ⟨h1,h2⟩=>⟨h2,[],[],3,h1,by rw [aK hs];exact ⟨Z,Z,Z⟩⟩
 obtain ⟨k,rfl⟩:∃ k:Nat,s=k:=⟨s.toNat,by omega⟩;by_cases x:d=0
 ·obtain ⟨rfl,rfl,I,hr,J,K,L,M,N⟩:=H x;refine Fn.mono (wT C n g B b c k p i r t o y h om_ I hr J K M L fun k _=>N _ k) fun u E F _ ⟨h1,h2⟩=>⟨h1, ?_⟩;have z:∃ (lo f:Str)(e:Int),u=.tuple #[af lo,af f,.int .i64 e]:=by
   obtain ⟨_,_,_,_,_,_,z⟩:=id h2;rcases z with ⟨_,rfl⟩ | ⟨_,rfl⟩
   ·exact ⟨_,_,_,Z⟩
   exact ⟨_,_,_,Z⟩
  obtain ⟨lo,f,e,rfl⟩:=z;exact ⟨lo,f,e,Z,by rw [aG hs,aG (fun h=>h x)];exact h2⟩
 exact Fn.mono (E2 C n g _ B b c k l m o d y h om_ Z x fun q v w hm O D A=>G q v w D (n.mono A) (hm.mono A) (O.mono A)) fun u E F _ ⟨h1,h2⟩=>⟨h2,[],[],d,h1,by rw [aG hs,aK x];exact ⟨Z,Z,Z⟩⟩
theorem AD {p:Lp.Sys}{d:Nat->Rat}{D:Mem}{u:Value}(h:SolO p d D u):∃ (kd:Int)(v:Rat)(f:Option Addr)(n1 g:Nat)(A2:Option Addr)(n2 c2:Nat)(i:Option Addr)(j k:Nat),u=.agg ⟨[.int .i64 kd,af (qO kd v),.slice f n1 g,.slice A2 n2 c2,.slice i j k]⟩/\Lp.Val p d kd v/\QB 20 v:=by
 cases h with
 | opt val pt du l m e a b =>
  obtain ⟨A,c,rfl,_⟩:=id a;obtain ⟨A2,c2,rfl,_⟩:=id b;exact ⟨1,val,_,_,_,_,_,_,_,_,_,by rw [qO,aK Z,Rat.one_mul],e.val,e.qv⟩
 | inf du m n a =>
  obtain ⟨A,c,rfl,_⟩:=id a;exact ⟨2,0,_,_,_,_,_,_,_,_,_,Z,n.val 0,QB_zero.le dc_⟩
 | unb pt ra l q o a b =>
  obtain ⟨A,c,rfl,_⟩:=id a;obtain ⟨A2,c2,rfl,_⟩:=id b;exact ⟨3,0,_,_,_,_,_,_,_,_,_,Z,o.val 0,QB_zero.le dc_⟩
theorem Ao {a b:Str}(h:af a=af b):a=b:=by
 have h2:a.toArray.toList=b.toArray.toList:=congrArg (fun v=>match v with | .string s=>s.data.toList | _=>[]) h;simpa using h2
theorem tup3 {a b c d:Str}{e f:Int}(h:Value.tuple #[af a,af b,.int .i64 e]=.tuple #[af c,af d,.int .i64 f]):a=c/\b=d/\e=f:=by
 simp only [Value.tuple.injEq,Array.mk.injEq,RK,SD,Value.int.injEq,true_and] at h;exact ⟨Ao h.1,Ao h.2.1,h.2.2⟩
theorem E1 (C:Mem)(v:Tabs C)(pv:Value)(s:Int)(O Q:Str)(S:Sht)(H:Hts)(l:List Sgt)(hP:Hv C pv S H l)(W:PlanR S H l):Gives cx.P 3 [pv,.int .i64 s,.agg ⟨[af O,af Q]⟩] C (.bool true):=by
 obtain ⟨A,c,rfl,aS⟩:=hP;have hG:=(gt (S.kd % 8) (Qj _ dc_) S.a S.b S.h).1;obtain ⟨B,f⟩:∃ B,ef S H l=B:=⟨_,rfl⟩;have u:=zq S H l W.s;have ax:=fun (D:Mem)(hD:C.le D)=>FU D (v.mono hD) S H _ l W.kd W.h (aS.mono hD) W.s hG;have ae:=fun (E:O.length<=20)(hy:Q.length<=20)=>EH (S:=S) (H:=H) (l:=l) (B:=B) (RO:=roK S H l) O Q E hy f rfl (by rw [<- f];exact u);rw [f] at u ax;generalize fsK (cC (S.kd % 8) S.a S.b S.h).length H=fs at u ae;generalize roK S H l=RO at u ae;have hS:=dq B.obs.length;have ay:=u.rowsQ hS;have az:=u.q22 hS;have bG:=u.n12;have U:=u.rich.scol.1;have aU:=u.rich.terr;have ag:=u.rich.good;have bH:maxLen<=9223372036854775807:=by simp [maxLen]
 refine Tr func3 214 U3 fun w0=>?_;refine Tl fun R d=>?_;refine TC U6 (fun b3=>?_);refine TC U6 (fun b5=>?_);refine C6 1 [1,3,5] d Z ?_;clear d R;refine G.freeze 1 Z (fun _ _ aV=>?_);refine G.freeze 0 Z (fun _ _ I=>?_);refine Tl fun R d=>?_;refine Tt (wM _ v.m_) U7 ?_;refine Tm 3 Z ?_;refine TN U6 (fun _=>PtrTo.blockT (Mem.get I mup) _ 1) U3 ?_;refine Tm 2 Z ?_;refine TQ U8 ?_;refine Tm 2 Z ?_;refine TN U6 (fun _=>PtrTo.blockT (Mem.get I mup) _ 1) U3 ?_;refine Tm 2 Z ?_;refine TQ U8 ?_;refine Tn [1,3,5,41] d Z ?_;clear d R;refine G.cd (fun ai=>?_) fun ai=>?_
 ·refine Tl fun R d=>?_;refine Tt (wM _ v.m_) U7 ?_;refine C6 1 [6] d Z ?_;clear d R;refine Tp U2 ?_;exact ⟨Z,Z⟩
 have E:O.length<=20:=by
  simp at ai;omega
 have hy:Q.length<=20:=by
  simp at ai;omega
 obtain ⟨x0,we,p,i,r,t,aA,aC⟩:=ae E hy;refine Tl fun R d=>?_;refine Tj (bkT aV 12) U8 ?_;refine TT (ax _ mup) U7 (fun bI aW _ y=>?_);obtain ⟨v1,v2,tv,cv,ov,rfl,g1,g2,g3,g4,g5⟩:=id y;have hm:MeshIn aW (.agg ⟨[v1,v2]⟩) B.pts B.tris:=⟨v1,v2,rfl,g1,g2⟩;rw [aU.e,<- jg] at g3;obtain ⟨B1,d1,rfl,aX,_⟩:=id g1;obtain ⟨B2,d2,rfl,_⟩:=id g2;obtain ⟨B3,d3,rfl,_⟩:=id g3;obtain ⟨B4,d4,rfl,aZ,_⟩:=id g4;obtain ⟨B5,d5,rfl,_⟩:=id g5;have a0:(B.col.map sj).length=bs B+1:=by rw [al];omega
 have a1:(B.pts.map gi).length=bp B:=al _;simp only [a0,a1] at g4 aZ g1 aX hm y ⊢;refine TB U5 (fun b7=>?_);refine Ts (j:=0) U12 ?_;refine Tn [1,5,7] d Z ?_;clear d R;refine G.freeze 0 Z (fun _ _ g=>?_);refine Tl fun R d=>?_;refine Tj (bkT g 5) U8 ?_;refine TT (F2 _ v.m_ _ B fs RO y.m_ u) U7 (fun bJ _ _ a2=>?_);obtain ⟨lv,rfl,aj⟩:=a2;obtain ⟨X,ak,a3⟩:=id aj;obtain ⟨Y,cl,rfl,_⟩:=id a3;refine C6 5 [1,5,7,8,9] d Z ?_;clear d R;refine Th 2 [1,5,7,8,51] Z ?_;refine G.cd (fun aD=>?_) fun aD=>?_
 ·exact absurd aD dc_
 refine Tl fun R d=>?_;refine Tj (bkT g 5) U8 ?_;refine Tk U6 ?_;refine Tj (bkT I 2) U8 ?_;refine TT (NY _ v.m_ _ B fs RO s we O Q x0 p i r t y.m_ u aA aC) U7 (fun bK _ _ a4=>?_);obtain ⟨lo,hi,er,rfl,z⟩:=a4;refine C6 7 [1,5,7,8,10,11,12] d Z ?_;clear d R;refine Th 1 [1,5,7,8,10,11,12] Z ?_;refine Ti 5 Z fun R d=>?_;refine TN U6 (fun _=>PtrTo.blockT (Mem.get g mup) _ 1) U3 ?_;refine Tk U6 ?_;refine Tq _ Z U6 ?_;refine Tk U6 ?_;refine TQ U8 ?_;refine Tn [1,5,7,8,10,11,12,69] d Z ?_;clear d R;refine G.cd (fun am=>?_) fun am=>?_
 ·have hs:s<0∨(bs B:Int)<=s:=by
   simp at am;omega
  rw [OW,aK hs] at z;obtain ⟨rfl,rfl,rfl⟩:=z;refine Th 1 [1,5,7,8,10,11,12,13] Z ?_;refine Th 2 [1,5,7,8,10,11,12,13,80] Z ?_;refine G.cd (fun aE=>?_) fun aE=>?_
  ·refine Ti 6 Z fun R d=>?_;refine TJ U8 ?_;refine Tm 3 Z ?_;refine TJ U8 ?_;refine C6 1 [6] d Z ?_;clear d R;refine Tp U2 ?_;exact ⟨Z,Z⟩
  exact absurd aE dc_
 have hs:¬ (s<0∨(bs B:Int)<=s):=by
  simp at am;omega
 rw [OW,aG hs] at z;refine Ti 1 Z fun R d=>?_;refine Tj (bkT g 2) U8 ?_;refine Tk U6 ?_;refine Tj (bkT g 1) U8 ?_;refine Tj (bkT I 2) U8 ?_;refine Tt (aA _ _ _ _ v.m_ hm.m_ g3.m_) U7 ?_;refine C6 4 [1,5,7,8,10,11,12,13] d Z ?_;clear d R;refine Th 2 [1,5,7,8,10,11,12,13,80] Z ?_;refine G.cd (fun an=>?_) fun an=>?_
 ·have hw:we≠0:=by simpa using an
  rw [aK hw] at z;obtain ⟨rfl,rfl,rfl⟩:=z;refine Ti 6 Z fun R d=>?_;refine TJ U8 ?_;refine Tm 3 Z ?_;refine TJ U8 ?_;refine C6 1 [6] d Z ?_;clear d R;refine Tp U2 ?_;exact ⟨by simp,Z⟩
 have hw:we=0:=by simpa using an
 rw [aG (fun h=>h hw)] at z;obtain ⟨rfl,rfl,aF,aH,hl,ht,_,J,aI⟩:=aC hw;obtain ⟨k,rfl⟩:∃ k:Nat,s=k:=⟨s.toNat,by omega⟩;have a5:k<bs B:=by omega
 have a6:=ag.ok.ins t (O0 ht);have n:∀ j,k*bp B+fb t j<bs B*bp B:=fun j=>Bu a5 (eB a6 j);rw [Rr] at z;have bL:=n 0;have bM:=n 1;have bN:=n 2;have aJ:=aI (k*bp B) 0;rw [AH] at aJ;have ak:=aI (k*bp B) 1;rw [ym] at ak;refine G.cut (fun fr C' F μ=>∃ (o q:Nat),(True)/\fr=[(1,[],.int .i64 (k:Nat)),(5,[],.pointer (some ⟨b5,0,none⟩)),(7,[],.pointer (some ⟨b7,0,none⟩)),(8,[],.slice Y (aB X (dh B RO)).length cl),(10,[],af lo),(11,[],af hi),(12,[],.int .i64 er),(14,[],.slice (some ⟨o,0,none⟩) (bs B*bp B) (bs B*bp B)),(15,[],.slice (some ⟨q,0,none⟩) (bs B*bp B) (bs B*bp B))]/\F=[.arr (.slice (some ⟨q,0,none⟩) (bs B*bp B) (bs B*bp B)) 32 1 (bs B*bp B) (List.replicate (bs B*bp B) (af [48])),.arr (.slice (some ⟨o,0,none⟩) (bs B*bp B) (bs B*bp B)) 32 1 (bs B*bp B) (List.replicate (bs B*bp B) (af [48]))]) ?_ (fun fr bP bQ μ bS hI=>?_)
 ·refine Uf (.cut [0,1] (.alt 2 (.fin [3,4,5,6,7]) (.alt 3 (.fin [2,4,5,6,7]) .stop))) [(1,1),(4,1),(2,3),(5,3)] Z Z kr_ (fun R f d hH=>?_);refine Tj (bkT g 5) U8 ?_;refine TG (fun _=>(jh _ _ B y.m_ U om_)) U9 ?_;refine TV hH Z ⟨?_, ?_,trivial⟩
  ·refine D.call (jJ _ _ om_) Z (.inr dc_) U6 (PI _) fl_ (fun a7 a8 a9 _ ao=>?_);refine Tj (bkT g 5) U8 ?_;obtain ⟨o,rfl,rfl⟩:=ao;refine TG (fun _=>(jh _ _ B y.m_ U om_)) U9 ?_;refine D.call (jJ _ _ om_) Z (.inr dc_) U6 (PI _) fl_ (fun ba bb bc _ aq=>?_);obtain ⟨q,rfl,rfl⟩:=aq;refine Tm 2 Z ?_;refine Tn [1,5,7,8,10,11,12,14,15] d Z ?_;clear d f hH R;exact Tx 0 mup (hn_ [1,5,7,8,10,11,12,14,15] Z) ⟨o,q,trivial,Z,Z⟩
  refine Tj (bkT g 5) U8 ?_;refine D.call (jJ _ _ om_) Z (.inr dc_) U6 (PI _) fl_ (fun a7 a8 a9 _ ao=>?_);obtain ⟨o,rfl,rfl⟩:=ao;refine TG (fun _=>(jh _ _ B y.m_ U om_)) U9 ?_;refine D.call (jJ _ _ om_) Z (.inr dc_) U6 (PI _) fl_ (fun ba bb bc _ aq=>?_);obtain ⟨q,rfl,rfl⟩:=aq;refine Tm 2 Z ?_;refine Tn [1,5,7,8,10,11,12,14,15] d Z ?_;clear d f hH R;exact Tx 0 mup (hn_ [1,5,7,8,10,11,12,14,15] Z) ⟨o,q,trivial,Z,Z⟩
 obtain ⟨o,q, -,rfl,rfl⟩:=hI;refine Ti 1 Z fun R d=>?_;refine Tj (bkT g 2) U8 ?_;refine Tj (bkT I 2) U8 ?_;refine TT (iX _ v.m_ _ B.pts B.tris p hm.m_ ag aF aH) U7 (fun bT _ _ be=>?_);obtain ⟨wv,rfl,aa⟩:=be;rw [hl] at aa;obtain ⟨Aw,cw,rfl,_⟩:=id aa;refine C6 5 [1,5,7,8,10,11,12,14,15,16,17] d Z ?_;clear d R;refine Ti 6 Z fun R d=>?_;refine TQ U8 ?_;refine Tn [1,5,7,8,10,11,12,14,15,16,111] d Z ?_;clear d R;refine G.cd (fun aL=>?_) fun aL=>?_
 ·exact absurd aL ap
 refine TD [0,1,2,3,4,5,6,7,8,9,10,11,12] [(6,1)] Z kr_ (fun R f d=>?_);refine Tk U6 ?_;refine Tj (bkT g 2) U8 ?_;refine Tk U6 ?_;refine Ty aa.m_ U10 om_ (rfl:(List.map aT (i::r))[0]?=some (aT i)) fl_ (fun bU bf=>?_);refine Tj bf U8 ?_;refine Tj (bkT I 2) U8 ?_;refine TU (fun _=>(oM _ v.m_ _ B.pts B.tris p i t hm.m_ ag aF aH ht J)) U9 ?_;refine Tm 3 Z ?_;refine TB U5 (fun bg=>?_);refine Ts (j:=0) U12 ?_;refine Tk U6 ?_;refine Tn [1,7,8,10,11,12,14,15,16,18,19] d Z ?_;clear d f R;refine Th 2 [1,7,8,10,11,12,14,15,16,18,123] Z ?_;refine G.cd (fun aM=>?_) fun aM=>?_
 ·exact absurd aM dc_
 refine G.freeze 0 Z (fun _ _ K=>?_);refine TD [0,1,2,3,4,5,6,7,8] [] Z kr_ (fun R f d=>?_);refine Tm 2 Z ?_;refine Tj (bkT g 1) U8 ?_;refine Tk U6 ?_;refine Ty aa.m_ U10 om_ (rfl:(List.map aT (i::r))[0]?=some (aT i)) fl_ (fun bV bh=>?_);refine Tj bh U8 ?_;refine Ty g2.m_ U10 om_ (by rw [PH,ht];rfl:(B.tris.map fU)[i]?=some (fU t)) fl_ (fun bW bj=>?_);refine Tj bj U8 ?_;refine Tk U6 ?_;refine Tn [1,7,8,10,11,12,14,15,18,131,132] d Z ?_;clear d f R;refine Tz (L':=[.arr (.slice (some ⟨q,0,none⟩) (bs B*bp B) (bs B*bp B)) 32 1 (bs B*bp B) ((gm (bs B*bp B) (k*bp B) t (fun i=>-wgt B.pts t p i) 0).map tq),.arr (.slice (some ⟨o,0,none⟩) (bs B*bp B) (bs B*bp B)) 32 1 (bs B*bp B) ((gm (bs B*bp B) (k*bp B) t (wgt B.pts t p) 0).map tq)]) (by rw [EW];rfl) ?_;refine G.loop (fun fr C' F μ=>∃ (j:Nat),(j<=3)/\fr=[(1,[],.int .i64 (k:Nat)),(7,[],.pointer (some ⟨b7,0,none⟩)),(8,[],.slice Y (aB X (dh B RO)).length cl),(10,[],af lo),(11,[],af hi),(12,[],.int .i64 er),(14,[],.slice (some ⟨o,0,none⟩) (bs B*bp B) (bs B*bp B)),(15,[],.slice (some ⟨q,0,none⟩) (bs B*bp B) (bs B*bp B)),(18,[],.pointer (some ⟨bg,0,none⟩)),(131,[],.agg ⟨fU t⟩),(132,[],.int .i64 j)]/\F=[.arr (.slice (some ⟨q,0,none⟩) (bs B*bp B) (bs B*bp B)) 32 1 (bs B*bp B) ((gm (bs B*bp B) (k*bp B) t (fun i=>-wgt B.pts t p i) j).map tq),.arr (.slice (some ⟨o,0,none⟩) (bs B*bp B) (bs B*bp B)) 32 1 (bs B*bp B) ((gm (bs B*bp B) (k*bp B) t (wgt B.pts t p) j).map tq)]/\μ=3-j) (hn_ [1,7,8,10,11,12,14,15,18,131,132] Z) ⟨0,PL _,Z,Z,Z⟩ (fun fr bX bY m _ hI=>?_);obtain ⟨j,hj,rfl,rfl,rfl⟩:=hI;refine Th 1 [1,7,8,10,11,12,14,15,18,131,132,133] Z ?_;refine G.cd (fun ar=>?_) fun ar=>?_
 ·have bZ:j<3:=by
   have:=aY ar;omega
  rcases (by omega:j=0∨j=1∨j=2) with rfl | rfl | rfl
  ·refine Ti 1 Z fun R d=>?_;refine Ud U11 (fun _=>⟨by omega,by omega,(show (fU t)[((0:Nat):Int).toNat]?=some (.int .i64 ((fb t 0:Nat):Int)) from by rw [<- oA];exact jf t dc_)⟩) U2 ?_;refine C6 2 [1,7,8,10,11,12,14,15,18,20,21,131,132] d Z ?_;clear d R;refine Ti 3 Z fun R d=>?_;refine Tj (bkT g 1) U8 ?_;refine Tk U6 ?_;refine Tq (((k*bp B:Nat):Int)) (Qa _ _) U6 ?_;refine Tk U6 ?_;refine TS (((k*bp B+fb t 0:Nat):Int)) U4 om_ om_ om_ U2 ?_;refine C6 1 [1,7,8,10,11,12,14,15,18,20,22,131,132] d Z ?_;clear d R;refine TD [0,1,2,3,4,5,6,7,8,9,10,11,12,13,14] [(10,1)] Z kr_ (fun R f d=>?_);refine Tm 5 Z ?_;refine TE (0) U9 ah U2 ?_;refine Tj (bkT K 1) U8 ?_;refine Tk U6 ?_;refine TE (0) U9 ah U2 ?_;refine Tj (bkT K 1) U8 ?_;refine TG (fun _=>(tW _ (wgt B.pts t p 0) (PV (bi ((J 0).le (RJ 22)) dc_) dc_))) U9 ?_;refine TL ((k*bp B+fb t 0)) U10 (fun _=>⟨by omega,by omega,(QD _).symm⟩) U2 ?_;refine TP (j:=1) U11 (by rw [al,bO];have:=n 0;simp;omega) ?_;refine TL ((k*bp B+fb t 0)) U10 (fun _=>⟨by omega,by omega,(QD _).symm⟩) U2 ?_;refine TP (j:=1) U11 (by rw [al,bO];have:=n 0;simp;omega) ?_;refine Tn [1,7,8,10,11,12,14,15,18,131,132] d Z ?_;clear d f R;refine Tl fun R d=>?_;refine Tq _ Z U6 ?_;refine C6 1 [1,7,8,10,11,12,14,15,18,131,132] d Z ?_;clear d R;refine Tz (L':=[.arr (.slice (some ⟨q,0,none⟩) (bs B*bp B) (bs B*bp B)) 32 1 (bs B*bp B) ((gm (bs B*bp B) (k*bp B) t (fun i=>-wgt B.pts t p i) 1).map tq),.arr (.slice (some ⟨o,0,none⟩) (bs B*bp B) (bs B*bp B)) 32 1 (bs B*bp B) ((gm (bs B*bp B) (k*bp B) t (wgt B.pts t p) 1).map tq)]) (by rw [df (by rw [bO];exact n 0),df (by rw [bO];exact n 0)];rfl) ?_;refine Tv (m':=2) om_ mup (hn_ [1,7,8,10,11,12,14,15,18,131,132] Z) ⟨1,by decide,Z,Z,Z⟩
  ·refine Ti 1 Z fun R d=>?_;refine Ud U11 (fun _=>⟨by omega,by omega,(show (fU t)[((1:Nat):Int).toNat]?=some (.int .i64 ((fb t 1:Nat):Int)) from by rw [<- oA];exact jf t dc_)⟩) U2 ?_;refine C6 2 [1,7,8,10,11,12,14,15,18,20,21,131,132] d Z ?_;clear d R;refine Ti 3 Z fun R d=>?_;refine Tj (bkT g 1) U8 ?_;refine Tk U6 ?_;refine Tq (((k*bp B:Nat):Int)) (Qa _ _) U6 ?_;refine Tk U6 ?_;refine TS (((k*bp B+fb t 1:Nat):Int)) U4 om_ om_ om_ U2 ?_;refine C6 1 [1,7,8,10,11,12,14,15,18,20,22,131,132] d Z ?_;clear d R;refine TD [0,1,2,3,4,5,6,7,8,9,10,11,12,13,14] [(10,1)] Z kr_ (fun R f d=>?_);refine Tm 5 Z ?_;refine TE (1) U9 ah U2 ?_;refine Tj (bkT K 1) U8 ?_;refine Tk U6 ?_;refine TE (1) U9 ah U2 ?_;refine Tj (bkT K 1) U8 ?_;refine TG (fun _=>(tW _ (wgt B.pts t p 1) (PV (bi ((J 1).le (RJ 22)) dc_) dc_))) U9 ?_;refine TL ((k*bp B+fb t 1)) U10 (fun _=>⟨by omega,by omega,(QD _).symm⟩) U2 ?_;refine TP (j:=1) U11 (by rw [al,bO];have:=n 1;simp;omega) ?_;refine TL ((k*bp B+fb t 1)) U10 (fun _=>⟨by omega,by omega,(QD _).symm⟩) U2 ?_;refine TP (j:=1) U11 (by rw [al,bO];have:=n 1;simp;omega) ?_;refine Tn [1,7,8,10,11,12,14,15,18,131,132] d Z ?_;clear d f R;refine Tl fun R d=>?_;refine Tq _ Z U6 ?_;refine C6 1 [1,7,8,10,11,12,14,15,18,131,132] d Z ?_;clear d R;refine Tz (L':=[.arr (.slice (some ⟨q,0,none⟩) (bs B*bp B) (bs B*bp B)) 32 1 (bs B*bp B) ((gm (bs B*bp B) (k*bp B) t (fun i=>-wgt B.pts t p i) 2).map tq),.arr (.slice (some ⟨o,0,none⟩) (bs B*bp B) (bs B*bp B)) 32 1 (bs B*bp B) ((gm (bs B*bp B) (k*bp B) t (wgt B.pts t p) 2).map tq)]) (by rw [df (by rw [bO];exact n 1),df (by rw [bO];exact n 1)];rfl) ?_;refine Tv (m':=1) om_ mup (hn_ [1,7,8,10,11,12,14,15,18,131,132] Z) ⟨2,by decide,Z,Z,Z⟩
  refine Ti 1 Z fun R d=>?_;refine Ud U11 (fun _=>⟨by omega,by omega,(show (fU t)[((2:Nat):Int).toNat]?=some (.int .i64 ((fb t 2:Nat):Int)) from by rw [<- oA];exact jf t dc_)⟩) U2 ?_;refine C6 2 [1,7,8,10,11,12,14,15,18,20,21,131,132] d Z ?_;clear d R;refine Ti 3 Z fun R d=>?_;refine Tj (bkT g 1) U8 ?_;refine Tk U6 ?_;refine Tq (((k*bp B:Nat):Int)) (Qa _ _) U6 ?_;refine Tk U6 ?_;refine TS (((k*bp B+fb t 2:Nat):Int)) U4 om_ om_ om_ U2 ?_;refine C6 1 [1,7,8,10,11,12,14,15,18,20,22,131,132] d Z ?_;clear d R;refine TD [0,1,2,3,4,5,6,7,8,9,10,11,12,13,14] [(10,1)] Z kr_ (fun R f d=>?_);refine Tm 5 Z ?_;refine TE (2) U9 ah U2 ?_;refine Tj (bkT K 1) U8 ?_;refine Tk U6 ?_;refine TE (2) U9 ah U2 ?_;refine Tj (bkT K 1) U8 ?_;refine TG (fun _=>(tW _ (wgt B.pts t p 2) (PV (bi ((J 2).le (RJ 22)) dc_) dc_))) U9 ?_;refine TL ((k*bp B+fb t 2)) U10 (fun _=>⟨by omega,by omega,(QD _).symm⟩) U2 ?_;refine TP (j:=1) U11 (by rw [al,bO];have:=n 2;simp;omega) ?_;refine TL ((k*bp B+fb t 2)) U10 (fun _=>⟨by omega,by omega,(QD _).symm⟩) U2 ?_;refine TP (j:=1) U11 (by rw [al,bO];have:=n 2;simp;omega) ?_;refine Tn [1,7,8,10,11,12,14,15,18,131,132] d Z ?_;clear d f R;refine Tl fun R d=>?_;refine Tq _ Z U6 ?_;refine C6 1 [1,7,8,10,11,12,14,15,18,131,132] d Z ?_;clear d R;refine Tz (L':=[.arr (.slice (some ⟨q,0,none⟩) (bs B*bp B) (bs B*bp B)) 32 1 (bs B*bp B) ((gm (bs B*bp B) (k*bp B) t (fun i=>-wgt B.pts t p i) 3).map tq),.arr (.slice (some ⟨o,0,none⟩) (bs B*bp B) (bs B*bp B)) 32 1 (bs B*bp B) ((gm (bs B*bp B) (k*bp B) t (wgt B.pts t p) 3).map tq)]) (by rw [df (by rw [bO];exact n 2),df (by rw [bO];exact n 2)];rfl) ?_;refine Tv (m':=0) om_ mup (hn_ [1,7,8,10,11,12,14,15,18,131,132] Z) ⟨3,by decide,Z,Z,Z⟩
 have bk:j=3:=by
  have:=PJ ar;omega
 subst bk;rw [<- mA,<- mA];refine G.freezeArr 0 ((gm (bs B*bp B) (k*bp B) t (fun i=>-wgt B.pts t p i) 3).map aQ) Z Z bR (by rw [al,bO]) (fun Cd b0 bl=>?_);refine G.freezeArr 0 ((gm (bs B*bp B) (k*bp B) t (wgt B.pts t p) 3).map aQ) Z Z bR (by rw [al,bO]) (fun Cu b1 bm=>?_);have bn:∀ x∈gm (bs B*bp B) (k*bp B) t (wgt B.pts t p) 3,QB 22 x:=fun x E=>by
  rcases nE E with rfl | ⟨i,rfl⟩
  ·exact QB_zero.le dc_
  exact J i
 have bo:∀ x∈gm (bs B*bp B) (k*bp B) t (fun i=>-wgt B.pts t p i) 3,QB 22 x:=fun x E=>by
  rcases nE E with rfl | ⟨i,rfl⟩
  ·exact QB_zero.le dc_
  exact Lp.qb_neg (J i)
 refine Tl fun R d=>?_;refine Tj (bkT g 5) U8 ?_;refine Tw (jh _ _ B y.m_ U om_) U7 fl_ ?_;refine Tm 2 Z ?_;refine TA [.int .i64 (bs B*bp B:Nat),.slice Y (aB X (dh B RO)).length cl,.slice (some ⟨o,0,none⟩) (bs B*bp B) (bs B*bp B)] U8 ?_;refine TO (tO _ v.m_ (bs B*bp B) _ _ (eI (dh B RO)) _ aj.T.m_ bm.m_ ay bn az om_ (bO _ _ _ _ _) aJ) U7 fl_ (fun b2 _ _ bq=>?_);obtain ⟨ru,rfl,br⟩:=bq;obtain ⟨kd,w,A1,n1,c1,A2,n2,c2,A3,n3,c3,rfl,bt,b4⟩:=AD br;refine Tm 3 Z ?_;refine TB U5 (fun b6=>?_);refine Ts (j:=0) U12 ?_;refine C6 1 [7,8,10,11,12,15,23,24] d Z ?_;clear d R;refine G.freeze 0 Z (fun _ _ au=>?_);refine Tl fun R d=>?_;refine Tj (bkT g 5) U8 ?_;refine Tw (jh _ _ B y.m_ U om_) U7 fl_ ?_;refine Tm 2 Z ?_;refine TA [.int .i64 (bs B*bp B:Nat),.slice Y (aB X (dh B RO)).length cl,.slice (some ⟨q,0,none⟩) (bs B*bp B) (bs B*bp B)] U8 ?_;refine TO (tO _ v.m_ (bs B*bp B) _ _ (eI (dh B RO)) _ aj.T.m_ bl.m_ ay bo az om_ (bO _ _ _ _ _) ak) U7 fl_ (fun b8 _ _ bv=>?_);obtain ⟨b9,rfl,bw⟩:=bv;obtain ⟨ke,V,A4,n4,c4,A5,n5,c5,A6,n6,c6,rfl,bx,bz⟩:=AD bw;refine Tm 3 Z ?_;refine TB U5 (fun ca=>?_);refine Ts (j:=0) U12 ?_;refine C6 1 [10,11,12,23,24,25,26] d Z ?_;clear d R;refine G.freeze 0 Z (fun _ _ bA=>?_);obtain ⟨ab,z1,ac,z2,aN,aO,L⟩:=z;rw [AH] at aN;rw [ym] at aO;obtain ⟨bB,bC⟩:=aN.same bt;subst bB;have aP:qO ab z1=qO ab w:=by
  unfold qO;split
  ·rename_i h;rw [bC h]
  rfl
 refine Ti 5 Z fun R d=>?_;refine TQ U8 ?_;refine Tn [10,11,12,23,25,181] d Z ?_;clear d R;refine G.cd (fun aR=>?_) fun aR=>?_
 ·exact absurd aR dc_
 refine Ti 1 Z fun R d=>?_;refine Tj (bkT au 1) U8 ?_;refine C6 1 [10,11,12,23,25,184] d Z ?_;clear d R;refine G.cd (fun av=>?_) fun av=>?_
 ·have ad:ab=2:=by simpa using av
  rcases L with ⟨_,L⟩ | ⟨aw,_⟩
  rotate_left
  ·exact absurd ad aw
  obtain ⟨rfl,rfl,rfl⟩:=tup3 L;refine Ti 5 Z fun R d=>?_;refine TJ U8 ?_;refine Tm 3 Z ?_;refine TJ U8 ?_;refine C6 1 [6] d Z ?_;clear d R;refine Tp U2 ?_;exact ⟨by simp,Z⟩
 have ad:ab≠2:=by simpa using av
 rcases L with ⟨aw,_⟩ | ⟨_,L⟩
 ·exact absurd aw ad
 obtain ⟨rfl,rfl,rfl⟩:=tup3 L;obtain ⟨bD,bE⟩:=(aO ad).same bx;subst bD;refine Ti 1 Z fun R d=>?_;refine Tj (bkT bA 1) U8 ?_;refine C6 1 [10,11,12,23,27] d Z ?_;clear d R;refine Th 2 [10,11,12,23,27,198] Z ?_;refine G.cd (fun M=>?_) fun M=>?_
 ·have N:ac=1:=P5 fun h=>by
   rw [qO,aG h] at M;exact absurd M dc_
  have bF:qO ac V=qtx (1*V):=by rw [qO,aK N]
  rw [bF];refine Ti 1 Z fun R d=>?_;refine Tw (tW _ (1*V) (by rw [Rat.one_mul];exact PV (bi (bz.le (by decide:20<=23)) dc_) dc_)) U7 fl_ ?_;refine C6 1 [10,11,12,23,27] d Z ?_;clear d R;refine Ti 5 Z fun R d=>?_;refine TN U6 (fun _=>PtrTo.blockT (Mem.get au mup) _ 1) U3 ?_;refine Tk U6 ?_;refine TJ U8 ?_;refine Tm 4 Z ?_;refine TJ U8 ?_;refine C6 1 [6] d Z ?_;clear d R;refine Tp U2 ?_;exact ⟨by rw [lQ,aK N,bE N,aP];simp [Rat.neg_mul],Z⟩
 have N:ac≠1:=fun h=>by
  rw [qO,aK h] at M;have:=wb (1*V);rw [Rat.one_mul] at this;simp at M;rw [M] at this;simp at this
 refine Ti 5 Z fun R d=>?_;refine TN U6 (fun _=>PtrTo.blockT (Mem.get au mup) _ 1) U3 ?_;refine Tk U6 ?_;refine TJ U8 ?_;refine Tm 4 Z ?_;refine TJ U8 ?_;refine C6 1 [6] d Z ?_;clear d R;refine Tp U2 ?_;exact ⟨by rw [lQ,aG N,show qO ac V=[] from aG N,aP];simp,Z⟩
end Go.Proofs.YtfjcldheldflbaaGreatDoor
