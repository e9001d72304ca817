/- Laws that the proofs of this seat share, part 11. -/
import Derived.Test.YtfjcldheldflbaaGreatDoorG10
import Derived.Test.YtfjcldheldflbaaGreatDoorShelf
import Derived.Test.YtfjcldheldflbaaGreatDoorCards
import Derived.Test.YtfjcldheldflbaaGreatDoorTie
import Derived.Stop.LaidErr
import Derived.Lib.LaidTab
import Derived.Carry
import Derived.Deep.Strs
import Derived.Laws.IdiomArrays
set_option maxHeartbeats 4000000
namespace Go.Proofs.YtfjcldheldflbaaGreatDoor
open Go.Proofs.Tryz
open Go Go.Jog
set_option maxRecDepth 100000
variable {i j:Nat}{l:List Str}{n:Int}{q:Rat}{s u x y:Str}{z:Int}
def FieldsIn (C:Mem)(v:Value)(ls:List (List Str)):Prop:=∃ vs:List Value,vs.length=ls.length/\(∀ (i:Nat)(w:Value)(l:List Str),vs[i]?=some w->ls[i]?=some l->Sl C 1 w (l.map gc))/\Sl C 1 v (vs.map fun w=>[w])
theorem FieldsIn.mono {C D:Mem}{v:Value}{a:List (List Str)}(h:FieldsIn C v a)(b:C.le D):FieldsIn D v a:=by
 obtain⟨vs,h1,h2,h3⟩:=h;exact⟨vs,h1,fun i w l h4 h5=>(h2 i w l h4 h5).mono b,h3.mono b⟩
theorem FieldsIn.m_ {C D:Mem}{v:Value}{a:List (List Str)}(h:FieldsIn C v a)(b:C.le D:=by exact mup):FieldsIn D v a:=FieldsIn.mono h b
def ug (s p:Nat)(ls:List (List Str)):Int:=if ls.length=s then cm (fun j=>ou p (ls.getD j [])) ls.length else 5
theorem CS {p:Nat}(h:ou p l=0):l.length=p:=by
 unfold ou at h;split at h
 ·assumption
 cases h
theorem CT {p:Nat}:∀ {ls:List (List Str)},(∀ l∈ls,l.length=p)->ls.flatten.length=p*ls.length
|[],_=>by simp
|l::ls,h=>by rw[Si,Rf,h l Q9,CT fun x a=>h x (Rm _ a),Rs,Nat.mul_succ,Tm]
theorem HM {b:Type}{a:List (List b)}{l:List b}(h:a[j]?=some l):(a.take (j+1)).flatten=(a.take j).flatten++l:=by
 rw[RE,h,RP];simp
theorem Fv (C:Mem)(S:Tabs C)(H v:Value)(B:Bk)(s:Nat)(a:List (List Str))(T:BookIn C H B)(I:Good B.pts B.tris)(V:FieldsIn C v a)(W:∀ l∈a,∀ x∈l,x.length<=999998)(hl:a.length<=1000) :
  Pur cx.P 150 [gl s (bp B),H,v] C fun u D=>∃ w,u=.tuple #[w,i_ (ug s (bp B) a)]/\Sl D 1 w ((if ug s (bp B) a=0 then a.flatten else []).map gc):=by
 obtain⟨vs,J,X,q⟩:=V;have al:=I.ok.lp;obtain⟨K,L,tv,cv,ov,rfl,h1,h2,h3,h4,h5⟩:=id T.ex;have hm:MeshIn C (.agg ⟨[K,L]⟩) B.pts B.tris:=⟨K,L,rfl,h1,h2⟩;obtain⟨Y,c0,rfl,Z,an,_⟩:=id q;have ao:=mx_
 simp only[au,J]at q Z⊢;refine UU func150 35 U3 fun w0=>UQ fun R b=>Vd U6 fun b3=>Vd U6 fun b4=>C6 2 [2,3,4] b U<|G.freeze 1 U fun _ _ aa=>G.freeze 0 U fun _ _ ab=>UN 3 U fun R b=>UO (bkT aa 1) U8<|C6 1 [2,4,16] b U<|G.cd (fun g=>?_) fun g=>?_
 ·have ac:a.length≠s:=by
   intro e;rw[e]at g;simp at g
  have c:ug s (bp B) a=5:=by unfold ug;rw[aF ac]
  refine UM 2 [6,7] U<|U1 (G.dropAll (Vn U3 ?_));exact⟨U,.slice none 0 0,by rw[c],by rw[c];exact Sl.nil _ _⟩
 have M:a.length=s:=by
  have h:((a.length:Nat):Int)=(s:Nat):=by simpa using g
  omega
 refine UM 1 [2,4,8] U<|UM 3 [4,8,17,18,19] U<|G.nilArr 32 1<|G.loop (fun fr C' N μ=>∃ (j:Nat)(w:Value),(j<=a.length/\cm (fun j=>ou (bp B) (a.getD j [])) j=0)/\fr=[(4,[],p_ b4),(8,[],w),(17,[],.slice Y a.length c0),(18,[],i_ a.length),(19,[],i_ j)]/\N=[.arr w 32 1 (a.take j).flatten.length ((a.take j).flatten.map gc).flatten]/\μ=a.length-j) (hn_ [4,8,17,18,19] U) ⟨0,_,⟨Re _,U⟩,U,U,U⟩ (fun fr ap aq m _ hI=>?_);obtain⟨j,w,⟨hj,k⟩,rfl,rfl,rfl⟩:=hI;refine UM 1 [4,8,17,18,19,20] U<|G.cd (fun t=>?_) fun t=>?_
 ·have d:j<a.length:=by
   have:=Qw t;omega
  obtain⟨l,n⟩:∃ l,a[j]?=some l:=⟨a[j],ai d⟩;obtain⟨z,A⟩:∃ z,vs[j]?=some z:=⟨vs[j]'(by rw[J];exact d),ai _⟩;have o:=X j z l A n;obtain⟨Aw,cw,rfl,_⟩:=id o;simp only[au]at o A;have E:a.getD j []=l:=by rw[am,n,Sr]
  have ad:(vs.map fun w=>[w])[j]?=some [.slice Aw l.length cw]:=by rw[Rb,A];rfl
  have ae:∀ x∈a.take j,x.length=bp B:=by
   intro x hx;obtain⟨i,F⟩:=SE hx;have ag:=(aT.1 F).1;rw[Ro]at ag;rw[R2,aJ om_]at F;have h:=iD k i om_;simp only[am,F,Sr]at h;exact CS h
  have O:=CT ae;rw[Ro]at O;have ah:bp B<=400:=by unfold bp;omega
  have ar:(a.take j).flatten.length<=400*1000:=by rw[O];exact Su ah om_
  refine UQ fun R b=>Va q.m_ U10 om_ ad fl_ fun av aj=>UO aj U8<|C6 1 [4,8,10,17,18,19] b U<|UN 1 U fun R b=>UO (bkT ab 2) U8<|UP U6<|UZ (mG _ S.m_ _ _ B.pts B.tris l hm.m_ I o.m_ (W l (aM n))) U7<|C6 1 [4,8,10,11,17,18,19] b U<|UM 2 [4,8,10,11,17,18,19,28] U<|G.cd (fun p=>?_) fun p=>?_
  ·have f:ou (bp B) l≠0:=by
    intro e;rw[show ou B.pts.length l=0 from e]at p;exact absurd p dc_
   have c:ug s (bp B) a=ou (bp B) l:=by
    unfold ug;rw[aJ M,ym (i:=j) k (by simp only[E];exact f) d];simp only[E]
   refine UM 3 [6,7] U<|U1 (G.dropAll (Vn U3 ?_));exact⟨U,.slice none 0 0,by rw[c];rfl,by rw[c,aF f];exact Sl.nil _ _⟩
  have f:ou (bp B) l=0:=by
   have h:ou B.pts.length l=0:=by simpa using p
   exact h
  have aw:=CS f;refine UN 2 U fun R b=>Xe (j:=0) U U U U U U U U U U U U U o.m_ (by simp[gc,lF,af]) (by simp only[au,maxLen];omega) (by simp only[au];omega) fl_ fun Q=>C6 1 [4,8,17,18,19] b U<|UQ fun R b=>UV _ U U6<|C6 1 [4,8,17,18,19] b U<|Vc (L':=[.arr Q 32 1 (a.take (j+1)).flatten.length ((a.take (j+1)).flatten.map gc).flatten]) (by rw[HM n,RN,RP,Rf,au];rfl)<|U0 (m':=a.length-(j+1)) om_ mup (hn_ [4,8,17,18,19] U) ⟨j+1,Q,⟨by omega,mE k (by simp only[E];exact f)⟩,U,U,U⟩
 have d:j=a.length:=by
  have:=Rc t;omega
 subst d;have c:ug s (bp B) a=0:=by unfold ug;rw[aJ M];exact k
 rw[Rk];refine UM 3 [6,7] U<|G.freezeArr 0 (a.flatten.map gc) U2 e_ (by rw[au]) fun Cg hg ak=>U1 (G.dropAll (Vn U3 ?_));exact⟨U,_,by rw[c],by rw[aJ c];exact ak⟩
theorem DH (C:Mem)(f:Tabs C)(c v:Value)(B:Bk)(a:List (List Str))(d:BookIn C c B)(g:Good B.pts B.tris)(h:BookZ C c B 0)(i:bs B*bp B<=60)(k:FieldsIn C v a)(m:∀ l∈a,∀ x∈l,x.length<=999998)(n:a.length<=1000) :
  Pur cx.P 82 [c,v] C fun u D=>∃ w,u=.tuple #[w,i_ (ug (bs B) (bp B) a)]/\Sl D 1 w ((if ug (bs B) (bp B) a=0 then a.flatten else []).map gc):=by
 have o:=d;obtain⟨s,t,y,z,A,rfl,h1,h2,h3,h4,h5⟩:=id d.ex;refine UU func82 22 U3 fun w0=>UQ fun R b=>Vd U6 fun E=>C6 2 [1,2] b U<|UQ fun R b=>UW ag U9<|UZ (NN _ _ B h.m_ i) U7<|UR 3 U<|Ve U5 fun F=>UX (j:=0) U12<|C6 1 [1,2,6,7] b U<|UM 2 [1,2,6,7,14] U<|G.cd (fun e=>?_) fun e=>?_
 ·exact absurd e dc_
 refine UQ fun R b=>UW ag U9<|UW ae U9<|UP U6<|Vu (Fv _ f.m_ _ _ B (bs B) a o.m_ g k.m_ m n) U7 (fun H _ _ p=>?_);obtain⟨q,rfl,r⟩:=p;refine C6 4 [4,5] b U<|U1 (G.dropAll (Vn U3 ?_));exact⟨U,q,U,r⟩
def sa (s p:Nat)(l:List Str):Int:=if l.length=s*p then oG (l.all aS) else 5
def yB (p:Nat)(l:List Str)(j:Nat):List Str:=(l.take ((j+1)*p)).drop (j*p)
def chunks (s p:Nat)(l:List Str):List (List Str):=(List.range s).map (yB p l)
theorem Nq (h:l.all aS=true):l=(l.map dm).map qtx:=by
 rw[R8];symm;have e:∀ s∈l,(qtx ∘ dm) s=id s:=fun s hs=>(dz (Ru.1 h s hs)).1.symm;rw[List.map_congr_left e,List.map_id]
theorem yo (C:Mem)(hT:Tabs C)(E v:Value)(B:Bk)(l:List Str)(hB:BookIn C E B)(F:BookZ C E B 0)(aa:bs B*bp B<=60)(f:Sl C 1 v (l.map gc))(hs:∀ x∈l,x.length<=999998)(_ar:l.length<=100000) :
  Pur cx.P 81 [E,v] C fun u D=>∃ w,u=.tuple #[w,i_ (sa (bs B) (bp B) l)]/\FieldsIn D w (if sa (bs B) (bp B) l=0 then chunks (bs B) (bp B) l else []):=by
 have av:=F.lc;have aw:=F.lp;have ay:bs B<=1000:=by unfold bs;omega
 have az:bp B<=400:=by unfold bp;omega
 obtain⟨v1,v2,tv,cv,ov,rfl,h1,h2,h3,h4,h5⟩:=id hB.ex;obtain⟨c,c0,rfl,ab,aA,_⟩:=id f;have aB:=mx_
 simp only[au]at f ab⊢;refine UU func81 60 U3 fun w0=>UQ fun R a=>Vd U6 fun b2=>C6 2 [1,2] a U<|UQ fun R a=>UW ag U9<|UZ (NN _ _ B F.m_ aa) U7<|UR 3 U<|Ve U5 fun N=>UX (j:=0) U12<|C6 1 [1,6,7] a U<|UM 2 [1,6,7,19] U<|G.cd (fun O=>?_) fun O=>?_
 ·exact absurd O dc_
 refine G.freeze 0 U fun _ _ g=>UN 2 U fun R a=>UO (bkT g 2) U8<|UY (ji _ (bs B) (bp B) om_) U7 fl_<|C6 1 [1,6,25] a U<|G.cd (fun k=>?_) fun k=>?_
 ·have ac:l.length≠bs B*bp B:=by
   intro e;rw[e]at k;simp at k
  have b:sa (bs B) (bp B) l=5:=by unfold sa;rw[aF ac]
  refine UM 2 [4,5] U<|U1 (G.dropAll (Vn U3 ?_));exact⟨U,.slice none 0 0,by rw[b],by rw[b];exact⟨[],U,fun i w l h1 _=>by simp at h1,Sl.nil _ _⟩⟩
 have Q:l.length=bs B*bp B:=by
  have h:((l.length:Nat):Int)=((bs B*bp B:Nat):Int):=by simpa using k
  omega
 refine UM 3 [1,6,26,27,28] U<|G.dropAll<|G.loop (fun fr S n H=>∃ (i:Nat),(i<=l.length/\(l.take i).all aS=true)/\fr=[(1,[],.slice c l.length c0),(6,[],p_ N),(26,[],.slice c l.length c0),(27,[],i_ l.length),(28,[],i_ i)]/\n=[]/\H=l.length-i) (hn_ [1,6,26,27,28] U) ⟨0,⟨Re _,by simp⟩,U,U,U⟩ (fun fr aC aD m ad I=>?_);obtain⟨i,⟨o,p⟩,rfl,rfl,rfl⟩:=I;refine UM 1 [1,6,26,27,28,29] U<|G.cd (fun J=>?_) fun J=>?_
 ·have K:i<l.length:=by
   have:=Qw J;omega
  obtain⟨s,t⟩:∃ s,l[i]?=some s:=⟨l[i],ai K⟩;refine UQ fun R a=>Va f.m_ U10 om_ (cA t) fl_ fun aE ae=>UO ae U8<|C6 1 [1,6,9,26,27,28] a U<|UN 1 U fun R a=>UZ (dD _ hT.m_ s (hs s (aM t))) U7<|C6 1 [1,6,10,26,27,28] a U<|UM 2 [1,6,10,26,27,28,35] U<|G.cd (fun d=>?_) fun d=>?_
  ·have T:aS s=false:=by
    rcases eN (aS s) with⟨h1,h2⟩|⟨h1,h2⟩
    ·rw[h1]at d;exact absurd d dc_
    exact h2
   have b:sa (bs B) (bp B) l=2:=by
    unfold sa;rw[aJ Q,show l.all aS=false from TA.2 ⟨s,aM t,by rw[T];decide⟩];rfl
   refine UM 3 [4,5] U<|U1 (G.dropAll (Vn U3 ?_));exact⟨U,.slice none 0 0,by rw[b,T];rfl,by rw[b];exact⟨[],U,fun i w l h1 _=>by simp at h1,Sl.nil _ _⟩⟩
  have af:aS s=true:=by
   rcases eN (aS s) with⟨h1,h2⟩|⟨h1,h2⟩
   ·exact h2
   rw[h1]at d;exact absurd d dc_
  refine UQ fun R a=>UV _ U U6<|C6 1 [1,6,26,27,28] a U<|U0 (m':=l.length-(i+1)) om_ ad (hn_ [1,6,26,27,28] U) ⟨i+1,⟨by omega,by rw[RE,t,UC,p];simp[af]⟩,U,U,U⟩
 have K:i=l.length:=by
  have:=Rc J;omega
 subst K;rw[Rk]at p;have b:sa (bs B) (bp B) l=0:=by unfold sa;rw[aJ Q,p];rfl
 have ah:=Nq p;refine UM 1 [1,6,11] U<|UN 1 U fun R a=>UO (bkT g 1) U8<|C6 1 [1,6,11,39,40] a U<|G.nilArr 41 1<|G.loop (fun fr S n H=>∃ (j:Nat)(vs:List Value)(w:Value),(j<=bs B/\vs.length=j/\(∀ (i:Nat)(w:Value),vs[i]?=some w->Sl S 1 w ((yB (bp B) l i).map gc)))/\fr=[(1,[],.slice c l.length c0),(6,[],p_ N),(11,[],w),(39,[],i_ (bs B:Nat)),(40,[],i_ j)]/\n=[.arr w 41 1 vs.length (vs.map fun w=>[w]).flatten]/\H=bs B-j) (hn_ [1,6,11,39,40] U) ⟨0,[],_,⟨Re _,U,fun i w h=>by simp at h⟩,U,U,U⟩ (fun fr aG aH m _ I=>?_);obtain⟨j,vs,w,⟨hj,V,W⟩,rfl,rfl,rfl⟩:=I;refine UM 1 [1,6,11,39,40,41] U<|G.cd (fun L=>?_) fun L=>?_
 ·have M:j<bs B:=by
   have:=Qw L;omega
  have aI:(j+1)*bp B<=bs B*bp B:=RV _ M;have aK:(j+1)*bp B=j*bp B+bp B:=Nat.succ_mul _ _;have aj:=Sl.sub f (l:=j*bp B) (h:=(j+1)*bp B) (m:=c0) om_ ap om_ (Q7 _);have X:yB (bp B) l j=(((l.map dm).take ((j+1)*bp B)).drop (j*bp B)).map qtx:=by
   unfold yB
   conv=>lhs;rw[ah]
   rw[List.map_drop,Tq]
  have al:Sl C 1 (.slice (if c0=j*bp B then c else c.map (·.add (j*bp B*1))) ((j+1)*bp B-j*bp B) (c0-j*bp B)) ((((l.map dm).take ((j+1)*bp B)).drop (j*bp B)).map eE):=by
   rw[nO,<- X];unfold yB;rw[List.map_drop,Tq];exact aj
  refine UM 2 [1,6,11,12,39,40] U<|Vl [(12,3)] U fun R a=>UR 4 U<|UO (bkT g 1) U8<|UV (((j*bp B:Nat):Int)) (RF _ _) U6<|UP U6<|Vt (((j+1:Nat):Int)) U4 om_ om_ om_ U2<|UP U6<|UO (bkT g 1) U8<|UV ((((j+1)*bp B:Nat):Int)) (RF _ _) U6<|VH (j*bp B) ((j+1)*bp B) c0 U12 (fun _=>⟨.inr ⟨_,U⟩,.inr ⟨_,U⟩,.inl ⟨U,U⟩,by omega,by omega,by omega⟩) U2<|D.call (Ii _ _ _ al.m_ ap) U (.inr dc_) U6 (Rh _) fl_ (fun aL _ aN _ am=>?_);obtain⟨z,A,cc,rfl,rfl⟩:=am;refine Vj [[.slice z A cc]] U12 fun aO _ _ an=>D.append (j:=1) U11 an U ax q_ fl_ fun Y=>C6 1 [1,6,11,39,40] a U<|UQ fun R a=>UV _ U U6<|C6 1 [1,6,11,39,40] a U<|G.freezeArr 1 ((((l.map dm).take ((j+1)*bp B)).drop (j*bp B)).map eE) U2 e_ (by rw[au]) (fun Cz b Z=>?_);rw[nO,<- X]at Z;refine Vc (L':=[.arr Y 41 1 (vs++[Value.slice z A cc]).length ((vs++[Value.slice z A cc]).map fun w=>[w]).flatten]) ak<|U0 (m':=bs B-(j+1)) om_ mup (hn_ [1,6,11,39,40] U) ⟨j+1,vs++[.slice z A cc],Y,⟨by omega,by simp[V],fun i w h=>by
   rcases Rz i vs.length with h1|h1
   ·rw[R0 h1]at h;exact(W i w h).mono mup
   rw[RD h1]at h;cases o:i-vs.length with
  |zero =>
    rw[o]at h;simp at h;subst h;rw[show i=j by omega];exact Z
  |succ q=>rw[o]at h;simp at h⟩,rfl,rfl,rfl⟩
 have M:j=bs B:=by
  have:=Rc L;omega
 have ao:(chunks (bs B) (bp B) l).length=bs B:=by simp[chunks]
 refine UM 3 [4,5] U<|G.freezeArr 0 (vs.map fun w=>[w]) U2 e_ (by rw[au]) fun Cg hg aq=>U1 (G.dropAll (Vn U3 ?_));refine⟨U,_,by rw[b], ?_⟩;rw[aJ b];refine⟨vs,by rw[ao,V,M],fun i w l2 h1 h2=>?_,aq⟩;unfold chunks at h2;rw[Rb]at h2;have o:=(aT.1 h1).1;rw[RK om_]at h2;simp only[SN,RW]at h2;subst h2;exact(W i w h1).mono mup
def dotV (f x:List Rat):Nat->Rat
|0=>0
|n+1=>dotV f x n+f.getD n 0*x.getD n 0
structure DotOk (r:RowQ)(x:List Rat):Prop where
 f:∀ q∈r.f,QB 22 q
 b:QB 22 r.b
 len:r.f.length=x.length
 s:∀ n,QB 2000 (dotV r.f x n)
theorem uX (C:Mem)(v:Value)(l:List RowQ)(g:Nat)(h:List Value)(a:RowQ->Bool)(s:RowsIn C v l)(_L:Jog.Enters cx.P g=true)
  (t:∀ x∈l,∀ (D:Mem)(q:Value),C.le D->Sl D 1 q (x.f.map eE)->Gives cx.P g (.agg ⟨[q,af (qtx x.b)]⟩::h) D (.bool (a x))) :
  Gives cx.P 152 [v,.func (.func g) #[] ⟨h⟩] C (i_ (kg a l 0)):=by
 obtain⟨vs,j,k⟩:=s;obtain⟨u,c0,rfl,z,M,_⟩:=id k;have N:=mx_
 simp only[bk j.1]at k z⊢;refine UU func152 19 U3 fun w0=>UM 1 [0,1] U<|UM 3 [0,1,7,8] U<|G.loop (fun fr O A B=>∃ (i:Nat),(i<=l.length/\∀ y∈l.take i,a y=false)/\fr=[(0,[],.slice u l.length c0),(1,[],.func (.func g) #[] ⟨h⟩),(7,[],i_ l.length),(8,[],i_ i)]/\A=[]/\B=l.length-i) (hn_ [0,1,7,8] U) ⟨0,⟨Re _,by simp⟩,U,U,U⟩ (fun fr Q S m E F=>?_);obtain⟨i,⟨T,d⟩,rfl,rfl,rfl⟩:=F;refine UM 1 [0,1,7,8,9] U<|G.cd (fun n=>?_) fun n=>?_
 ·have e:i<l.length:=by simpa using n
  obtain⟨x,c⟩:∃ x,l[i]?=some x:=⟨l[i],ai e⟩;obtain⟨w,r⟩:∃ w,vs[i]?=some w:=⟨vs[i]'(by rw[j.1];exact e),ai _⟩;have H:=j.2 i w x r c;refine UM 2 [0,1,5,7,8] U<|UN 3 U fun R o=>Va k.m_ U10 om_ (ij r c) fl_ fun V I=>UO I U8<|UZ (t x (aM c) _ w mup H.m_) U7<|US [0,1,5,7,8,16] o U<|G.cd (fun p=>?_) fun p=>?_
  ·have J:a x=true:=p;exact UM 2 [4] U<|UT U2<|⟨by rw[oU c J d,SD],U⟩
  have K:a x=false:=p;refine UQ fun R o=>UV _ U U6<|C6 1 [0,1,7,8] o U<|U0 (m':=l.length-(i+1)) om_ E (hn_ [0,1,7,8] U) ⟨i+1,⟨by omega,fun y hy=>by
   rw[RE,c]at hy;rcases Rr.1 hy with hy|hy
   ·exact d y hy
   simp only[SB,Rw]at hy;subst hy;exact K⟩,U,U,U⟩
 have e:i=l.length:=by
  have:¬ i<l.length:=by simpa using n
  omega
 exact UM 1 [4] U<|UT U2<|⟨by rw[e,Rk]at d;rw[mC d],U⟩
theorem oF (C:Mem)(v:Value)(l:List RowQ)(g:Nat)(d:List Value)(a:RowQ->Bool)(e:RowsIn C v l)(h:Jog.Enters cx.P g=true)
  (j:∀ x∈l,∀ (D:Mem)(c:Value),C.le D->Sl D 1 c (x.f.map eE)->Gives cx.P g (.agg ⟨[c,af (qtx x.b)]⟩::d) D (.bool (a x))) :
  Gives cx.P 87 [v,.func (.func g) #[] ⟨d⟩] C (.bool (l.any a)):=by
 refine UU func87 9 U3 fun w0=>UM 1 [0,1] U<|UN 2 U fun R k=>UZ (uX _ v l g d a e.m_ h (fun x m D c n=>j x m D c (Mem.le.trans mup n))) U7<|C6 2 [4] k U<|UT U2<|⟨?_,U⟩;congr 1;rcases nL a l with⟨h1,h2⟩|⟨i,x,h1,h2,h3,_⟩
 ·rw[h1,List.any_eq_false.2 (fun y hy=>by rw[h2 y hy];decide)];rfl
 rw[h1,Tr.2 ⟨x,aM h2,h3⟩];exact Rt om_
def sqP:List (Int × Int):=[(0,0),(4,0),(4,4),(0,4)]
def shP:Nat->List (Int × Int)
|0=>sqP
|1=>sqP
|2=>sqP++[(2,1)]
|3=>[(0,0),(6,0),(0,4)]
|4=>[(0,0),(2,0),(4,0),(0,2),(2,2),(4,2)]
|5=>[(1,4),(5,3),(4,0),(0,0)]
|6=>sqP++[(2,0)]
|_=>[(0,0),(6,0),(0,6),(2,2)]
def shT:Nat->List Tri
|0=>[(0,1,2),(0,2,3)]
|1=>[(0,1,3),(1,2,3)]
|2=>[(0,1,4),(1,2,4),(2,3,4),(3,0,4)]
|3=>[(2,0,1)]
|4=>[(0,1,4),(0,4,3),(1,2,5),(1,5,4)]
|5=>[(3,2,1),(3,1,0)]
|6=>[(0,4,3),(4,2,3),(4,1,2)]
|_=>[(0,1,3),(1,2,3),(2,0,3)]
def QZ (p:Int × Int):List Value:=[.int .i64 p.1,.int .i64 p.2]
def ShIn (u:Value)(D:Mem)(m:Nat):Prop:=∃ pv tv,u=.tuple #[pv,tv]/\Sl D 2 pv ((shP m).map QZ)/\Sl D 3 tv ((shT m).map iF)
theorem DY (C:Mem)(a:Nat)(_H:a<256):Pur cx.P 115 [.int .u8 a] C fun u D=>ShIn u D (a % 8):=by
 have I:a % 8<8:=RU _ dc_;obtain⟨m,hm⟩:∃ m,a % 8=m:=⟨_,rfl⟩;refine UU func115 86 U3 fun w0=>UM 2 [0] U<|UQ fun R b=>Vf ([i_ 0,i_ 0]) U8<|Vf ([i_ 4,i_ 0]) U8<|Vf ([i_ 4,i_ 4]) U8<|Vf ([i_ 0,i_ 4]) U8<|VK [[i_ 0,i_ 0],[i_ 4,i_ 0],[i_ 4,i_ 4],[i_ 0,i_ 4]] U12 fl_ fun J _ _ d=>C6 1 [0,4] b U<|UN 1 U fun R b=>VN (a) (8) U6 om_ U2<|US [4,11] b U<|UM 2 [4,11,12] U<|G.cd (fun f=>?_) fun f=>?_
 ·have c:a % 8=0:=by
   have:=dW f;omega
  refine UN 1 U fun R b=>Vf ([i_ 0,i_ 1,i_ 2]) U8<|Vf ([i_ 0,i_ 2,i_ 3]) U8<|Vj [[i_ 0,i_ 1,i_ 2],[i_ 0,i_ 2,i_ 3]] U12 fun K _ _ n=>C6 2 [2,3] b U<|U1 (G.dropAll (Vn U3 ?_));exact⟨U,by rw[c];exact⟨_,_,U,d.mono mup,n.mono mup⟩⟩
 have L:a % 8≠0:=by
  intro e;rw[e]at f;exact absurd f dc_
 refine UM 2 [4,11,18] U<|G.cd (fun g=>?_) fun g=>?_
 ·have c:a % 8=1:=by
   have:=dW g;omega
  refine UN 1 U fun R b=>Vf ([i_ 0,i_ 1,i_ 3]) U8<|Vf ([i_ 1,i_ 2,i_ 3]) U8<|Vj [[i_ 0,i_ 1,i_ 3],[i_ 1,i_ 2,i_ 3]] U12 fun M _ _ o=>C6 2 [2,3] b U<|U1 (G.dropAll (Vn U3 ?_));exact⟨U,by rw[c];exact⟨_,_,U,d.mono mup,o.mono mup⟩⟩
 have N:a % 8≠1:=by
  intro e;rw[e]at g;exact absurd g dc_
 refine UM 2 [4,11,24] U<|G.cd (fun h=>?_) fun h=>?_
 ·have c:a % 8=2:=by
   have:=dW h;omega
  refine UN 1 U fun R b=>Vf ([i_ 2,i_ 1]) U8<|Vj [[i_ 2,i_ 1]] U12 fun O _ _ p=>WM U U U U U U U U U U d.m_ p.m_ (.inr dc_) (by simp only[Rs,RQ,maxLen];omega) dc_ fl_ fun Q _ _ q=>Vf ([i_ 0,i_ 1,i_ 4]) U8<|Vf ([i_ 1,i_ 2,i_ 4]) U8<|Vf ([i_ 2,i_ 3,i_ 4]) U8<|Vf ([i_ 3,i_ 0,i_ 4]) U8<|Vj [[i_ 0,i_ 1,i_ 4],[i_ 1,i_ 2,i_ 4],[i_ 2,i_ 3,i_ 4],[i_ 3,i_ 0,i_ 4]] U12 fun S _ _ r=>C6 2 [2,3] b U<|U1 (G.dropAll (Vn U3 ?_));exact⟨U,by rw[c];exact⟨_,_,U,q.mono mup,r.mono mup⟩⟩
 have T:a % 8≠2:=by
  intro e;rw[e]at h;exact absurd h dc_
 refine UM 2 [4,11,35] U<|G.cd (fun i=>?_) fun i=>?_
 ·have c:a % 8=3:=by
   have:=dW i;omega
  refine UQ fun R b=>Vf ([i_ 0,i_ 0]) U8<|Vf ([i_ 6,i_ 0]) U8<|Vf ([i_ 0,i_ 4]) U8<|Vj [[i_ 0,i_ 0],[i_ 6,i_ 0],[i_ 0,i_ 4]] U12 fun V _ _ s=>Vf ([i_ 2,i_ 0,i_ 1]) U8<|Vj [[i_ 2,i_ 0,i_ 1]] U12 fun W _ _ t=>C6 2 [2,3] b U<|U1 (G.dropAll (Vn U3 ?_));exact⟨U,by rw[c];exact⟨_,_,U,s.mono mup,t.mono mup⟩⟩
 have X:a % 8≠3:=by
  intro e;rw[e]at i;exact absurd i dc_
 refine UM 2 [4,11,43] U<|G.cd (fun j=>?_) fun j=>?_
 ·have c:a % 8=4:=by
   have:=dW j;omega
  refine UQ fun R b=>Vf ([i_ 0,i_ 0]) U8<|Vf ([i_ 2,i_ 0]) U8<|Vf ([i_ 4,i_ 0]) U8<|Vf ([i_ 0,i_ 2]) U8<|Vf ([i_ 2,i_ 2]) U8<|Vf ([i_ 4,i_ 2]) U8<|Vj [[i_ 0,i_ 0],[i_ 2,i_ 0],[i_ 4,i_ 0],[i_ 0,i_ 2],[i_ 2,i_ 2],[i_ 4,i_ 2]] U12 fun Y _ _ v=>Vf ([i_ 0,i_ 1,i_ 4]) U8<|Vf ([i_ 0,i_ 4,i_ 3]) U8<|Vf ([i_ 1,i_ 2,i_ 5]) U8<|Vf ([i_ 1,i_ 5,i_ 4]) U8<|Vj [[i_ 0,i_ 1,i_ 4],[i_ 0,i_ 4,i_ 3],[i_ 1,i_ 2,i_ 5],[i_ 1,i_ 5,i_ 4]] U12 fun Z _ _ w=>C6 2 [2,3] b U<|U1 (G.dropAll (Vn U3 ?_));exact⟨U,by rw[c];exact⟨_,_,U,v.mono mup,w.mono mup⟩⟩
 have aa:a % 8≠4:=by
  intro e;rw[e]at j;exact absurd j dc_
 refine UM 2 [4,11,57] U<|G.cd (fun k=>?_) fun k=>?_
 ·have c:a % 8=5:=by
   have:=dW k;omega
  refine UQ fun R b=>Vf ([i_ 1,i_ 4]) U8<|Vf ([i_ 5,i_ 3]) U8<|Vf ([i_ 4,i_ 0]) U8<|Vf ([i_ 0,i_ 0]) U8<|Vj [[i_ 1,i_ 4],[i_ 5,i_ 3],[i_ 4,i_ 0],[i_ 0,i_ 0]] U12 fun ab _ _ x=>Vf ([i_ 3,i_ 2,i_ 1]) U8<|Vf ([i_ 3,i_ 1,i_ 0]) U8<|Vj [[i_ 3,i_ 2,i_ 1],[i_ 3,i_ 1,i_ 0]] U12 fun ac _ _ y=>C6 2 [2,3] b U<|U1 (G.dropAll (Vn U3 ?_));exact⟨U,by rw[c];exact⟨_,_,U,x.mono mup,y.mono mup⟩⟩
 have ad:a % 8≠5:=by
  intro e;rw[e]at k;exact absurd k dc_
 refine UM 2 [4,67] U<|G.cd (fun l=>?_) fun l=>?_
 ·have c:a % 8=6:=by
   have:=dW l;omega
  refine UN 1 U fun R b=>Vf ([i_ 2,i_ 0]) U8<|Vj [[i_ 2,i_ 0]] U12 fun ae _ _ z=>WM U U U U U U U U U U d.m_ z.m_ (.inr dc_) (by simp only[Rs,RQ,maxLen];omega) dc_ fl_ fun af _ _ A=>Vf ([i_ 0,i_ 4,i_ 3]) U8<|Vf ([i_ 4,i_ 2,i_ 3]) U8<|Vf ([i_ 4,i_ 1,i_ 2]) U8<|Vj [[i_ 0,i_ 4,i_ 3],[i_ 4,i_ 2,i_ 3],[i_ 4,i_ 1,i_ 2]] U12 fun ag _ _ B=>C6 2 [2,3] b U<|U1 (G.dropAll (Vn U3 ?_));exact⟨U,by rw[c];exact⟨_,_,U,A.mono mup,B.mono mup⟩⟩
 have ah:a % 8≠6:=by
  intro e;rw[e]at l;exact absurd l dc_
 refine UQ fun R b=>Vf ([i_ 0,i_ 0]) U8<|Vf ([i_ 6,i_ 0]) U8<|Vf ([i_ 0,i_ 6]) U8<|Vf ([i_ 2,i_ 2]) U8<|Vj [[i_ 0,i_ 0],[i_ 6,i_ 0],[i_ 0,i_ 6],[i_ 2,i_ 2]] U12 fun ai _ _ E=>Vf ([i_ 0,i_ 1,i_ 3]) U8<|Vf ([i_ 1,i_ 2,i_ 3]) U8<|Vf ([i_ 2,i_ 0,i_ 3]) U8<|Vj [[i_ 0,i_ 1,i_ 3],[i_ 1,i_ 2,i_ 3],[i_ 2,i_ 0,i_ 3]] U12 fun aj _ _ F=>C6 2 [2,3] b U<|U1 (G.dropAll (Vn U3 ?_));exact⟨U,by rw[show a % 8=7 by omega];exact⟨_,_,U,E.mono mup,F.mono mup⟩⟩
theorem Fm (a:-128<=n)(b:n<128):IntKind.i8.wrap n=n:=by
 simp[IntKind.wrap,IntKind.bits,IntKind.signed];omega
theorem LQ:∀ m:Nat,∀ p∈shP m,0<=p.1/\p.1<=6/\0<=p.2/\p.2<=6
|0=>by decide
|1=>by decide
|2=>by decide
|3=>by decide
|4=>by decide
|5=>by decide
|6=>by decide
|_+7=>by
  show ∀ p∈([(0,0),(6,0),(0,6),(2,2)]:List (Int × Int)),0<=p.1/\p.1<=6/\0<=p.2/\p.2<=6;decide
theorem FY:∀ m:Nat,(shP m).length<=6
|0=>by decide
|1=>by decide
|2=>by decide
|3=>by decide
|4=>by decide
|5=>by decide
|6=>by decide
|_+7=>by
  show([(0,0),(6,0),(0,6),(2,2)]:List (Int × Int)).length<=6;decide
def cH (m:Nat)(a b:Int)(h:Bool):List Pt:=(shP m).map fun p=>dG a b h p.1 p.2 1
theorem jX (m:Nat)(a b:Int)(h:Bool):(cH m a b h).length<=6:=by rw[cH,au];exact FY m
theorem rt {w:Int}(c:w≠0)(a:z.natAbs<1000000000)(b:w.natAbs<1000000000):QB 1 (lB z w):=by
 unfold lB;refine gu om_ ?_ ?_
 ·show _<B9 ^ 1;split
  ·rw[T7];exact a
  exact a
 exact b
theorem Cs {a b:Int}{h:Bool}{x y:Int}(g:0<n)(i:n<=4)(j:-128<=x/\x<=127)(k:-128<=y/\y<=127):QP 1 (dG a b h x y n):=by
 have c:=zh a;have d:=zh b;have hh:dX h=1∨dX h=2:=by cases h <;> simp[dX]
 have f:∀ z:Int, -8<z->z<8->-32<z*n/\z*n<32:=fun z h1 h2=>by
  rcases(by omega:n=1∨n=2∨n=3∨n=4) with e|e|e|e <;> subst e <;> omega
 have l:=f _ c.1 c.2;have m:=f _ d.1 d.2;have o:0<dX h*n/\dX h*n<=8:=by rcases hh with e|e <;> rw[e] <;> omega
 exact⟨rt om_ om_ om_,rt om_ om_ om_⟩
theorem xQ (C:Mem)(E:Tabs C)(d:Nat)(a b:Int)(h:Bool)(F:d<256):Pur cx.P 57 [LP d a b h] C fun u D=>MeshIn D u (cH (d % 8) a b h) (shT (d % 8)):=by
 have H:=LQ (d % 8);have ac:=FY (d % 8);refine UU func57 42 U3 fun w0=>UQ fun R e=>Vd U6 fun I=>Ve U5 fun f=>US [1,2] e U<|G.freeze 1 U fun _ _ v=>UN 1 U fun R e=>UO (bkT v 1) U8<|Vu (DY _ d F) U7 (fun ad _ _ J=>?_);obtain⟨pv,tv,rfl,g,o⟩:=J;obtain⟨K,L,rfl,M,ae,_⟩:=id g;obtain⟨At,k,rfl,af,ah,_⟩:=id o;simp only[au]at g o M⊢;refine C6 5 [1,2,3,4] e U<|UN 1 U fun R e=>Vf [.slice none 0 0,.slice At (shT (d % 8)).length k] U8<|Ve U5 fun l=>UX (j:=0) U12<|US [1,2,3,5] e U<|UM 1 [1,2,3,5,6] U<|G.nilArr 34 2<|G.perm (L':=[.obj l (.cells ⟨[.slice none 0 0,.slice At (shT (d % 8)).length k]⟩ 39 (0,0)),.arr (.slice none 0 0) 34 2 0 [],.obj f (.cells ⟨[.slice none 0 0,.slice none 0 0]⟩ 39 (0,0))]) (List.Perm.swap _ _ _)<|G.loop (fun fr C' q N=>∃ (i:Nat)(w:Value),(i<=(shP (d % 8)).length)/\fr=[(1,[],p_ I),(2,[],p_ f),(3,[],.slice K (shP (d % 8)).length L),(5,[],p_ l),(6,[],i_ i)]/\q=[.obj l (.cells ⟨[w,.slice At (shT (d % 8)).length k]⟩ 39 (0,0)),.arr w 34 2 ((cH (d % 8) a b h).take i).length (((cH (d % 8) a b h).take i).map gD).flatten,.obj f (.cells ⟨[.slice none 0 0,.slice none 0 0]⟩ 39 (0,0))]/\N=(shP (d % 8)).length-i) (hn_ [1,2,3,5,6] U) ⟨0,.slice none 0 0,Re _,U,U,U⟩ (fun fr aj ak m _ O=>?_);obtain⟨i,w,hi,rfl,rfl,rfl⟩:=O;refine UM 4 [1,2,3,5,6,18] U<|G.cd (fun s=>?_) fun s=>?_
 ·have t:i<(shP (d % 8)).length:=by
   have:=Qw s;omega
  obtain⟨p,n⟩:∃ p,(shP (d % 8))[i]?=some p:=⟨(shP (d % 8))[i],ai t⟩;obtain⟨al,am,an,ao⟩:=H p (aM n);have Q:(cH (d % 8) a b h)[i]?=some (dG a b h p.1 p.2 1):=by unfold cH;rw[Rb,n];rfl
  have S:(cH (d % 8) a b h).take (i+1)=(cH (d % 8) a b h).take i++[dG a b h p.1 p.2 1]:=by rw[RE,Q];rfl
  have ap:((cH (d % 8) a b h).take i).length<=6:=by rw[Ro];have:=jX (d % 8) a b h;omega
  refine Vg [0,1,2,3,4,5,6,7,8,9,10,11,12,13,14,15,16,17,18,19,20] [(16,1),(8,0),(14,0)] U kr_ fun R hB e=>UP U6<|UW ag U9<|UO (bkT v 4) U8<|UR 2 U<|Va g.m_ U10 om_ (cA n) fl_ fun aq T=>Wq U9 (fun _=>T) (fun _=>⟨by omega,om_⟩) fl_ U (fun ar V=>?_);have W:=V trivial;refine UO W U8<|VT (c:=p.1) U8 (Fm om_ om_) U2<|UR 2 U<|Va g.m_ U10 om_ (cA n) fl_ fun av X=>Wq U9 (fun _=>X) (fun _=>⟨by omega,om_⟩) fl_ U (fun aw Y=>?_);have Z:=Y trivial;refine UO Z U8<|VT (c:=p.2) U8 (Fm om_ om_) U2<|Vf [.int .i8 p.1,.int .i8 p.2] U8<|Vh (fun _=>(Ct _ E.m_ d a b h p.1 p.2 1 dc_ dc_ ⟨by omega,by omega⟩ ⟨by omega,by omega⟩)) U9<|Vj [gD (dG a b h p.1 p.2 1)] U12 fun ay _ _ aa=>Vs (j:=1) U11 aa.m_ U ax q_ fl_ fun x z A=>UP U6<|UX (j:=1) U12<|US [1,2,3,5,6] e U<|UN 1 U fun R e=>UV _ U U6<|C6 1 [1,2,3,5,6] e U<|Vc (L':=[.obj l (.cells ⟨[.slice x z A,.slice At (shT (d % 8)).length k]⟩ 39 (0,0)),.arr (.slice x z A) 34 2 ((cH (d % 8) a b h).take (i+1)).length (((cH (d % 8) a b h).take (i+1)).map gD).flatten,.obj f (.cells ⟨[.slice none 0 0,.slice none 0 0]⟩ 39 (0,0))]) (by rw[S,RN,RP,Rf];rfl)<|U0 (m':=(shP (d % 8)).length-(i+1)) om_ mup (hn_ [1,2,3,5,6] U) ⟨i+1,_,om_,U,U,U⟩
 have t:i=(shP (d % 8)).length:=by
  have:=Rc s;omega
 have ab:(cH (d % 8) a b h).take i=cH (d % 8) a b h:=RH (by rw[t,cH,au];exact Q7 _);rw[ab];refine G.freezeArr 1 ((cH (d % 8) a b h).map gD) U2 e_ (by rw[au]) (fun Cg hg B=>?_);obtain⟨Aw,cw,rfl,_⟩:=id B;refine UQ fun R e=>UW ag U9<|UX (j:=1) U12<|US [2] e U<|U1 (VF ag U4 ?_);exact⟨U,_,_,U,B,o.mono mup⟩
structure Hts where
 h0:Int
 h1:Int
 h2:Int
 h3:Int
 h4:Int
 h5:Int
 half:Bool
def IZ (H:Hts):List Int:=[H.h0,H.h1,H.h2,H.h3,H.h4,H.h5]
def PX (H:Hts):List Value:=[.int .i8 H.h0,.int .i8 H.h1,.int .i8 H.h2,.int .i8 H.h3,.int .i8 H.h4,.int .i8 H.h5,.bool H.half]
def Qv (H:Hts):Prop:=∀ z∈IZ H, -128<=z/\z<=127
def fsK (n:Nat)(H:Hts):List Rat:=(List.range n).map fun i=>lB (((IZ H).getD (i % 6) 0).tmod 20) (dX H.half)
theorem FD (a:Int):-20<a.tmod 20/\a.tmod 20<20:=by
 have h:(a.tmod 20).natAbs=a.natAbs % 20:=TS a 20;omega
theorem vc (h:Bool):dX h=1∨dX h=2:=by cases h <;> simp[dX]
theorem vh (n:Nat)(H:Hts):(fsK n H).length=n:=by simp[fsK]
theorem HK (n:Nat)(H:Hts):∀ q∈fsK n H,QB 1 q:=by
 intro q a;unfold fsK at a;obtain⟨i,_,rfl⟩:=Ra.1 a;have h1:=FD ((IZ H).getD (i % 6) 0);have h2:=vc H.half;exact rt om_ om_ om_
theorem N6 (H:Hts)(j:Nat)(a:j<6):((PX H).drop j).take 1=[.int .i8 ((IZ H).getD j 0)]:=by
 rcases(by omega:j=0∨j=1∨j=2∨j=3∨j=4∨j=5) with rfl|rfl|rfl|rfl|rfl|rfl <;> rfl
theorem jv (C:Mem)(B:Tabs C)(o E:Value)(n:Nat)(F:Option Addr)(I:Nat)(H:Hts)(J:o=.slice F n I)(T:n<=400)(K:Qv H):Pur cx.P 30 [.agg ⟨[o,E]⟩,.agg ⟨PX H⟩] C fun u D=>Sl D 1 u ((fsK n H).map eE):=by
 subst J;obtain⟨h0,h1,h2,h3,h4,h5,a⟩:=H;have V:=mx_
 refine UU func30 31 U3 fun w0=>UQ fun R b=>Vd U6 fun p=>Vd U6 fun q=>C6 1 [2,3] b U<|G.freeze 1 U fun _ _ L=>G.freeze 0 U fun _ _ s=>UQ fun R b=>VV [] U12 fl_ fun t=>C6 1 [2,3,5] b U<|UM 1 [2,3,5,6] U<|UN 1 U fun R b=>UO (bkT s 1) U8<|US [2,3,5,6,10] b U<|G.cut (fun fr M d e=>(True)/\fr=[(2,[],p_ p),(3,[],p_ q),(5,[],s_ t 0 0),(6,[],i_ (dX a))]/\d=[.arr (s_ t 0 0) 32 1 0 []]) ?_ (fun fr _ W e _ f=>?_)
 ·refine G.cd (fun g=>?_) fun g=>?_
  ·have h1:a=true:=g;subst h1;refine UM 1 [2,3,5,6] U<|Vb 0 l_ (hn_ [2,3,5,6] U) ⟨trivial,U,U⟩
  have h1:a=false:=g;subst h1;refine Vb 0 l_ (hn_ [2,3,5,6] U) ⟨trivial,U,U⟩
 obtain⟨_,rfl,rfl⟩:=f;refine UM 1 [2,3,5,6,7] U<|G.loop (fun fr M d e=>∃ (i:Nat)(w:Value),(i<=n)/\fr=[(2,[],p_ p),(3,[],p_ q),(5,[],w),(6,[],i_ (dX a)),(7,[],i_ i)]/\d=[.arr w 32 1 ((fsK n ⟨h0,h1,h2,h3,h4,h5,a⟩).take i).length (((fsK n ⟨h0,h1,h2,h3,h4,h5,a⟩).take i).map eE).flatten]/\e=n-i) (hn_ [2,3,5,6,7] U) ⟨0,_,Re _,U,U,U⟩ (fun fr X Y m _ f=>?_);obtain⟨i,w,Z,rfl,rfl,rfl⟩:=f;refine UN 2 U fun R b=>UO (bkT L 1) U8<|C6 2 [2,3,5,6,7,15] b U<|G.cd (fun h=>?_) fun h=>?_
 ·have k:i<n:=by
   have:=Qw h;omega
  have v:i % 6<6:=RU _ dc_;obtain⟨z,l⟩:∃ z,(IZ ⟨h0,h1,h2,h3,h4,h5,a⟩).getD (i % 6) 0=z:=⟨_,rfl⟩;have x:=N6 ⟨h0,h1,h2,h3,h4,h5,a⟩ (i % 6) v;rw[l]at x;have N:z∈IZ ⟨h0,h1,h2,h3,h4,h5,a⟩:=by
   rw[<- l,am,ai (show i % 6<(IZ ⟨h0,h1,h2,h3,h4,h5,a⟩).length from v),Sr];exact R6 _
  have aa:=K z N;have ab:=FD z;have ac:=vc a;have O:(fsK n ⟨h0,h1,h2,h3,h4,h5,a⟩).take (i+1)=(fsK n ⟨h0,h1,h2,h3,h4,h5,a⟩).take i++[lB (z.tmod 20) (dX a)]:=by
   rw[RE,show(fsK n ⟨h0,h1,h2,h3,h4,h5,a⟩)[i]?=some (lB (z.tmod 20) (dX a)) by unfold fsK;rw[Rb,RK k,<- l];rfl];rfl
  have ad:((fsK n ⟨h0,h1,h2,h3,h4,h5,a⟩).take i).length<=400:=by rw[Ro,vh];omega
  refine UN 2 U fun R b=>VN (i) (6) U6 om_ U2<|UP U6<|Vi ((i % 6)) U9 (fun _=>⟨by omega,by omega,(by show i % 6=0+(i % 6)*1;omega)⟩) U2<|V2 (PtrTo.blockT (Mem.get s mup) (i % 6) 1) U6 (show cJ _ (((PX ⟨h0,h1,h2,h3,h4,h5,a⟩).drop (i % 6)).take 1)=some (.int .i8 z) from by rw[x];rfl) U<|Vz (c:=z) U8 (wrap_i64 om_ om_) fl_<|VR (z.tmod 20) U6 dc_ U3<|UP U6<|UY (PQ _ B.m_ (z.tmod 20) (dX a) om_ om_ om_) U7 fl_<|Vj [eE (lB (z.tmod 20) (dX a))] U12 fun ae _ _ Q=>D.append (j:=0) U11 Q U ax q_ fl_ fun A=>C6 1 [2,3,5,6,7] b U<|UN 1 U fun R b=>UV _ U U6<|C6 1 [2,3,5,6,7] b U<|Vc (L':=[.arr A 32 1 ((fsK n ⟨h0,h1,h2,h3,h4,h5,a⟩).take (i+1)).length (((fsK n ⟨h0,h1,h2,h3,h4,h5,a⟩).take (i+1)).map eE).flatten]) (by rw[O,RN,RP,Rf];rfl)<|U0 (m':=n-(i+1)) om_ mup (hn_ [2,3,5,6,7] U) ⟨i+1,A,om_,U,U,U⟩
 have k:i=n:=by
  have:=Rc h;omega
 rw[show(fsK n ⟨h0,h1,h2,h3,h4,h5,a⟩).take i=fsK n ⟨h0,h1,h2,h3,h4,h5,a⟩ from RH (by rw[k,vh];exact Q7 _)];exact UM 2 [4] U<|G.freezeArr 0 ((fsK n ⟨h0,h1,h2,h3,h4,h5,a⟩).map eE) U2 e_ (by rw[au]) fun Cg hg S=>UT U2<|⟨U,S⟩
structure Sgt where
 kind:Nat
 px:Int
 py:Int
 u0:Nat
 u1:Nat
 depth:Nat
 n0:Int
 n1:Int
 n2:Int
def OU (s:Sgt):List Value:=[.int .u8 s.kind,.int .i8 s.px,.int .i8 s.py,.int .u8 s.u0,.int .u8 s.u1,.int .u8 s.depth,.int .i8 s.n0,.int .i8 s.n1,.int .i8 s.n2]
structure SgtR (s:Sgt):Prop where
 kind:s.kind<256
 px:-128<=s.px/\s.px<=127
 py:-128<=s.py/\s.py<=127
 u0:s.u0<256
 u1:s.u1<256
 depth:s.depth<256
 n0:-128<=s.n0/\s.n0<=127
 n1:-128<=s.n1/\s.n1<=127
 n2:-128<=s.n2/\s.n2<=127
structure Sht where
 kd:Nat
 a:Int
 b:Int
 h:Bool
def NF (S:Sht)(H:Hts)(sv:Value):List Value:=[.int .u8 S.kd,.int .i8 S.a,.int .i8 S.b,.bool S.h,.int .i8 H.h0,.int .i8 H.h1,.int .i8 H.h2,.int .i8 H.h3,.int .i8 H.h4,.int .i8 H.h5,.bool H.half,sv]
def rY (i:Nat):Str:=[UInt8.ofNat (65+i)]
def lX (S:Sht)(s:Sgt):Pt :=
 if lf (cH (S.kd % 8) S.a S.b S.h) (shT (S.kd % 8)) (dG S.a S.b S.h s.px s.py 2)≠[] then dG S.a S.b S.h s.px s.py 2
 else (cH (S.kd % 8) S.a S.b S.h).getD (s.depth % (cH (S.kd % 8) S.a S.b S.h).length) (0,0)
def fq (z:Int):Int:=if z.tmod 5=0 then 1 else z.tmod 5
def loU (s:Sgt):Nat:=if s.u0 % 3=s.u1 % 3 then 0 else s.u0 % 3
def upU (s:Sgt):Nat:=if s.u0 % 3=s.u1 % 3 then 1+s.u1 % 3 % 2 else s.u1 % 3
def fQ (S:Sht)(s:Sgt)(i:Nat):Obs :=
 if s.kind % 3=0 then ⟨1,[111,UInt8.ofNat (49+i)],qtx (lX S s).1,qtx (lX S s).2,[],rY (s.u1 % 3),[],[],[],[]⟩
 else if s.kind % 3=1 then ⟨2,[111,UInt8.ofNat (49+i)],qtx (lX S s).1,qtx (lX S s).2,qtx (lB (s.depth % 12:Nat) 2),rY (max (loU s) (upU s)),rY (min (loU s) (upU s)),[],[],[]⟩
 else ⟨3,[111,UInt8.ofNat (49+i)],qtx (lX S s).1,qtx (lX S s).2,[],rY (max (loU s) (upU s)),rY (min (loU s) (upU s)),qtx ((s.n0.tmod 5:Int):Rat),qtx ((s.n1.tmod 5:Int):Rat),qtx ((fq s.n2:Int):Rat)⟩
theorem wrap_u8 (a:0<=n)(b:n<256):IntKind.u8.wrap n=n:=by
 simp only[IntKind.wrap,IntKind.bits,IntKind.signed];simp;omega
theorem nH (i:Nat)(a:i<6):([[.int .u8 111],[.int .u8 (49+(i:Int))]]:List (List Value))=(([111,UInt8.ofNat (49+i)]:Str).map fun b=>[.int .u8 b.toNat]):=by
 rcases(by omega:i=0∨i=1∨i=2∨i=3∨i=4∨i=5) with rfl|rfl|rfl|rfl|rfl|rfl <;> rfl
theorem CO (j:Nat)(a:j<3):(([af [65],af [66],af [67]]:List Value).drop j).take 1=[af (rY j)]:=by
 rcases(by omega:j=0∨j=1∨j=2) with rfl|rfl|rfl <;> rfl
theorem zq:∀ m:Nat,0<(shP m).length
|0=>by decide
|1=>by decide
|2=>by decide
|3=>by decide
|4=>by decide
|5=>by decide
|6=>by decide
|_+7=>by
  show 0<([(0,0),(6,0),(0,6),(2,2)]:List (Int × Int)).length;decide
theorem oB (a:Int):-5<a.tmod 5/\a.tmod 5<5:=by
 have h:(a.tmod 5).natAbs=a.natAbs % 5:=TS a 5;omega
theorem N0 (s:Sgt):loU s<=2:=by unfold loU;split <;> omega
theorem MT (s:Sgt):upU s<=2:=by unfold upU;split <;> omega
theorem Gm {p:Pt}(h:QP 1 p):QP 23 p/\PtR p:=⟨⟨h.1.le dc_,h.2.le dc_⟩,bA (h.1.le dc_),bA (h.2.le dc_)⟩
theorem rW (C:Mem)(r:Tabs C)(S:Sht)(s:Sgt)(H:Hts)(sv:Value)(i:Nat)(V:i<6)(hk:S.kd<256)(q:SgtR s)(hG:Good (cH (S.kd % 8) S.a S.b S.h) (shT (S.kd % 8))) :
  Pur cx.P 58 [.agg ⟨NF S H sv⟩,.agg ⟨OU s⟩,i_ i] C fun u _D=>u=.agg ⟨sd (fQ S s i)⟩:=by
 have aD:=q.kind;have aE:=q.u0;have aG:=q.u1;have aH:=q.depth;have aI:=oB s.n0;have aK:=oB s.n1;have aL:=oB s.n2;have al:=N0 s;have an:=MT s;have ao:QP 1 (dG S.a S.b S.h s.px s.py 2):=Cs dc_ dc_ q.px q.py;obtain⟨ap,aq⟩:=Gm ao;obtain⟨lo,v⟩:∃ n,loU s=n:=⟨_,rfl⟩;obtain⟨up,w⟩:∃ n,upU s=n:=⟨_,rfl⟩;obtain⟨p,x⟩:∃ p,lX S s=p:=⟨_,rfl⟩;obtain⟨t,E⟩:∃ z,fq s.n2=z:=⟨_,rfl⟩;have aM:-5<t/\t<5:=by rw[<- E];unfold fq;split <;> omega
 rw[v]at al;rw[w]at an;have ah:0<(cH (S.kd % 8) S.a S.b S.h).length:=by rw[cH,au];exact zq _
 have aN:=jX (S.kd % 8) S.a S.b S.h;refine UU func58 129 U3 fun w0=>UQ fun R d=>Vd U6 fun b3=>Vd U6 fun y=>Ve U5 fun g=>US [2,3,4,6] d U<|G.freeze 2 U fun _ _ aj=>G.freeze 1 U fun _ _ k=>UN 1 U fun R d=>UO (bkT aj 4) U8<|Vu (xQ _ r.m_ S.kd S.a S.b S.h hk) U7 (fun aO _ _ W=>?_);obtain⟨v1,v2,rfl,X,ar⟩:=id W.ex;obtain⟨A1,c1,rfl,av,aP,_⟩:=id X;obtain⟨A2,c2,rfl,_,_,_⟩:=id ar;simp only[au]at X av W⊢;refine Ve U5 fun b7=>UX (j:=0) U12<|US [2,3,4,6,7] d U<|G.freeze 0 U fun _ _ Y=>G.cut (fun fr F l m=>∃ (f:Nat),(True)/\fr=[(4,[],p_ y),(6,[],p_ g),(7,[],p_ b7),(8,[],p_ f)]/\l=[.obj f (.cells ⟨[i_ (1+((s.kind % 3:Nat):Int)),af [111,UInt8.ofNat (49+i)],af (qtx (dG S.a S.b S.h s.px s.py 2).1),af (qtx (dG S.a S.b S.h s.px s.py 2).2),af [],af [],af [],af [],af [],af []]⟩ 126 (0,0)),.obj g (.cells ⟨[i_ 0,af [],af [],af [],af [],af [],af [],af [],af [],af []]⟩ 126 (0,0))]) ?_ (fun fr aQ aR m aS o=>?_)
 ·refine VJ (.cut [0,1,2,3,4,5,6,7,10,11,12,13,14] (.alt 8 (.cut [] (.alt 9 (.fin [15,16,17]) (.alt 16 (.fin [9,15,17]) .stop))) (.alt 16 (.fin [8,9,15,17]) .stop))) [(14,1),(3,0),(6,0)] U U kr_ fun R I d J=>UP U6<|UO (bkT k 1) U8<|VN (s.kind) (3) U6 om_ U2<|VT (c:=((s.kind % 3:Nat):Int)) U8 (wrap_i64 om_ om_) U2<|UV _ U U6<|UP U6<|VT (c:=(i:Int)) U8 (wrap_u8 om_ om_) U2<|D.int ((49+(i:Int))) U4 (wrap_u8 om_ om_) U2<|UP U6<|UO (bkT aj 4) U8<|UP U6<|UO (bkT k 2) U8<|Vh (fun _=>(Ct _ r.m_ S.kd S.a S.b S.h s.px s.py 2 dc_ dc_ q.px q.py)) U9<|Vw J U ⟨?_, ?_,trivial⟩
  ·refine Vj [[.int .u8 111],[.int .u8 (49+(i:Int))]] U12 fun aw ax _ K=>Vw J U ⟨?_, ?_,trivial⟩
   ·exact Wc (show Sl _ 1 _ (([111,UInt8.ofNat (49+i)]:Str).map fun b=>[.int .u8 b.toNat]) from by rw[<- nH i V];exact K.mono mup) U11 fl_<|Vf [i_ (1+((s.kind % 3:Nat):Int)),af [111,UInt8.ofNat (49+i)],af (qtx (dG S.a S.b S.h s.px s.py 2).1),af (qtx (dG S.a S.b S.h s.px s.py 2).2),af [],af [],af [],af [],af [],af []] U8<|Ve U5 fun f=>UX (j:=0) U12<|US [4,6,7,8] d U<|Vb 0 mup (hn_ [4,6,7,8] U) ⟨f,trivial,U,U⟩
   exact Ve U5 fun f=>Wc (show Sl _ 1 _ (([111,UInt8.ofNat (49+i)]:Str).map fun b=>[.int .u8 b.toNat]) from by rw[<- nH i V];exact K.mono mup) U11 fl_<|Vf [i_ (1+((s.kind % 3:Nat):Int)),af [111,UInt8.ofNat (49+i)],af (qtx (dG S.a S.b S.h s.px s.py 2).1),af (qtx (dG S.a S.b S.h s.px s.py 2).2),af [],af [],af [],af [],af [],af []] U8<|UX (j:=0) U12<|US [4,6,7,8] d U<|Vb 0 mup (hn_ [4,6,7,8] U) ⟨f,trivial,U,U⟩
  exact Ve U5 fun f=>Vj [[.int .u8 111],[.int .u8 (49+(i:Int))]] U12 fun aw ax _ K=>Wc (show Sl _ 1 _ (([111,UInt8.ofNat (49+i)]:Str).map fun b=>[.int .u8 b.toNat]) from by rw[<- nH i V];exact K.mono mup) U11 fl_<|Vf [i_ (1+((s.kind % 3:Nat):Int)),af [111,UInt8.ofNat (49+i)],af (qtx (dG S.a S.b S.h s.px s.py 2).1),af (qtx (dG S.a S.b S.h s.px s.py 2).2),af [],af [],af [],af [],af [],af []] U8<|UX (j:=0) U12<|US [4,6,7,8] d U<|Vb 0 mup (hn_ [4,6,7,8] U) ⟨f,trivial,U,U⟩
 obtain⟨f,_,rfl,rfl⟩:=o;refine UQ fun R d=>UO (bkT Y 2) U8<|UP U6<|UW ag U9<|UZ (rC _ r.m_ _ _ _ (dG S.a S.b S.h s.px s.py 2) W.m_ hG ap aq) U7<|C6 5 [4,6,7,8,9] d U<|UM 2 [4,6,7,8,42] U<|G.cut (fun fr F l m=>(True)/\fr=[(4,[],p_ y),(6,[],p_ g),(8,[],p_ f)]/\l=[.obj f (.cells ⟨[i_ (1+((s.kind % 3:Nat):Int)),af [111,UInt8.ofNat (49+i)],af (qtx p.1),af (qtx p.2),af [],af [],af [],af [],af [],af []]⟩ 126 (0,0)),.obj g (.cells ⟨[i_ 0,af [],af [],af [],af [],af [],af [],af [],af [],af []]⟩ 126 (0,0))]) ?_ (fun fr _ aT m _ o=>?_)
 ·refine G.cd (fun Z=>?_) fun Z=>?_
  ·have ay:lf (cH (S.kd % 8) S.a S.b S.h) (shT (S.kd % 8)) (dG S.a S.b S.h s.px s.py 2)=[]:=by simpa using Z
   have ak:s.depth % (cH (S.kd % 8) S.a S.b S.h).length<(cH (S.kd % 8) S.a S.b S.h).length:=RU _ ah;have aa:p=(cH (S.kd % 8) S.a S.b S.h)[s.depth % (cH (S.kd % 8) S.a S.b S.h).length]:=by
    rw[<- x,lX,aF (by rw[ay];simp),am,ai ak,Sr]
   have hp:(cH (S.kd % 8) S.a S.b S.h)[s.depth % (cH (S.kd % 8) S.a S.b S.h).length]?=some p:=by rw[aa];exact ai ak
   refine Vg [0,1,2,3,4,5,6,7,8,9,10,11,12] [(4,0)] U kr_ fun R I d=>UP U6<|UO (bkT Y 1) U8<|UP U6<|UO (bkT k 1) U8<|VT (c:=(s.depth:Int)) U8 (wrap_i64 om_ om_) U2<|UP U6<|UO (bkT Y 1) U8<|UP U6<|VN (s.depth) ((cH (S.kd % 8) S.a S.b S.h).length) U6 ah U2<|Va X.m_ U10 om_ (cA hp) fl_ fun aU az=>UO az U8<|UP U6<|UX (j:=0) U12<|US [4,6,8] d U<|Vb 0 l_ (hn_ [4,6,8] U) ⟨trivial,U,U⟩
  have aA:lf (cH (S.kd % 8) S.a S.b S.h) (shT (S.kd % 8)) (dG S.a S.b S.h s.px s.py 2)≠[]:=by simpa using Z
  have aa:p=dG S.a S.b S.h s.px s.py 2:=by rw[<- x,lX,aJ aA]
  subst aa;refine Vb 0 l_ (hn_ [4,6,8] U) ⟨trivial,U,U⟩
 obtain⟨_,rfl,rfl⟩:=o;refine UQ fun R d=>Vf ([af [65],af [66],af [67]]) U8<|Ve U5 fun aB=>UX (j:=0) U12<|US [4,6,8,11] d U<|G.freeze 0 U fun _ _ L=>Vg [0,1,2,3,4,5,6,7,8,9,10,11] [(4,0),(9,0)] U kr_ fun R I d=>UP U6<|Vi (3) U9 k_ U2<|UO (bkT k 1) U8<|VN (s.u0) (3) U6 om_ U2<|VT (c:=((s.u0 % 3:Nat):Int)) U8 (wrap_i64 om_ om_) U2<|UP U6<|Vi (4) U9 k_ U2<|UO (bkT k 1) U8<|VN (s.u1) (3) U6 om_ U2<|VT (c:=((s.u1 % 3:Nat):Int)) U8 (wrap_i64 om_ om_) U2<|C6 2 [4,6,8,11,12,13] d U<|UN 1 U fun R d=>UW ag U9<|C6 1 [4,6,8,11,12,13,68] d U<|G.cd (fun M=>?_) fun M=>?_
 ·have A:s.kind % 3=0:=by
   have:=dW M;omega
  refine UN 1 U fun R d=>Vi ((s.u1 % 3)) U9 (fun _=>⟨by omega,by omega,(by show s.u1 % 3=0+(s.u1 % 3)*1;omega)⟩) U2<|V2 (PtrTo.blockT (Mem.get L mup) (s.u1 % 3) 1) U6 (show cJ _ ((([af [65],af [66],af [67]]:List Value).drop (s.u1 % 3)).take 1)=some (af (rY (s.u1 % 3))) from by rw[CO _ om_];rfl) U<|UP U6<|UX (j:=0) U12<|US [6,8] d U<|UQ fun R d=>UW ag U9<|UX (j:=1) U12<|US [6] d U<|U1 (VF ag U4 ?_);exact⟨U,by unfold fQ;rw[aJ A,x,A];rfl⟩
 have A:¬ s.kind % 3=0:=by
  intro e;rw[e]at M;exact absurd M dc_
 refine UM 3 [4,6,8,11,12,13,76] U<|G.cut (fun fr F l m=>(True)/\fr=[(4,[],p_ y),(6,[],p_ g),(8,[],p_ f),(11,[],p_ aB),(12,[],i_ (lo:Nat)),(13,[],i_ (up:Nat))]/\l=[.obj f (.cells ⟨[i_ (1+((s.kind % 3:Nat):Int)),af [111,UInt8.ofNat (49+i)],af (qtx p.1),af (qtx p.2),af [],af [],af [],af [],af [],af []]⟩ 126 (0,0)),.obj g (.cells ⟨[i_ 0,af [],af [],af [],af [],af [],af [],af [],af [],af []]⟩ 126 (0,0))]) ?_ (fun fr _ aV m _ o=>?_)
 ·refine G.cd (fun N=>?_) fun N=>?_
  ·have B:s.u0 % 3=s.u1 % 3:=by
    have:=dW N;omega
   have ab:lo=0:=by rw[<- v,loU,aJ B]
   have ac:up=1+s.u1 % 3 % 2:=by rw[<- w,upU,aJ B]
   subst ab;subst ac;refine UN 1 U fun R d=>VN ((s.u1 % 3)) (2) U6 om_ U2<|UV _ U U6<|C6 2 [4,6,8,11,12,13] d U<|Vb 0 l_ (hn_ [4,6,8,11,12,13] U) ⟨trivial,U,U⟩
  have B:¬ s.u0 % 3=s.u1 % 3:=by
   intro e;rw[e,beq_self_eq_true]at N;exact absurd N dc_
  have ab:lo=s.u0 % 3:=by rw[<- v,loU,aF B]
  have ac:up=s.u1 % 3:=by rw[<- w,upU,aF B]
  subst ab;subst ac;refine Vb 0 l_ (hn_ [4,6,8,11,12,13] U) ⟨trivial,U,U⟩
 obtain⟨_,rfl,rfl⟩:=o;refine G.cut (fun fr F l m=>(True)/\fr=[(4,[],p_ y),(6,[],p_ g),(8,[],p_ f)]/\l=[.obj f (.cells ⟨[i_ (1+((s.kind % 3:Nat):Int)),af [111,UInt8.ofNat (49+i)],af (qtx p.1),af (qtx p.2),af [],af (rY (max lo up)),af (rY (min lo up)),af [],af [],af []]⟩ 126 (0,0)),.obj g (.cells ⟨[i_ 0,af [],af [],af [],af [],af [],af [],af [],af [],af []]⟩ 126 (0,0))]) ?_ (fun fr aW aX m aY o=>?_)
 ·refine VJ (.cut [0,1,2,3,4,5,6,7,8,10] (.alt 9 (.fin [11,12,13]) (.alt 11 (.fin [9,12,13]) .stop))) [] U U kr_ fun R I d J=>UR 2 U<|D.max (((max lo up:Nat):Int)) U6 om_ U2<|Vi ((max lo up)) U9 (fun _=>⟨by omega,by omega,(by show max lo up=0+(max lo up)*1;omega)⟩) U2<|V2 (PtrTo.blockT (Mem.get L mup) (max lo up) 1) U6 (show cJ _ ((([af [65],af [66],af [67]]:List Value).drop (max lo up)).take 1)=some (af (rY (max lo up))) from by rw[CO _ om_];rfl) U<|UR 2 U<|D.min (((min lo up:Nat):Int)) U6 om_ U2<|Vi ((min lo up)) U9 (fun _=>⟨by omega,by omega,(by show min lo up=0+(min lo up)*1;omega)⟩) U2<|UP U6<|Vw J U ⟨?_, ?_,trivial⟩
  ·exact V2 (PtrTo.blockT (Mem.get L mup) (min lo up) 1) U6 (show cJ _ ((([af [65],af [66],af [67]]:List Value).drop (min lo up)).take 1)=some (af (rY (min lo up))) from by rw[CO _ om_];rfl) U<|UX (j:=0) U12<|UP U6<|UX (j:=0) U12<|US [4,6,8] d U<|Vb 0 mup (hn_ [4,6,8] U) ⟨trivial,U,U⟩
  exact UX (j:=0) U12<|V2 (PtrTo.blockT (Mem.get L mup) (min lo up) 1) U6 (show cJ _ ((([af [65],af [66],af [67]]:List Value).drop (min lo up)).take 1)=some (af (rY (min lo up))) from by rw[CO _ om_];rfl) U<|UP U6<|UX (j:=0) U12<|US [4,6,8] d U<|Vb 0 mup (hn_ [4,6,8] U) ⟨trivial,U,U⟩
 obtain⟨_,rfl,rfl⟩:=o;refine UN 1 U fun R d=>UW ag U9<|C6 1 [4,6,8,94] d U<|G.cd (fun O=>?_) fun O=>?_
 ·have Q:s.kind % 3=1:=by
   have:=dW O;omega
  refine UN 1 U fun R d=>UO (bkT k 1) U8<|VN (s.depth) (12) U6 om_ U2<|Vz (c:=((s.depth % 12:Nat):Int)) U8 (wrap_i64 om_ om_) fl_<|UY (Ge _ r.m_ ((s.depth % 12:Nat):Int) 2 om_ om_ om_) U7 fl_<|UR 4 U<|UX (j:=0) U12<|US [6,8] d U<|UQ fun R d=>UW ag U9<|UX (j:=1) U12<|US [6] d U<|U1 (VF ag U4 ?_);exact⟨U,by unfold fQ;rw[aF A,aJ Q,x,v,w,Q];rfl⟩
 have Q:¬ s.kind % 3=1:=by
  intro e;rw[e]at O;exact absurd O dc_
 have aC:s.kind % 3=2:=by omega
 refine UN 1 U fun R d=>Vi (8) U9 k_ U2<|UO (bkT k 1) U8<|VR (s.n2.tmod 5) U6 dc_ U3<|Vz (c:=(s.n2.tmod 5)) U8 (wrap_i64 om_ om_) fl_<|C6 1 [4,6,8,14] d U<|UM 2 [4,6,8,14,111] U<|G.cut (fun fr F l m=>(True)/\fr=[(4,[],p_ y),(6,[],p_ g),(8,[],p_ f),(14,[],i_ t)]/\l=[.obj f (.cells ⟨[i_ (1+((s.kind % 3:Nat):Int)),af [111,UInt8.ofNat (49+i)],af (qtx p.1),af (qtx p.2),af [],af (rY (max lo up)),af (rY (min lo up)),af [],af [],af []]⟩ 126 (0,0)),.obj g (.cells ⟨[i_ 0,af [],af [],af [],af [],af [],af [],af [],af [],af []]⟩ 126 (0,0))]) ?_ (fun fr _ aZ m _ o=>?_)
 ·refine G.cd (fun T=>?_) fun T=>?_
  ·have ad:s.n2.tmod 5=0:=dW T;have ae:t=1:=by rw[<- E,fq,aJ ad]
   subst ae;refine UM 1 [4,6,8,14] U<|Vb 0 l_ (hn_ [4,6,8,14] U) ⟨trivial,U,U⟩
  have ad:¬ s.n2.tmod 5=0:=by
   intro e;rw[e]at T;exact absurd T dc_
  have ae:t=s.n2.tmod 5:=by rw[<- E,fq,aF ad]
  subst ae;refine Vb 0 l_ (hn_ [4,6,8,14] U) ⟨trivial,U,U⟩
 obtain⟨_,rfl,rfl⟩:=o;refine Vg [0,1,2,3,4,5,6,7,8,9,10,11,12,13,14,15,16] [(5,1),(11,1),(13,1),(4,0),(10,0)] U kr_ fun R I d=>UP U6<|Vi (6) U9 k_ U2<|UO (bkT k 1) U8<|VR (s.n0.tmod 5) U6 dc_ U3<|VT (c:=(s.n0.tmod 5)) U8 (wrap_i64 om_ om_) U2<|Vh (fun _=>(ue _ r.m_ (s.n0.tmod 5) om_)) U9<|UP U6<|Vi (7) U9 k_ U2<|UO (bkT k 1) U8<|VR (s.n1.tmod 5) U6 dc_ U3<|VT (c:=(s.n1.tmod 5)) U8 (wrap_i64 om_ om_) U2<|Vh (fun _=>(ue _ r.m_ (s.n1.tmod 5) om_)) U9<|UP U6<|Vh (fun _=>(ue _ r.m_ t om_)) U9<|Vf [af (qtx ((s.n0.tmod 5:Int):Rat)),af (qtx ((s.n1.tmod 5:Int):Rat)),af (qtx ((t:Int):Rat))] U8<|UP U6<|UX (j:=0) U12<|US [6,8] d U<|UQ fun R d=>UW ag U9<|UX (j:=1) U12<|US [6] d U<|U1 (VF ag U4 ?_);exact⟨U,by unfold fQ;rw[aF A,aF Q,x,v,w,E,aC];rfl⟩
def Ej:Sgt:=⟨0,0,0,0,0,0,0,0,0⟩
def colK:List Lay:=[⟨[65],0,none⟩,⟨[66],0,some 5⟩,⟨[67],1,none⟩]
theorem JR:qtx 5=[53]:=by
 show qtx ((5:Int):Rat)=_;rw[nD];decide +kernel
theorem K9:colK.map vZ=[[af [65],af [48],af []],[af [66],af [48],af [53]],[af [67],af [49],af []]]:=by
 simp only[colK,List.map,vZ,vW,qtx_zero,dE,JR]
def vX (S:Sht)(l:List Sgt):List Obs:=(List.range (min l.length 6)).map fun i=>fQ S (l.getD i Ej) i
def eF (S:Sht)(H:Hts)(l:List Sgt):Bk:=⟨cH (S.kd % 8) S.a S.b S.h,shT (S.kd % 8),(fsK (cH (S.kd % 8) S.a S.b S.h).length H).map qtx,colK,vX S l⟩
theorem lZ (S:Sht)(l:List Sgt):(vX S l).length=min l.length 6:=by simp[vX]
theorem GP (S:Sht){l:List Sgt}{s:Sgt}(h:l[i]?=some s)(a:i<6):(vX S l)[i]?=some (fQ S s i):=by
 have h1:=(aT.1 h).1;rw[vX,Rb,RK om_];show some (fQ S (l.getD i Ej) i)=_;rw[am,h];rfl
theorem G8 (C:Mem)(q:Tabs C)(S:Sht)(H:Hts)(W:Value)(l:List Sgt)(X:S.kd<256)(A:Qv H)(L:Sl C 9 W (l.map OU))(hs:∀ s∈l,SgtR s)(hG:Good (cH (S.kd % 8) S.a S.b S.h) (shT (S.kd % 8))) :
  Pur cx.P 12 [.agg ⟨NF S H W⟩] C fun u D=>BookIn D u (eF S H l):=by
 obtain⟨As,cs,rfl,aj,av,_⟩:=id L;have aw:=mx_
 simp only[au]at L aj⊢;have ay:=jX (S.kd % 8) S.a S.b S.h;refine UU func12 44 U3 fun w0=>UQ fun R f=>Vd U6 fun Y=>Ve U5 fun v=>US [1,2] f U<|G.freeze 1 U fun _ _ B=>UN 1 U fun R f=>UO (bkT B 4) U8<|Vu (xQ _ q.m_ S.kd S.a S.b S.h X) U7 (fun v8 _ _ Z=>?_);obtain⟨v1,v2,rfl,M,N⟩:=id Z.ex;obtain⟨k,n,rfl,al,az,_⟩:=id M;obtain⟨A2,c2,rfl,_,_,_⟩:=id N;simp only[au]at M N al Z⊢;refine Ve U5 fun b3=>UX (j:=0) U12<|US [1,2,3] f U<|G.freeze 0 U fun _ _ aa=>G.cut (fun fr O E Q=>∃ (c:Option Addr)(d:Nat)(x:Value)(g:Nat),(Sl O 1 (.slice c (fsK (cH (S.kd % 8) S.a S.b S.h).length H).length d) ((fsK (cH (S.kd % 8) S.a S.b S.h).length H).map eE)/\Sl O 3 x [[af [65],af [48],af []],[af [66],af [48],af [53]],[af [67],af [49],af []]])/\fr=[(1,[],p_ Y),(2,[],p_ v),(4,[],p_ g)]/\E=[.obj g (.cells ⟨[.slice k (cH (S.kd % 8) S.a S.b S.h).length n,.slice A2 (shT (S.kd % 8)).length c2,.slice c (fsK (cH (S.kd % 8) S.a S.b S.h).length H).length d,x,.slice none 0 0]⟩ 45 (0,0)),.obj v (.cells ⟨[.slice none 0 0,.slice none 0 0,.slice none 0 0,.slice none 0 0,.slice none 0 0]⟩ 45 (0,0))]) ?_ (fun fr aA aB Q aC T=>?_)
 ·refine VJ (.cut [0,1,2,3,5,6,7] (.alt 4 (.cut [] (.alt 8 (.fin [9,10,11]) (.alt 10 (.fin [8,9,11]) .stop))) (.alt 8 (.cut [] (.alt 4 (.fin [9,10,11]) (.alt 10 (.fin [4,9,11]) .stop))) (.alt 10 (.cut [] (.alt 4 (.fin [8,9,11]) (.alt 8 (.fin [4,9,11]) .stop))) .stop)))) [] U U kr_ fun R hB f F=>UO (bkT aa 2) U8<|UO (bkT aa 2) U8<|UP U6<|UO (bkT B 7) U8<|Vf ([af [65],af [48],af []]) U8<|Vf ([af [66],af [48],af [53]]) U8<|Vf ([af [67],af [49],af []]) U8<|Vw F U ⟨?_, ?_, ?_,trivial⟩
  ·refine Vo (jv _ q.m_ _ _ (cH (S.kd % 8) S.a S.b S.h).length k n H U om_ A) U7 fl_ fun I J _ e=>Vw F U ⟨?_, ?_,trivial⟩
   ·refine VK [[af [65],af [48],af []],[af [66],af [48],af [53]],[af [67],af [49],af []]] U12 fl_ (fun o K _ p=>?_);obtain⟨c,d,rfl,_,_,_⟩:=id e;simp only[au]at e⊢;exact Vf [.slice k (cH (S.kd % 8) S.a S.b S.h).length n,.slice A2 (shT (S.kd % 8)).length c2,.slice c (fsK (cH (S.kd % 8) S.a S.b S.h).length H).length d,s_ o 3 3,.slice none 0 0] U8<|Ve U5 fun g=>UX (j:=0) U12<|US [1,2,4] f U<|Vb 0 mup (hn_ [1,2,4] U) ⟨c,d,_,g,⟨e.mono mup,p.mono mup⟩,U,U⟩
   refine Ve U5 fun g=>VK [[af [65],af [48],af []],[af [66],af [48],af [53]],[af [67],af [49],af []]] U12 fl_ (fun o K _ p=>?_);obtain⟨c,d,rfl,_,_,_⟩:=id e;simp only[au]at e⊢;exact Vf [.slice k (cH (S.kd % 8) S.a S.b S.h).length n,.slice A2 (shT (S.kd % 8)).length c2,.slice c (fsK (cH (S.kd % 8) S.a S.b S.h).length H).length d,s_ o 3 3,.slice none 0 0] U8<|UX (j:=0) U12<|US [1,2,4] f U<|Vb 0 mup (hn_ [1,2,4] U) ⟨c,d,_,g,⟨e.mono mup,p.mono mup⟩,U,U⟩
  ·refine VK [[af [65],af [48],af []],[af [66],af [48],af [53]],[af [67],af [49],af []]] U12 fl_ fun o K _ p=>Vw F U ⟨?_, ?_,trivial⟩
   ·refine Vo (jv _ q.m_ _ _ (cH (S.kd % 8) S.a S.b S.h).length k n H U om_ A) U7 fl_ (fun I J _ e=>?_);obtain⟨c,d,rfl,_,_,_⟩:=id e;simp only[au]at e⊢;exact Vf [.slice k (cH (S.kd % 8) S.a S.b S.h).length n,.slice A2 (shT (S.kd % 8)).length c2,.slice c (fsK (cH (S.kd % 8) S.a S.b S.h).length H).length d,s_ o 3 3,.slice none 0 0] U8<|Ve U5 fun g=>UX (j:=0) U12<|US [1,2,4] f U<|Vb 0 mup (hn_ [1,2,4] U) ⟨c,d,_,g,⟨e.mono mup,p.mono mup⟩,U,U⟩
   refine Ve U5 fun g=>Vo (jv _ q.m_ _ _ (cH (S.kd % 8) S.a S.b S.h).length k n H U om_ A) U7 fl_ (fun I J _ e=>?_);obtain⟨c,d,rfl,_,_,_⟩:=id e;simp only[au]at e⊢;exact Vf [.slice k (cH (S.kd % 8) S.a S.b S.h).length n,.slice A2 (shT (S.kd % 8)).length c2,.slice c (fsK (cH (S.kd % 8) S.a S.b S.h).length H).length d,s_ o 3 3,.slice none 0 0] U8<|UX (j:=0) U12<|US [1,2,4] f U<|Vb 0 mup (hn_ [1,2,4] U) ⟨c,d,_,g,⟨e.mono mup,p.mono mup⟩,U,U⟩
  refine Ve U5 fun g=>Vw F U ⟨?_, ?_,trivial⟩
  ·refine Vo (jv _ q.m_ _ _ (cH (S.kd % 8) S.a S.b S.h).length k n H U om_ A) U7 fl_ fun I J _ e=>VK [[af [65],af [48],af []],[af [66],af [48],af [53]],[af [67],af [49],af []]] U12 fl_ (fun o K _ p=>?_);obtain⟨c,d,rfl,_,_,_⟩:=id e;simp only[au]at e⊢;exact Vf [.slice k (cH (S.kd % 8) S.a S.b S.h).length n,.slice A2 (shT (S.kd % 8)).length c2,.slice c (fsK (cH (S.kd % 8) S.a S.b S.h).length H).length d,s_ o 3 3,.slice none 0 0] U8<|UX (j:=0) U12<|US [1,2,4] f U<|Vb 0 mup (hn_ [1,2,4] U) ⟨c,d,_,g,⟨e.mono mup,p.mono mup⟩,U,U⟩
  refine VK [[af [65],af [48],af []],[af [66],af [48],af [53]],[af [67],af [49],af []]] U12 fl_ fun o K _ p=>Vo (jv _ q.m_ _ _ (cH (S.kd % 8) S.a S.b S.h).length k n H U om_ A) U7 fl_ (fun I J _ e=>?_);obtain⟨c,d,rfl,_,_,_⟩:=id e;simp only[au]at e⊢;exact Vf [.slice k (cH (S.kd % 8) S.a S.b S.h).length n,.slice A2 (shT (S.kd % 8)).length c2,.slice c (fsK (cH (S.kd % 8) S.a S.b S.h).length H).length d,s_ o 3 3,.slice none 0 0] U8<|UX (j:=0) U12<|US [1,2,4] f U<|Vb 0 mup (hn_ [1,2,4] U) ⟨c,d,_,g,⟨e.mono mup,p.mono mup⟩,U,U⟩
 obtain⟨c,d,x,g,⟨am,ab⟩,rfl,rfl⟩:=T;refine UM 1 [1,2,4,5] U<|G.nilArr 126 10<|G.perm (L':=[.obj g (.cells ⟨[.slice k (cH (S.kd % 8) S.a S.b S.h).length n,.slice A2 (shT (S.kd % 8)).length c2,.slice c (fsK (cH (S.kd % 8) S.a S.b S.h).length H).length d,x,.slice none 0 0]⟩ 45 (0,0)),.arr (.slice none 0 0) 126 10 0 [],.obj v (.cells ⟨[.slice none 0 0,.slice none 0 0,.slice none 0 0,.slice none 0 0,.slice none 0 0]⟩ 45 (0,0))]) (List.Perm.swap _ _ _)<|G.loop (fun fr O E Q=>∃ (i:Nat)(w:Value),(i<=l.length/\i<=6)/\fr=[(1,[],p_ Y),(2,[],p_ v),(4,[],p_ g),(5,[],i_ i)]/\E=[.obj g (.cells ⟨[.slice k (cH (S.kd % 8) S.a S.b S.h).length n,.slice A2 (shT (S.kd % 8)).length c2,.slice c (fsK (cH (S.kd % 8) S.a S.b S.h).length H).length d,x,w]⟩ 45 (0,0)),.arr w 126 10 ((vX S l).take i).length (((vX S l).take i).map sd).flatten,.obj v (.cells ⟨[.slice none 0 0,.slice none 0 0,.slice none 0 0,.slice none 0 0,.slice none 0 0]⟩ 45 (0,0))]/\Q=6-i) (hn_ [1,2,4,5] U) ⟨0,.slice none 0 0,⟨Re _,Re _⟩,U,U,U⟩ (fun fr aD aE m _ T=>?_);obtain⟨i,w,⟨hi,aF⟩,rfl,rfl,rfl⟩:=T;refine UN 2 U fun R f=>UO (bkT B 1) U8<|UR 5 U<|Vk U8<|US [1,2,4,5,27] f U<|G.cd (fun t=>?_) fun t=>?_
 ·have z:i<l.length/\i<6:=by
   by_cases h1:((i:Nat):Int)<(l.length:Nat)
   ·rw[Rt h1]at t;have h2:=Qw t;omega
   rw[RG h1]at t;exact absurd t ak
  obtain⟨s,V⟩:∃ s,l[i]?=some s:=⟨l[i]'z.1,ai z.1⟩;have an:(vX S l).take (i+1)=(vX S l).take i++[fQ S s i]:=by rw[RE,GP S V z.2];rfl
  have aG:((vX S l).take i).length<=6:=by rw[Ro,lZ];omega
  refine Vg [0,1,2,3,4,5,6,7,8,9,10,11,12,13] [] U kr_ fun R hB f=>UP U6<|UW ag U9<|UO (bkT B 12) U8<|UP U6<|UO (bkT B 1) U8<|UP U6<|Va L.m_ U10 om_ (cA V) fl_ fun aH ao=>UO ao U8<|UP U6<|Vu (rW _ q.m_ S s H _ i z.2 X (hs s (aM V)) hG) U7 (fun aI _ _ ap=>?_);subst ap;refine Vj [sd (fQ S s i)] U12 fun aJ _ _ aq=>Vs (j:=1) U11 aq.m_ U ax q_ fl_ fun ac ad ae=>UP U6<|UX (j:=1) U12<|US [1,2,4,5] f U<|UN 1 U fun R f=>UV _ U U6<|C6 1 [1,2,4,5] f U<|Vc (L':=[.obj g (.cells ⟨[.slice k (cH (S.kd % 8) S.a S.b S.h).length n,.slice A2 (shT (S.kd % 8)).length c2,.slice c (fsK (cH (S.kd % 8) S.a S.b S.h).length H).length d,x,.slice ac ad ae]⟩ 45 (0,0)),.arr (.slice ac ad ae) 126 10 ((vX S l).take (i+1)).length (((vX S l).take (i+1)).map sd).flatten,.obj v (.cells ⟨[.slice none 0 0,.slice none 0 0,.slice none 0 0,.slice none 0 0,.slice none 0 0]⟩ 45 (0,0))]) (by rw[an,RN,RP,Rf];rfl)<|U0 (m':=6-(i+1)) om_ mup (hn_ [1,2,4,5] U) ⟨i+1,_,⟨by omega,by omega⟩,U,U,U⟩
 have z:i=min l.length 6:=by
  by_cases h1:((i:Nat):Int)<(l.length:Nat)
  ·rw[Rt h1]at t;have h2:=Rc t;omega
  omega
 have ar:(vX S l).take i=vX S l:=RH (by rw[z,lZ];exact Q7 _);rw[ar];refine G.freezeArr 1 ((vX S l).map sd) U2 e_ (by rw[au]) (fun Cg hg ah=>?_);obtain⟨Aw,cw,rfl,_⟩:=id ah;obtain⟨Ap,cp,rfl,_⟩:=id ab;refine UQ fun R f=>UW ag U9<|UX (j:=1) U12<|US [2] f U<|U1 (VF ag U4 ?_);exact⟨U,_,_,_,_,_,U,M.mono mup,N.mono mup,(by rw[eF,<- nO];exact am.mono mup),(by rw[eF,K9];exact ab.mono mup),ah⟩
instance:DecidableEq RowQ:=fun a b=>decidable_of_iff (a.f=b.f/\a.b=b.b) (by cases a;cases b;simp)
instance (k:Nat) (q:Rat):Decidable (QB k q):=by unfold QB;infer_instance
instance (k:Nat) (p:Pt):Decidable (QP k p):=by unfold QP;infer_instance
instance (n:Nat) (t:Tri):Decidable (nX n t):=by unfold nX;infer_instance
theorem im (h:txt z=s):qtx ((z:Int):Rat)=s:=by rw[nD,h]
theorem Ns (q:Rat)(h:qtx q=s)(a:QB 22 q):dm s=q:=by rw[<- h];exact cT (bA a)
theorem MQ (a:List Pt)(t:Tri)(p:Pt)(j:Nat):wgt a t p j=wgt a t p (j % 3):=by
 unfold wgt;rw[show(j+1) % 3=(j % 3+1) % 3 by omega,show(j+2) % 3=(j % 3+2) % 3 by omega]
theorem Jb (t:Tri)(j:Nat):ie t j=ie t (min j 2):=by
 unfold ie;rcases(by omega:j=0∨j=1∨2<=j) with h|h|h
 ·subst h;rfl
 ·subst h;rfl
 rw[Nat.min_eq_right h,aF om_,aF om_];rfl
theorem q6:qtx 6=[54]:=by decide +kernel
def JX (m:Nat)(u v:Int)(h:Bool):List Pt:=(shP m).map fun p=>(lB (p.1+u*1) (dX h*1),lB (p.2+v*1) (dX h*1))
theorem PI (m:Nat)(a b:Int)(h:Bool):cH m a b h=JX m (a.tmod 8) (b.tmod 8) h:=rfl
def qY (pts:List Pt)(tris:List Tri):Bool :=
 pts.all (fun p=>decide (QP 1 p)) && (decide pts.Nodup && (tris.all (fun t=>decide (nX pts.length t)) && (tris.all (fun t=>decide (0<dK (pts.getD t.1 (0,0)) (pts.getD t.2.1 (0,0)) (pts.getD t.2.2 (0,0)))) && (decide (bQ tris).Nodup && (oc pts tris && pts.all fun p=>decide (lf pts tris p≠[]))))))
theorem all0:∀ i<15,∀ j<15,∀ h:Bool,qY (JX 0 ((i:Nat)-7) ((j:Nat)-7) h) (shT 0)=true:=by decide +kernel
theorem sh1 {n:Str}(a:cZ n=true)(b:cZ u=true)(c:aS x=true)(d:aS y=true):ec ⟨1,n,x,y,[],u,[],[],[],[]⟩=0:=by
 unfold ec;rw[aF ak,aF (by simp[ld,a,b]),aF (by simp[ma,c,d]),aF (by simp[lm])]
theorem sh2 {n d l:Str}(a:cZ n=true)(b:cZ u=true)(c:cZ l=true)(e:aS x=true)(f:aS y=true)(g:aS d=true):ec ⟨2,n,x,y,d,u,l,[],[],[]⟩=0:=by
 unfold ec;rw[aF ak,aF (by simp[ld,a,b,c]),aF (by simp[ma,e,f,g]),aF (by simp[lm])]
theorem sh3 {n l a b c:Str}(d:cZ n=true)(e:cZ u=true)(f:cZ l=true)(g:aS x=true)(h:aS y=true)(i:aS a=true)(j:aS b=true)(k:aS c=true):ec ⟨3,n,x,y,[],u,l,a,b,c⟩=0:=by
 unfold ec;rw[aF ak,aF (by simp[ld,d,e,f]),aF (by simp[ma,g,h,i,j,k]),aF (by simp[lm])]
theorem qV (j:Nat)(a:j<3):kg (isU (rY j)) colK 0=(j:Int):=by
 rcases(by omega:j=0∨j=1∨j=2) with rfl|rfl|rfl <;> decide +kernel
theorem uV (j:Nat)(a:j<3):cZ (rY j)=true:=by
 rcases(by omega:j=0∨j=1∨j=2) with rfl|rfl|rfl <;> decide +kernel
theorem NS (i:Nat)(a:i<6):cZ [111,UInt8.ofNat (49+i)]=true:=by
 rcases(by omega:i=0∨i=1∨i=2∨i=3∨i=4∨i=5) with rfl|rfl|rfl|rfl|rfl|rfl <;> decide +kernel
theorem PR (c:i<6)(d:j<6)(h:([111,UInt8.ofNat (49+i)]:Str)=[111,UInt8.ofNat (49+j)]):i=j:=by
 have e:∀ a<6,∀ b<6,([111,UInt8.ofNat (49+a)]:Str)=[111,UInt8.ofNat (49+b)]->a=b:=by decide
 exact e i c j d h
theorem Kp (s:Sgt):min (loU s) (upU s)<max (loU s) (upU s):=by
 unfold loU upU;split <;> omega
theorem eg (z:Int)(h:z.natAbs<100):QB 1 ((z:Int):Rat):=by
 refine⟨?_, ?_⟩
 ·show z.natAbs<B9 ^ 1;have:B9 ^ 1=1000000000:=by decide
  omega
 show 1<B9 ^ 1;decide
theorem uU (z:Int):fq z≠0:=by
 unfold fq;split
 ·decide
 assumption
theorem oT (z:Int):-5<fq z/\fq z<5:=by
 have:=oB z;unfold fq;split <;> omega
theorem ok1 (h:QB 1 q):aS (qtx q)=true:=bA (h.le dc_)
theorem tH (n:Nat):QB 1 (lB ((n % 12:Nat):Int) 2):=rt dc_ om_ dc_
theorem Ot (n:Nat):¬ (lB ((n % 12:Nat):Int) 2<0):=by
 have a:∀ k<12,¬ (lB ((k:Nat):Int) 2<0):=by decide +kernel
 exact a _ (RU _ dc_)
theorem Kc (S:Sht)(s:Sgt)(i:Nat)(m:i<6)(j:QP 1 (lX S s))(n:lf (cH (S.kd % 8) S.a S.b S.h) (shT (S.kd % 8)) (lX S s)≠[]) :
  ip (cH (S.kd % 8) S.a S.b S.h) (shT (S.kd % 8)) colK (fQ S s i)=0:=by
 have f:=NS i m;have c:=ok1 j.1;have hy:=ok1 j.2;have q:=Kp s;have r:=N0 s;have t:=MT s;have g:∀ o:Obs,o.x=qtx (lX S s).1->o.y=qtx (lX S s).2->K6 (cH (S.kd % 8) S.a S.b S.h) (shT (S.kd % 8)) o=true:=by
  intro o h1 h2;unfold K6 ptO;rw[h1,h2,cT c,cT hy];exact Rt n
 have p:=qV (s.u1 % 3) om_;have d:=qV (max (loU s) (upU s)) om_;have e:=qV (min (loU s) (upU s)) om_;have n1:=uV (s.u1 % 3) om_;have n2:=uV (max (loU s) (upU s)) om_;have k:=uV (min (loU s) (upU s)) om_;unfold fQ ip;split
 ·rw[aF (by rw[sh1 f n1 c hy];decide),aF (by rw[g _ rfl rfl];decide),aF (by simp[LL,p] <;> omega),aF (by simp[ordB]),aF (by simp[depB]),aF (by simp[I1])]
 split
 ·have l:=ok1 (tH s.depth);rw[aF (by rw[sh2 f n2 k c hy l];decide),aF (by rw[g _ rfl rfl];decide),aF (by simp only[LL,d,e];simp <;> omega),aF (by simp only[ordB,d,e];simp <;> omega),aF (by simp only[depB];rw[cT l,RG (Ot s.depth)];decide),aF (by simp[I1])]
 have h0:=oB s.n0;have h1:=oB s.n1;have h2:=oT s.n2;rw[aF (by rw[sh3 f n2 k c hy (ok1 (eg _ om_)) (ok1 (eg _ om_)) (ok1 (eg _ om_))];decide),aF (by rw[g _ rfl rfl];decide),aF (by simp only[LL,d,e];simp <;> omega),aF (by simp only[ordB,d,e];simp <;> omega),aF (by simp[depB]),aF ?_];intro h;simp only[I1,Rq,Rj]at h;have h3:=h.2;rw[<- qtx_zero]at h3;have h4:=gr h3;have h5:=uU s.n2;exact h5 (by exact_mod_cast h4)
theorem all1:∀ i<15,∀ j<15,∀ h:Bool,qY (JX 1 ((i:Nat)-7) ((j:Nat)-7) h) (shT 1)=true:=by decide +kernel
theorem all2:∀ i<15,∀ j<15,∀ h:Bool,qY (JX 2 ((i:Nat)-7) ((j:Nat)-7) h) (shT 2)=true:=by decide +kernel
theorem all3:∀ i<15,∀ j<15,∀ h:Bool,qY (JX 3 ((i:Nat)-7) ((j:Nat)-7) h) (shT 3)=true:=by decide +kernel
theorem all4:∀ i<15,∀ j<15,∀ h:Bool,qY (JX 4 ((i:Nat)-7) ((j:Nat)-7) h) (shT 4)=true:=by decide +kernel
theorem all5:∀ i<15,∀ j<15,∀ h:Bool,qY (JX 5 ((i:Nat)-7) ((j:Nat)-7) h) (shT 5)=true:=by decide +kernel
theorem all6:∀ i<15,∀ j<15,∀ h:Bool,qY (JX 6 ((i:Nat)-7) ((j:Nat)-7) h) (shT 6)=true:=by decide +kernel
theorem all7:∀ i<15,∀ j<15,∀ h:Bool,qY (JX 7 ((i:Nat)-7) ((j:Nat)-7) h) (shT 7)=true:=by decide +kernel
theorem ww (a:Int):∃ i:Nat,i<15/\a.tmod 8=(i:Int)-7:=by
 have h:=zh a;exact⟨(a.tmod 8+7).toNat,by omega,by omega⟩
theorem zp (m:Nat)(g:m<8)(a b:Int)(h:Bool):qY (cH m a b h) (shT m)=true:=by
 obtain⟨i,c,e⟩:=ww a;obtain⟨j,d,f⟩:=ww b;rw[PI,e,f];rcases(by omega:m=0∨m=1∨m=2∨m=3∨m=4∨m=5∨m=6∨m=7) with rfl|rfl|rfl|rfl|rfl|rfl|rfl|rfl
 ·exact all0 i c j d h
 ·exact all1 i c j d h
 ·exact all2 i c j d h
 ·exact all3 i c j d h
 ·exact all4 i c j d h
 ·exact all5 i c j d h
 ·exact all6 i c j d h
 exact all7 i c j d h
theorem M5:∀ m:Nat,m<8->shT m≠[]/\(shT m).length<=800:=by decide
theorem HB {a:List Pt}{b:List Tri}(h:qY a b=true)(c:b≠[])(d:b.length<=800)(e:a.length<=400):Good a b/\∀ p∈a,lf a b p≠[]:=by
 unfold qY at h;simp only[Rq,Ru,Rj]at h;obtain⟨f,g,i,j,k,l,m⟩:=h;exact⟨⟨⟨f,g,i,j,k,d,e⟩,c,l⟩,m⟩
theorem gK (m:Nat)(c:m<8)(a b:Int)(h:Bool):Good (cH m a b h) (shT m)/\∀ p∈cH m a b h,lf (cH m a b h) (shT m) p≠[]:=by
 have d:=jX m a b h;obtain⟨h0,h1⟩:=M5 m c;exact HB (zp m c a b h) h0 h1 om_
theorem uD (S:Sht)(s:Sgt)(c:SgtR s):QP 1 (lX S s)/\lf (cH (S.kd % 8) S.a S.b S.h) (shT (S.kd % 8)) (lX S s)≠[]:=by
 obtain⟨d,e⟩:=gK (S.kd % 8) (RU _ dc_) S.a S.b S.h;have f:0<(cH (S.kd % 8) S.a S.b S.h).length:=by rw[cH,au];exact zq _
 unfold lX;split
 ·rename_i h;exact⟨Cs dc_ dc_ c.px c.py,h⟩
 have g:s.depth % (cH (S.kd % 8) S.a S.b S.h).length<(cH (S.kd % 8) S.a S.b S.h).length:=RU _ f;rw[am,ai g,Sr];exact⟨d.ok.q _ (R6 _),e _ (R6 _)⟩
theorem ix (h:QB 1 q):(qtx q).length<=999998:=xm (fs:=[q]) (k:=1) dc_ (by intro y hy;rw[Rw]at hy;rw[hy];exact h) _ (Rw.2 rfl)
theorem QU (S:Sht)(s:Sgt)(i:Nat)(c:SgtR s):ObsR (fQ S s i):=by
 have b:=(uD S s c).1;have a:=ix b.1;have hy:=ix b.2;have d:=ix (tH s.depth);have h0:=oB s.n0;have h1:=oB s.n1;have h2:=oT s.n2;have e:=ix (eg (s.n0.tmod 5) om_);have l1:=ix (eg (s.n1.tmod 5) om_);have l2:=ix (eg (fq s.n2) om_);unfold fQ;split
 ·exact⟨by simp,a,hy,by simp,by simp[rY],by simp,by simp,by simp,by simp⟩
 split
 ·exact⟨by simp,a,hy,d,by simp[rY],by simp[rY],by simp,by simp,by simp⟩
 exact⟨by simp,a,hy,by simp,by simp[rY],by simp[rY],e,l1,l2⟩
theorem xH (S:Sht)(s:Sgt)(i:Nat):(fQ S s i).name=[111,UInt8.ofNat (49+i)]:=by
 unfold fQ;split
 ·rfl
 split <;> rfl
theorem mV {S:Sht}{H:Hts}{l:List Sgt}{o:Obs}(h:(eF S H l).obs[i]?=some o):i<6/\∃ s,l[i]?=some s/\o=fQ S s i:=by
 have h1:=(aT.1 h).1;have h2:i<(vX S l).length:=h1;rw[lZ]at h2;have h3:=GP S (ai (show i<l.length by omega)) (show i<6 by omega);have h4:(vX S l)[i]?=some o:=h;rw[h3]at h4;exact⟨by omega,_,ai om_,(SG h4).symm⟩
theorem EW (S:Sht)(H:Hts)(l:List Sgt)(e:∀ s∈l,SgtR s):iP (eF S H l)=0:=by
 have f:∀ n,n<=(eF S H l).obs.length->vY (eF S H l) n=0:=by
  intro n;induction n with
 |zero=>intro _;rfl
 |succ n g =>
   intro i;have h0:=g om_;have a:(eF S H l).obs[n]?=some (eF S H l).obs[n]:=ai i;rw[uK h0 a];obtain⟨b,s,j,m⟩:=mV a;rw[m];have c:=uD S s (e s (aM j));unfold obZ;rw[aF (by
    have:=Kc S s n b c.1 c.2;intro h;exact h this),aF]
   intro hm;obtain⟨o,p,d⟩:=Ra.1 hm;obtain⟨k,x,r⟩:=List.mem_take_iff_getElem.1 p;have t:(eF S H l).obs[k]?=some o:=by rw[<- r];exact ai _
   obtain⟨u,y,_,v⟩:=mV t;rw[v,xH,xH]at d;have:=PR u b d;omega
 unfold iP;have z:(eF S H l).obs.length<=6:=by
  show(vX S l).length<=6;rw[lZ];omega
 have h1:ou (eF S H l).pts.length (eF S H l).terr=0:=by
  unfold ou;rw[aJ (by show((fsK _ H).map qtx).length=_;rw[au,vh];rfl)];show oG (((fsK _ H).map qtx).all aS)=0;rw[yP (fun q w=>ok1 (HK _ H q w))];rfl
 have h2:sh (eF S H l).col=0:=by
  show sh colK=0;decide +kernel
 rw[aF (by rw[h1];decide),aF (by rw[h2];decide),aF om_];exact f _ (Q7 _)
theorem Q1:∀ x∈colK,OY x:=by
 intro x a;simp only[colK,Rp,Sh,TF]at a;rcases a with rfl|rfl|rfl
 ·exact⟨by decide +kernel,fun q h=>by simp at h,by decide⟩
 ·exact⟨by decide +kernel,fun q h=>by simp at h;subst h;decide +kernel,by decide⟩
 exact⟨by decide +kernel,fun q h=>by simp at h,by decide⟩
theorem OE (S:Sht)(H:Hts)(l:List Sgt)(a:∀ s∈l,SgtR s):BookR (eF S H l):=by
 refine⟨?_,Q1,(by show colK.length<=1000000;decide), ?_⟩
 ·intro s h;obtain⟨q,b,rfl⟩:=Ra.1 h;exact ix (HK _ H q b)
 intro o c;obtain⟨i,d⟩:=List.mem_iff_getElem?.1 c;obtain⟨_,s,e,rfl⟩:=mV d;exact QU S s i (a s (aM e))
theorem Lg (S:Sht)(H:Hts)(l:List Sgt):bs (eF S H l)=2:=rfl
theorem Lh (S:Sht)(H:Hts)(l:List Sgt):0<bp (eF S H l)/\bp (eF S H l)<=6:=by
 refine⟨?_,jX _ _ _ _⟩;show 0<(cH (S.kd % 8) S.a S.b S.h).length;rw[cH,au];exact zq _
def II (C:Mem)(pv:Value)(S:Sht)(H:Hts)(l:List Sgt):Prop:=∃ A c,pv=.agg ⟨NF S H (.slice A l.length c)⟩/\Sl C 9 (.slice A l.length c) (l.map OU)
structure PlanR (S:Sht)(H:Hts)(l:List Sgt):Prop where
 kd:S.kd<256
 h:Qv H
 s:∀ s∈l,SgtR s
def LJ (s p:Nat)(a b:Int):Prop:=a<0∨(s:Int)<=a∨b<0∨(p:Int)<=b
instance (s p:Nat) (a b:Int):Decidable (LJ s p a b):=by unfold LJ;infer_instance
def Md (n:Nat)(x:Int):Prop:=x<0∨(n:Int)<=x
instance (n:Nat) (x:Int):Decidable (Md n x):=by unfold Md;infer_instance
open Go Go.Jog Go.ChangeShapes Go.WideShapes Go.ChangeAt Go.RowKit
set_option maxRecDepth 100000
theorem own:ownKnob Tryz.prog.godebug=none:=by kernel_rfl
section
variable {H:Type} {enc:TypeId × Value->H} {W:World} {spare:Nat->Bool} {held:Bool}
theorem QJ {n:Nat}{c:Value}{y:DataW H × List MemPlace}(h:DataW.trod enc Tryz.prog W 0 spare held n 5 [c]=some y):∃ b:UInt8,c=.int .u8 b.toNat:=by
 obtain⟨m,h1,_,h3⟩:=DataW.trod_int Tryz.underlying5 h;simp only[TO,UE]at h1;subst h1;have a:0<=m/\m<256:=by
  simp[Lit.wf,IntKind.min,IntKind.max,IntKind.signed,IntKind.bits]at h3;omega
 refine⟨UInt8.ofNat m.toNat, ?_⟩;congr 1;simp only[UInt8.toNat_ofNat'];omega
theorem wq {n:Nat}{c:Value}{y:DataW H × List MemPlace}(h:DataW.trod enc Tryz.prog W 0 spare held n 5 [c]=some y):∃ m:Nat,c=.int .u8 m/\m<256:=by
 obtain⟨b,rfl⟩:=QJ h;exact⟨b.toNat,U,b.toNat_lt⟩
theorem nM {n:Nat}{c:Value}{y:DataW H × List MemPlace}(h:DataW.trod enc Tryz.prog W 0 spare held n 22 [c]=some y):∃ m:Int,c=.int .i8 m/\-128<=m/\m<=127:=by
 obtain⟨m,h1,_,h3⟩:=DataW.trod_int Tryz.underlying22 h;simp only[TO,UE]at h1;refine⟨m,h1, ?_⟩;simp[Lit.wf,IntKind.min,IntKind.max,IntKind.signed,IntKind.bits]at h3;omega
theorem Ix {n:Nat}{c:Value}{y:DataW H × List MemPlace}(h:DataW.trod enc Tryz.prog W 0 spare held n 4 [c]=some y):∃ b:Bool,c=.bool b:=by
 obtain⟨b,h1,_⟩:=DataW.trod_bool Tryz.underlying4 h;simp only[TO,UE]at h1;exact⟨b,h1⟩
theorem yO {t e:TypeId}{k n:Nat}{a:List Value}{y:DataW H × List MemPlace}(b:Tryz.prog.underlying t=some (.array k e))(c:Tryz.prog.cellsOf e=1)(h:DataW.trod enc Tryz.prog W 0 spare held n t a=some y) :
  ∃ m,∀ i,i<k->∃ z,DataW.trod enc Tryz.prog W 0 spare held m e ((a.drop i).take 1)=some z:=by
 obtain⟨xs,m,_,_,_,g,d⟩:=DataW.trod_array b h;refine⟨m,fun i f=>?_⟩;have h1:=d i f;rw[c,Sw]at h1;rw[h1,ai om_];exact⟨_,U⟩
theorem vH:Tryz.prog.cellsOf 5=1:=by kernel_rfl
theorem pd:Tryz.prog.cellsOf 22=1:=by kernel_rfl
theorem tN:Tryz.prog.cellsOf 4=1:=by kernel_rfl
theorem yH:Tryz.prog.cellsOf 23=2:=by kernel_rfl
theorem Im:Tryz.prog.cellsOf 135=2:=by kernel_rfl
theorem Lc:Tryz.prog.cellsOf 136=3:=by kernel_rfl
theorem Lb:Tryz.prog.cellsOf 26=6:=by kernel_rfl
theorem Jx {n:Nat}{c d e f:Value}{y:DataW H × List MemPlace}(h:DataW.trod enc Tryz.prog W 0 spare held n 25 [c,d,e,f]=some y):∃ S:Sht,[c,d,e,f]=([.int .u8 S.kd,.int .i8 S.a,.int .i8 S.b,.bool S.h]:List Value)/\S.kd<256:=by
 obtain⟨y0,y1,y2,l,_,o,h0,h1,h2⟩:=Go.Deep.trod_struct3 Tryz.underlying25 h;simp only[vH,yH,tN]at h0 h1 h2;obtain⟨kd,rfl,i⟩:=wq h0;obtain⟨m,g⟩:=yO Tryz.underlying23 pd h1;obtain⟨p,j⟩:=g 0 dc_;obtain⟨q,k⟩:=g 1 dc_;obtain⟨a,rfl,_⟩:=nM j;obtain⟨b,rfl,_⟩:=nM k;obtain⟨hh,rfl⟩:=Ix h2;exact⟨⟨kd,a,b,hh⟩,U,i⟩
theorem Ex {n:Nat}{b c d e f g i:Value}{y:DataW H × List MemPlace}(h:DataW.trod enc Tryz.prog W 0 spare held n 28 [b,c,d,e,f,g,i]=some y):∃ G:Hts,[b,c,d,e,f,g,i]=PX G/\Qv G:=by
 obtain⟨y0,y1,u,_,v,h0,h1⟩:=Go.ChangeShapes.trod_struct2 Tryz.underlying28 h;simp only[Lb,tN]at h0 h1;obtain⟨m,a⟩:=yO Tryz.underlying26 pd h0;obtain⟨w,k⟩:=a 0 dc_;obtain⟨x,l⟩:=a 1 dc_;obtain⟨A,o⟩:=a 2 dc_;obtain⟨B,p⟩:=a 3 dc_;obtain⟨C,q⟩:=a 4 dc_;obtain⟨D,r⟩:=a 5 dc_;obtain⟨x0,rfl,g0⟩:=nM k;obtain⟨x1,rfl,E⟩:=nM l;obtain⟨x2,rfl,F⟩:=nM o;obtain⟨x3,rfl,I⟩:=nM p;obtain⟨s,rfl,J⟩:=nM q;obtain⟨t,rfl,K⟩:=nM r;obtain⟨hh,rfl⟩:=Ix h1;refine⟨⟨x0,x1,x2,x3,s,t,hh⟩,U, ?_⟩;intro z j;simp only[IZ,Rp,Sh,TF]at j;rcases j with rfl|rfl|rfl|rfl|rfl|rfl <;> assumption
theorem wt {P:Program}{t:TypeId}{b c d e f:Field}{j:Nat}{a:List Value}{x:DataW H × List MemPlace}(k:P.underlying t=some (.struct #[b,c,d,e,f]))(h:DataW.trod enc P W 0 spare held j t a=some x) :
  ∃ y0 y1 y2 y3 i n,DataW.trod enc P W 0 spare held n b.type ((a.drop b.offset).take (P.cellsOf b.type))=some y0/\DataW.trod enc P W 0 spare held n c.type ((a.drop c.offset).take (P.cellsOf c.type))=some y1/\DataW.trod enc P W 0 spare held n d.type ((a.drop d.offset).take (P.cellsOf d.type))=some y2 /\
   DataW.trod enc P W 0 spare held n e.type ((a.drop e.offset).take (P.cellsOf e.type))=some y3/\DataW.trod enc P W 0 spare held n f.type ((a.drop f.offset).take (P.cellsOf f.type))=some i:=by
 obtain⟨xs,n,_,rfl,m,l,g⟩:=DataW.trod_struct k h
 match xs,l with
|[y0,y1,y2,y3,i],_=>exact⟨y0,y1,y2,y3,i,n,by simpa using g 0 b rfl,by simpa using g 1 c rfl,by simpa using g 2 d rfl,by simpa using g 3 e rfl,by simpa using g 4 f rfl⟩
theorem Jt {n:Nat}{a:List Value}{y:DataW H × List MemPlace}(e:a.length=9)(h:DataW.trod enc Tryz.prog W 0 spare held n 138 a=some y):∃ s:{s:Sgt // SgtR s},a=OU s.1:=by
 obtain⟨y0,y1,y2,y3,z,A,h0,h1,h2,h3,h4⟩:=wt Tryz.underlying138 h
 match a,e with
|[c0,B,c2,C,D,E,F,G,I],_ =>
   simp only[vH,yH,Im,Lc]at h0 h1 h2 h3 h4;obtain⟨kd,rfl,f⟩:=wq h0;obtain⟨J,c⟩:=yO Tryz.underlying23 pd h1;obtain⟨w0,g⟩:=c 0 dc_;obtain⟨w1,i⟩:=c 1 dc_;obtain⟨px,rfl,j⟩:=nM g;obtain⟨py,rfl,k⟩:=nM i;obtain⟨K,a2⟩:=yO Tryz.underlying135 vH h2;obtain⟨L,l⟩:=a2 0 dc_;obtain⟨M,m⟩:=a2 1 dc_;obtain⟨u0,rfl,o⟩:=wq l;obtain⟨u1,rfl,p⟩:=wq m;obtain⟨d,rfl,q⟩:=wq h3;obtain⟨N,b⟩:=yO Tryz.underlying136 pd h4;obtain⟨O,r⟩:=b 0 dc_;obtain⟨P,t⟩:=b 1 dc_;obtain⟨Q,u⟩:=b 2 dc_;obtain⟨n0,rfl,v⟩:=nM r;obtain⟨n1,rfl,w⟩:=nM t;obtain⟨n2,rfl,x⟩:=nM u;exact⟨⟨⟨kd,px,py,u0,u1,d,n0,n1,n2⟩,⟨f,j,k,o,p,q,v,w,x⟩⟩,U⟩
theorem FX {b:Nat}{v:Value}{x:DataW H × List MemPlace}(h:DataW.trod enc Tryz.prog W 0 spare held b 29 [v]=some x):∃ l:List Sgt,Sl (rX W) 9 v (l.map OU)/\∀ s∈l,SgtR s:=by
 obtain⟨l,a⟩:=FW (fun s:{s:Sgt // SgtR s}=>OU s.1) Tryz.underlying29 kr_ dc_ (fun n cs y a hy=>Jt a hy) h;refine⟨l.map (·.1),by rw[R8];exact a,fun s hs=>?_⟩;obtain⟨z,_,rfl⟩:=Ra.1 hs;exact z.2
theorem NE {n:Nat}{a:List Value}{y:DataW H × List MemPlace}(h:DataW.trod enc Tryz.prog W 0 spare held n 31 a=some y):∃ S G l,II (rX W) (.agg ⟨a⟩) S G l/\PlanR S G l:=by
 obtain⟨y0,y1,y2,o,_,d,h0,h1,h2⟩:=Go.Deep.trod_struct3 Tryz.underlying31 h;have g:Tryz.prog.cellsOf 31=12:=by kernel_rfl
 have h4:Tryz.prog.cellsOf 25=4:=by kernel_rfl
 have i:Tryz.prog.cellsOf 28=7:=by kernel_rfl
 have hs:Tryz.prog.cellsOf 29=1:=by kernel_rfl
 rw[g]at d
 match a,d with
|[c0,p,c2,q,r,s,t,u,v,w,x,z],_ =>
  simp only[h4,i,hs]at h0 h1 h2;obtain⟨S,e,j⟩:=Jx h0;obtain⟨G,f,k⟩:=Ex h1;obtain⟨l,b,m⟩:=FX h2;obtain⟨A,c,rfl,_⟩:=id b;simp only[TO,UE]at e;obtain⟨rfl,rfl,rfl,rfl⟩:=e;simp only[PX,TO,UE]at f;obtain⟨rfl,rfl,rfl,rfl,rfl,rfl,rfl⟩:=f;simp only[au]at b⊢;exact⟨S,G,l,⟨A,c,U,b⟩,j,k,m⟩
end
def mr (cs:Array Value):Obj->Obj
|.cells _ t frozen=>.cells cs t frozen
|o=>o
def Ia:Array Value:=(Lib.deBruijn32tab.map fun z:Nat=>Value.int .u8 (z:Int)).toArray
def H9:Array Value:=(Lib.deBruijn64tab.map fun z:Nat=>Value.int .u8 (z:Int)).toArray
def Ed:Array Value:=(Lib.pow10Tab.map fun z=>Value.int .u64 z).toArray
def Gi:ByteArray:=⟨#[118,97,108,117,101,32,111,117,116,32,111,102,32,114,97,110,103,101]⟩
def DL:ByteArray:=⟨#[105,110,118,97,108,105,100,32,115,121,110,116,97,120]⟩
noncomputable def low:Nat:=(World.holding Tryz.prog default ⟨#[],#[],[]⟩).heap.size
noncomputable def qT (os:Os):World :=
 let w0:=World.holding Tryz.prog os ⟨#[.cells #[.string Gi] 416,.cells #[.string DL] 416],#[],[]⟩
 { w0 with heap:=((((w0.heap.modify 4 (mr Ia)).modify 5 (mr H9)).modify 3 (mr Ed)).modify 2 (mr #[.iface 414 (.pointer (some ⟨low,0,none⟩))])).modify 1 (mr #[.iface 414 (.pointer (some ⟨low+1,0,none⟩))]) }
theorem MY {W : World} (h : laidMet Tryz.prog [("math/bits.deBruijn32tab", Rows.laid_math_bits_deBruijn32tab), ("math/bits.deBruijn64tab", Rows.laid_math_bits_deBruijn64tab), ("internal/strconv.uint64pow10", Rows.laid_internal_strconv_uint64pow10), ("strconv.ErrRange", Rows.laid_strconv_ErrRange), ("strconv.ErrSyntax", Rows.laid_strconv_ErrSyntax)] W) : Tabs (rX W) := by
 have h1:=h.tail;have h2:=h1.tail;have b:(Rows.laid_math_bits_deBruijn64tab:DataW Unit)=Lib.tabData .u8 (Lib.deBruijn64tab.map fun z:Nat=>(z:Int)):=by rfl
 rw[b]at h1;have a:=Lib.tabIs_of_head (g:=5) (t:=418) (e:=5) (n:=64) kr_ kr_ Tryz.underlying418 Tryz.underlying5 kr_ kr_ h1;have c:(Rows.laid_internal_strconv_uint64pow10:DataW Unit)=Lib.tabData .u64 Lib.pow10Tab:=by rfl
 rw[c]at h2;have d:=Lib.tabIs_of_head (g:=3) (t:=412) (e:=285) (n:=20) kr_ kr_ Tryz.underlying412 Tryz.underlying285 kr_ kr_ h2;refine⟨VarC.ofWorld d, ?_⟩;unfold Lib.TabIs at a;rw[R8]at a;exact VarC.ofWorld a
theorem Ky:laidOutB Tryz.prog=true:=by kernel_rfl
end Go.Proofs.YtfjcldheldflbaaGreatDoor
namespace Go.Proofs.YtfjcldheldflbaaGreatDoor
open Go.Proofs.Tryz
open Go Go.Jog
set_option maxRecDepth 100000
variable {a b:Int}{fs:List Rat}{h:Bool}{i k:Nat}{k0 k1 k2:Int}{m n:Nat}{p:Pt}{pts:List Pt}{q:Rat}{t:Tri}{w x0 x1 x2 x3 y0 y1 y2 y3 z:Int}{α:Type}{l:List α}
/-! Small parts: numbers of quarters and of halves. -/
theorem Ca (a:w≠0)(h:q*w=z):q=lB z w:=by
 have c:(w:Rat)≠0:=by simpa using a
 unfold lB;rw[Rat.mkRat_eq_div];have b:q=z / w:=by grind
 rw[b];split
 ·rename_i d;have:((w.natAbs:Nat):Int)=-w:=by omega
  rw[show((w.natAbs:Nat):Rat)=(((w.natAbs:Nat):Int):Rat) from rfl,this];simp only[Rat.intCast_neg];grind
 have:((w.natAbs:Nat):Int)=w:=by omega
 rw[show((w.natAbs:Nat):Rat)=(((w.natAbs:Nat):Int):Rat) from rfl,this]
theorem oX (a:w≠0):lB z w*w=z:=by
 have b:(w:Rat)≠0:=by simpa using a
 have h:=Ca (q:=(z:Rat) / w) (z:=z) a (by grind);rw[<- h];grind
theorem qg (a:w≠0)(h:q*w=z)(b:z.natAbs<1000000000)(c:w.natAbs<1000000000):QB 1 q:=by
 rw[Ca a h];exact rt a b c
def iA (x0 y0 x1 y1 x2 y2:Int):Int:=(x1-x0)*(y2-y0)-(y1-y0)*(x2-x0)
def At4 (p:Pt)(x y:Int):Prop:=p.1*4=x/\p.2*4=y
def Qtr (p:Pt):Prop:=∃ x y:Int,At4 p x y/\(-600<=x/\x<=600)/\(-600<=y/\y<=600)
def Hlf (z:Rat):Prop:=∃ k:Int,z*2=k/\(-38<=k/\k<=38)
theorem mW {a b c:Pt}(d:At4 a x0 y0)(e:At4 b x1 y1)(f:At4 c x2 y2):dK a b c*16=(iA x0 y0 x1 y1 x2 y2:Int):=by
 unfold iA dK;simp only[TR,R9];rw[<- d.1,<- d.2,<- e.1,<- e.2,<- f.1,<- f.2];grind
theorem jr {M K:Nat}(c:a.natAbs<=M)(d:b.natAbs<=K):(a*b).natAbs<=M*K:=by
 rw[Sv];exact Su c d
theorem zS (h:(-600<=x0/\x0<=600)/\(-600<=y0/\y0<=600)/\(-600<=x1/\x1<=600)/\(-600<=y1/\y1<=600)/\(-600<=x2/\x2<=600)/\(-600<=y2/\y2<=600)):(iA x0 y0 x1 y1 x2 y2).natAbs<=2880000:=by
 have h1:=jr (a:=x1-x0) (b:=y2-y0) (M:=1200) (K:=1200) om_ om_;have h2:=jr (a:=y1-y0) (b:=x2-x0) (M:=1200) (K:=1200) om_ om_;unfold iA;omega
theorem xk {n d:Rat}{N W:Int}(b:n*16=N)(c:d*16=W)(a:d≠0):W≠0/\n / d*W=N:=by
 constructor
 ·intro h;subst h;exact a (by grind)
 grind
theorem Pb (a:∀ j,Qtr (cor pts t j))(b:dK (cor pts t 0) (cor pts t 1) (cor pts t 2)≠0)(c:Qtr p)(j:Nat):QB 1 (wgt pts t p j):=by
 obtain⟨x0,y0,h0,d,e⟩:=a 0;obtain⟨x1,y1,h1,f,g⟩:=a 1;obtain⟨x2,y2,h2,h,i⟩:=a 2;obtain⟨x3,y3,h3,k,l⟩:=a ((j+1) % 3);obtain⟨m,n,h4,o,q⟩:=a ((j+2) % 3);obtain⟨r,s,h5,u,v⟩:=c;obtain⟨w,x⟩:=xk (mW h5 h3 h4) (mW h0 h1 h2) b;have k1:=zS (x0:=r) (y0:=s) (x1:=x3) (y1:=y3) (x2:=m) (y2:=n) ⟨u,v,k,l,o,q⟩;have k2:=zS (x0:=x0) (y0:=y0) (x1:=x1) (y1:=y1) (x2:=x2) (y2:=y2) ⟨d,e,f,g,h,i⟩;exact qg w x om_ om_
theorem jh {a b c:Pt}{e f g:Rat}(i:At4 a x0 y0)(j:At4 b x1 y1)(k:At4 c x2 y2)(n:e*2=k0)(o:f*2=k1)(p:g*2=k2)(l:dK a b c≠0) :
  iA x0 y0 x1 y1 x2 y2≠0/\(pM a b c e f g).1*(iA x0 y0 x1 y1 x2 y2:Int)=((2*((k1-k0)*(y2-y0)-(y1-y0)*(k2-k0)):Int):Rat)/\(pM a b c e f g).2*(iA x0 y0 x1 y1 x2 y2:Int)=((2*((x1-x0)*(k2-k0)-(k1-k0)*(x2-x0)):Int):Rat):=by
 have m:=mW i j k;have q:eL (b.1-a.1) (b.2-a.2) (c.1-a.1) (c.2-a.2)=dK a b c:=by unfold eL dK;grind
 refine⟨fun h=>l (by rw[h]at m;grind), ?_, ?_⟩
 ·unfold pM;simp only;rw[q,<- m];unfold eL;simp only[TR,R9];rw[<- i.2,<- j.2,<- k.2,<- n,<- o,<- p];generalize dK a b c=d at l;grind
 unfold pM;simp only;rw[q,<- m];unfold eL;simp only[TR,R9];rw[<- i.1,<- j.1,<- k.1,<- n,<- o,<- p];generalize dK a b c=d at l;grind
theorem kr {c d:Int}(h:a.natAbs<=76/\b.natAbs<=1200/\c.natAbs<=1200/\d.natAbs<=76):(a*b-c*d).natAbs<=182400:=by
 have h1:=jr h.1 h.2.1;have h2:=jr h.2.2.1 h.2.2.2;omega
theorem Jp (e:∀ j,Qtr (cor pts t j))(h:dK (cor pts t 0) (cor pts t 1) (cor pts t 2)≠0)(f:∀ j,Hlf (fz fs t j)):QP 1 (dT pts fs t):=by
 obtain⟨x0,y0,h0,i,k⟩:=e 0;obtain⟨x1,y1,h1,l,m⟩:=e 1;obtain⟨x2,y2,h2,n,o⟩:=e 2;obtain⟨k0,p,v⟩:=f 0;obtain⟨k1,q,w⟩:=f 1;obtain⟨k2,r,x⟩:=f 2;obtain⟨g,s,u⟩:=jh h0 h1 h2 p q r h;have y:=zS (x0:=x0) (y0:=y0) (x1:=x1) (y1:=y1) (x2:=x2) (y2:=y2) ⟨i,k,l,m,n,o⟩;have z:=kr (a:=k1-k0) (b:=y2-y0) (c:=y1-y0) (d:=k2-k0) ⟨by omega,by omega,by omega,by omega⟩;have A:=kr (a:=k1-k0) (b:=x2-x0) (c:=x1-x0) (d:=k2-k0) ⟨by omega,by omega,by omega,by omega⟩;unfold dT;exact⟨qg g s om_ om_,qg g u om_ om_⟩
theorem Me (c:At4 (cor pts t 0) x0 y0)(h:At4 (cor pts t 1) x1 y1)(i:At4 (cor pts t 2) x2 y2)(e:At4 p x3 y3)(d:fz fs t 0*2=k0)(j:fz fs t 1*2=k1)(k:fz fs t 2*2=k2)
  (l:dK (cor pts t 0) (cor pts t 1) (cor pts t 2)≠0):onQ pts fs t p*((2*iA x0 y0 x1 y1 x2 y2:Int):Rat)=((k0*iA x0 y0 x1 y1 x2 y2+((k1-k0)*(y2-y0)-(y1-y0)*(k2-k0))*(x3-x0)+((x1-x0)*(k2-k0)-(k1-k0)*(x2-x0))*(y3-y0):Int):Rat):=by
 obtain⟨s,f,g⟩:=jh c h i d j k l;unfold onQ IV;simp only[T1,List.foldl_nil];have a:=f;have b:=g;unfold dT;generalize (pM (cor pts t 0) (cor pts t 1) (cor pts t 2) (fz fs t 0) (fz fs t 1) (fz fs t 2)).1=u at a⊢;generalize (pM (cor pts t 0) (cor pts t 1) (cor pts t 2) (fz fs t 0) (fz fs t 1) (fz fs t 2)).2=v at b⊢;clear f g;generalize ((k1-k0)*(y2-y0)-(y1-y0)*(k2-k0))=n1 at a⊢;generalize ((x1-x0)*(k2-k0)-(k1-k0)*(x2-x0))=n2 at b⊢;generalize iA x0 y0 x1 y1 x2 y2=w at a b⊢;simp only[TR,R9,Rat.intCast_add]at a b⊢;have m:=c.1;have n:=c.2;have o:=e.1;have q:=e.2;generalize fz fs t 0=x at d⊢;rw[<- m,<- n,<- o,<- q,<- d];have r:((2:Int):Rat)=2:=rfl;rw[r]at a b⊢;grind
theorem PO (b:(-600<=x0/\x0<=600)/\(-600<=y0/\y0<=600)/\(-600<=x1/\x1<=600)/\(-600<=y1/\y1<=600)/\(-600<=x2/\x2<=600)/\(-600<=y2/\y2<=600))(g:(-600<=x3/\x3<=600)/\(-600<=y3/\y3<=600))(h:(-38<=k0/\k0<=38)/\(-38<=k1/\k1<=38)/\(-38<=k2/\k2<=38)) :
  (k0*iA x0 y0 x1 y1 x2 y2+((k1-k0)*(y2-y0)-(y1-y0)*(k2-k0))*(x3-x0)+((x1-x0)*(k2-k0)-(k1-k0)*(x2-x0))*(y3-y0)).natAbs<=600000000:=by
 have e:=zS b;have f:=kr (a:=k1-k0) (b:=y2-y0) (c:=y1-y0) (d:=k2-k0) ⟨by omega,by omega,by omega,by omega⟩;have i:=kr (a:=k1-k0) (b:=x2-x0) (c:=x1-x0) (d:=k2-k0) ⟨by omega,by omega,by omega,by omega⟩;have j:=jr (show k0.natAbs<=38 by omega) e;have k:=jr f (show(x3-x0).natAbs<=1200 by omega);have l:=jr (show((x1-x0)*(k2-k0)-(k1-k0)*(x2-x0)).natAbs<=182400 by omega) (show(y3-y0).natAbs<=1200 by omega);omega
theorem QR (a:∀ j,Qtr (cor pts t j))(c:dK (cor pts t 0) (cor pts t 1) (cor pts t 2)≠0)(b:∀ j,Hlf (fz fs t j))(n:Qtr p):QB 1 (onQ pts fs t p):=by
 obtain⟨x0,y0,h0,d,e⟩:=a 0;obtain⟨x1,y1,h1,f,g⟩:=a 1;obtain⟨x2,y2,h2,h,i⟩:=a 2;obtain⟨x3,y3,h3,o⟩:=n;obtain⟨k0,k,q⟩:=b 0;obtain⟨k1,l,r⟩:=b 1;obtain⟨k2,m,s⟩:=b 2;have u:=(jh h0 h1 h2 k l m c).1;have v:=zS (x0:=x0) (y0:=y0) (x1:=x1) (y1:=y1) (x2:=x2) (y2:=y2) ⟨d,e,f,g,h,i⟩;have w:=PO ⟨d,e,f,g,h,i⟩ o ⟨q,r,s⟩;exact qg om_ (Me h0 h1 h2 h3 k l m c) om_ om_
theorem CW (a:w=1∨w=2∨w=4)(e:-150<=z/\z<=150):∃ x:Int,lB z w*4=x/\(-600<=x/\x<=600):=by
 have h:=oX (z:=z) (w:=w) om_;have b:((1:Int):Rat)=1:=rfl;have c:((2:Int):Rat)=2:=rfl;have d:((4:Int):Rat)=4:=rfl;rcases a with rfl|rfl|rfl
 ·refine⟨4*z, ?_,by omega⟩;rw[R9,<- h,b,d];grind
 ·refine⟨2*z, ?_,by omega⟩;rw[R9,<- h,c];grind
 exact⟨z,h,by omega⟩
theorem xw {x y n:Int}(c:n=1∨n=2)(k:-128<=x/\x<=127)(l:-128<=y/\y<=127):Qtr (dG a b h x y n):=by
 have m:=zh a;have o:=zh b;have hh:dX h=1∨dX h=2:=by cases h <;> simp[dX]
 have d:dX h*n=1∨dX h*n=2∨dX h*n=4:=by rcases hh with e|e <;> rcases c with f|f <;> rw[e,f] <;> omega
 obtain⟨u,g,i⟩:=CW (z:=x+a.tmod 8*n) d (by rcases c with f|f <;> subst f <;> omega);obtain⟨v,j,bv⟩:=CW (z:=y+b.tmod 8*n) d (by rcases c with f|f <;> subst f <;> omega);exact⟨u,v,⟨g,j⟩,i,bv⟩
theorem Ce :∀ p∈cH m a b h,Qtr p:=by
 intro p c;obtain⟨x,d,rfl⟩:=Ra.1 c;have:=LQ m x d;exact xw (.inl U) om_ om_
theorem Bm:Qtr (0,0):=⟨0,0,⟨by decide +kernel,by decide +kernel⟩,by decide,by decide⟩
theorem oV {P:α->Prop}{d:α}(h:∀ x∈l,P x)(a:P d):P (l.getD i d):=by
 rw[am];cases h1:l[i]? with
|none=>exact a
|some x=>exact h x (aM h1)
theorem vz (j:Nat):Qtr (cor (cH m a b h) t j):=oV Ce Bm
theorem Oc (n:Nat)(H:Hts):∀ q∈fsK n H,Hlf q:=by
 intro q a;obtain⟨i,_,rfl⟩:=Ra.1 a;have b:=FD ((IZ H).getD (i % 6) 0);generalize ((IZ H).getD (i % 6) 0).tmod 20=z at b⊢;have c:((1:Int):Rat)=1:=rfl;have d:((2:Int):Rat)=2:=rfl;rcases vc H.half with e|e
 ·have h:=oX (z:=z) (w:=1) dc_;rw[e];refine⟨2*z, ?_,by omega⟩;rw[R9,<- h,c,d];grind
 rw[e];exact⟨z,oX dc_,by omega⟩
theorem ub:Hlf 0:=⟨0,by decide +kernel,by decide⟩
theorem NL:Hlf 1:=⟨2,by decide +kernel,by decide⟩
theorem Mo {H:Hts}(j:Nat):Hlf (fz (fsK n H) t j):=oV (Oc n H) ub
theorem Bz (j:Nat):Hlf (fz (oA n k) t j):=oV (fun q a=>by
 rcases BA q a with rfl|rfl
 ·exact ub
 exact NL) ub
theorem Ci (S:Sht)(s:Sgt)(a:SgtR s):Qtr (lX S s):=by
 unfold lX;split
 ·exact xw (.inr U) a.px a.py
 exact oV Ce Bm
theorem uu {P:Rat->Prop}{m:List (Nat × Rat)}(a:P 0)(h:∀ x∈m,P x.2):∀ q∈sH n m,P q:=by
 intro q b;obtain⟨j,_,rfl⟩:=Ra.1 b;cases h1:dZ m j with
|none=>exact a
|some v =>
  exact h _ (gv h1)
theorem pZ {s p:Nat}{a:List (Nat × Rat)}{b c:Rat}(e:∀ x∈a,QB 1 x.2)(f:QB 3 b)(d:QB 1 c):OW (ii s p k a b c):=by
 refine⟨uu (QB_zero.le dc_) ?_,(jG d f).le dc_⟩;intro x g;obtain⟨y,hy,rfl⟩:=Ra.1 g;exact(jG d (e y hy)).le dc_
theorem JG {B:Bk}{o:Obs}{z:Rat}(c:∀ j,QB 1 (wgt B.pts t p j))(a:∀ j,QP 1 (slf B.pts t j))(d:QB 3 (lG o z))(f:o.kind≠1->o.kind≠2->QB 3 (rq o)/\QB 3 (jq o)):∀ r∈rowsO B o p t z,OW r:=by
 have e:∀ x∈atT t (wgt B.pts t p),QB 1 x.2:=gA (c 0) (c 1) (c 2);have g:∀ x∈atT t (fun j=>(slf B.pts t j).1),QB 1 x.2:=gA (a 0).1 (a 1).1 (a 2).1;have i:∀ x∈atT t (fun j=>(slf B.pts t j).2),QB 1 x.2:=gA (a 0).2 (a 1).2 (a 2).2;intro r hr;unfold rowsO at hr;split at hr
 ·rcases Rr.1 hr with h|h
  ·split at h
   ·rw[Rw.1 h];exact pZ e d QB_one
   simp at h
  split at h
  ·rw[Rw.1 h];exact pZ e d nG
  simp at h
 rename_i h1;split at hr
 ·obtain⟨k,_,h⟩:=List.mem_flatMap.1 hr;obtain⟨sg,b,rfl⟩:=Ra.1 h;exact pZ e d (sx sg b)
 rename_i h2;obtain⟨l,m⟩:=f h1 h2;obtain⟨k,_,h⟩:=List.mem_flatMap.1 hr;rcases Rr.1 h with h|h
 ·obtain⟨sg,b,rfl⟩:=Ra.1 h;exact pZ g l (sx sg b)
 obtain⟨sg,b,rfl⟩:=Ra.1 h;exact pZ i m (sx sg b)
def tiK (S:Sht)(s:Sgt):Nat:=(lf (cH (S.kd % 8) S.a S.b S.h) (shT (S.kd % 8)) (lX S s)).headD 0
def tK (S:Sht)(s:Sgt):Tri:=(shT (S.kd % 8)).getD (tiK S s) (0,0,0)
def zK (S:Sht)(H:Hts)(s:Sgt):Rat:=onQ (cH (S.kd % 8) S.a S.b S.h) (fsK (cH (S.kd % 8) S.a S.b S.h).length H) (tK S s) (lX S s)
noncomputable def roK (S:Sht)(H:Hts)(l:List Sgt)(i:Nat):List RowQ:=rowsO (eF S H l) (fQ S (l.getD i Ej) i) (lX S (l.getD i Ej)) (tK S (l.getD i Ej)) (zK S H (l.getD i Ej))
theorem NP (S:Sht)(s:Sgt)(i:Nat)(b:SgtR s):ObsAt (fQ S s i) (lX S s):=by
 have a:=(uD S s b).1;refine⟨?_, ?_,(Gm a).1,(Gm a).2, ?_⟩
 ·unfold fQ;split
  ·rfl
  split <;> rfl
 ·unfold fQ;split
  ·rfl
  split <;> rfl
 unfold fQ;split
 ·intro h;exact absurd (show(1:Int)=2 from h) dc_
 split
 ·intro _;exact ok1 (tH s.depth)
 intro h;exact absurd (show(3:Int)=2 from h) dc_
theorem NO (S:Sht)(s:Sgt)(i:Nat):0<=kg (isU (fQ S s i).upper) colK 0:=by
 have c:=N0 s;have d:=MT s;have a:=qV (s.u1 % 3) om_;have b:=qV (max (loU s) (upU s)) om_;unfold fQ;split
 ·simp only;rw[a];omega
 split <;> (simp only;rw[b];omega)
theorem GQ (S:Sht)(s:Sgt)(i:Nat):(fQ S s i).kind≠1->(fQ S s i).kind≠2->(aS (fQ S s i).nx=true/\aS (fQ S s i).ny=true/\aS (fQ S s i).nz=true)/\QB 1 (dm (fQ S s i).nx)/\QB 1 (dm (fQ S s i).ny)/\QB 1 (dm (fQ S s i).nz)/\dm (fQ S s i).nz≠0:=by
 have h0:=oB s.n0;have h1:=oB s.n1;have h2:=oT s.n2;have a:=eg (s.n0.tmod 5) om_;have l1:=eg (s.n1.tmod 5) om_;have l2:=eg (fq s.n2) om_;have b:=uU s.n2;unfold fQ;split
 ·intro h;exact absurd rfl h
 split
 ·intro _ h;exact absurd rfl h
 intro _ _;simp only;rw[cT (ok1 a),cT (ok1 l1),cT (ok1 l2)];exact⟨⟨ok1 a,ok1 l1,ok1 l2⟩,a,l1,l2,by simpa using b⟩
theorem CC (S:Sht)(s:Sgt)(i:Nat):(fQ S s i).kind=2->(fQ S s i).depth=qtx (lB ((s.depth % 12:Nat):Int) 2):=by
 unfold fQ;split
 ·intro h;exact absurd (show(1:Int)=2 from h) dc_
 split
 ·intro _;rfl
 intro h;exact absurd (show(3:Int)=2 from h) dc_
theorem Kd (S:Sht)(s:Sgt)(i:Nat){z:Rat}(a:QB 1 z):QB 3 (lG (fQ S s i) z):=by
 unfold lG;split
 ·rename_i h;rw[CC S s i h,cT (ok1 (tH s.depth))];have h:=ft a (tH s.depth);exact h.le dc_
 exact a.le dc_
theorem GR (S:Sht)(s:Sgt)(i:Nat)(b:(fQ S s i).kind≠1)(c:(fQ S s i).kind≠2):QB 3 (rq (fQ S s i))/\QB 3 (jq (fQ S s i)):=by
 obtain⟨_,d,l1,l2,a⟩:=GQ S s i b c;exact⟨(jH (eP d) l2 a).le dc_,(jH (eP l1) l2 a).le dc_⟩
theorem locK (S:Sht)(s:Sgt)(c:SgtR s):(∃ r,lf (cH (S.kd % 8) S.a S.b S.h) (shT (S.kd % 8)) (lX S s)=tiK S s::r)/\(shT (S.kd % 8))[tiK S s]?=some (tK S s):=by
 have d:=(uD S s c).2;unfold tK tiK;cases h:lf (cH (S.kd % 8) S.a S.b S.h) (shT (S.kd % 8)) (lX S s) with
|nil=>exact absurd h d
|cons i r =>
  have hm:i∈lf (cH (S.kd % 8) S.a S.b S.h) (shT (S.kd % 8)) (lX S s):=by rw[h];exact Q9
  unfold lf at hm;have e:=Rv.1 (SH.1 hm).1;refine⟨⟨r,U⟩, ?_⟩;simp only[List.headD_cons];rw[am,ai e];rfl
theorem QY (S:Sht)(H:Hts)(l:List Sgt)(s:Sgt)(i:Nat)(c:SgtR s) :
  Fine (eF S H l) (fsK (cH (S.kd % 8) S.a S.b S.h).length H) (fQ S s i) (lX S s) (tiK S s) (tK S s) (zK S H s):=by
 obtain⟨n,_⟩:=gK (S.kd % 8) (RU _ dc_) S.a S.b S.h;obtain⟨⟨r,hr⟩,f⟩:=locK S s c;have d:=kh n.ok (aM f);have g:=Ci S s c;have k:∀ j,QB 1 (wgt (cH (S.kd % 8) S.a S.b S.h) (tK S s) (lX S s) j):=Pb (fun j=>vz j) d g;have m:∀ j,QP 1 (slf (cH (S.kd % 8) S.a S.b S.h) (tK S s) j):=fun j=>Jp (fun j=>vz j) d (fun j=>Bz j);have e:QB 1 (zK S H s):=QR (fun j=>vz j) d (fun j=>Mo j) g;have hh:=Kd S s i e;refine⟨NP S s i c,⟨r,hr⟩,f, ?_,e.le dc_,hh.le dc_,fun j=>(k j).le dc_,NO S s i,fun j=>(m j).le dc_, ?_, ?_⟩
 ·show Fb (cH (S.kd % 8) S.a S.b S.h) (shT (S.kd % 8)) _ _=_;unfold Fb;rw[hr];show Ei (zK S H s)=_;unfold Ei;rw[aJ (ok1 e)]
 ·intro h1 h2;obtain⟨h0,o,l1,l2,p⟩:=GQ S s i h1 h2;exact⟨h0,o.le dc_,l1.le dc_,l2.le dc_,p⟩
 exact JG k m hh (GR S s i)
theorem EX (S:Sht)(H:Hts)(l:List Sgt)(c:∀ s∈l,SgtR s):Rich (eF S H l) (fsK (cH (S.kd % 8) S.a S.b S.h).length H) (roK S H l):=by
 refine⟨(gK (S.kd % 8) (RU _ dc_) S.a S.b S.h).1,OE S H l c,EW S H l c,⟨U,vh _ _,fun q e=>(HK _ H q e).le dc_⟩, ?_, ?_⟩
 ·have:=(Lh S H l).2;rw[Lg];omega
 intro i o f;obtain⟨g,s,d,rfl⟩:=mV f;refine⟨_,_,_,_,QY S H l s i (c s (aM d)), ?_⟩;unfold roK;rw[am,d];rfl
theorem Ee (x y:Nat)(a:x<18446744073709551616)(b:y<18446744073709551616)(C:Mem):Gives cx.P 128 [.int .u64 x,.int .u64 y] C (.tuple #[.int .u64 ((x*y / 18446744073709551616:Nat):Int),.int .u64 ((x*y % 18446744073709551616:Nat):Int)]) :=
 Gives.ofCalls kr_ (fun w=>Any.bits_Mul Tryz.mul x y a b w) C
theorem Gu {a:Value}{b:List Value}(_d:k+m<=n)(c:m<=k)(_e:b.length=n-k) :
  aE (List.replicate k a++b) ((List.replicate k a++b).take m) k=List.replicate (k+m) a++b.drop m:=by
 have h1:(List.replicate k a++b).take m=List.replicate m a:=by
  rw[List.take_append_of_le_length (by simpa using c),List.take_replicate,Sa c]
 have h2:(List.replicate k a++b).take k=List.replicate k a:=by
  rw[List.take_append_of_le_length ak,List.take_replicate,Nat.min_self]
 have h3:(List.replicate k a++b).drop (k+m)=b.drop m:=by
  rw[TX,RI,S2 ak,Ti];congr 1;omega
 unfold aE;rw[h1,h2,RI,h3,List.replicate_append_replicate]
theorem Gq (a:Value)(n:Nat):kR [a] n=List.replicate n a:=by
 rw[fe];induction n with
|zero=>rfl
|succ n b=>rw[Sd,Si,b,Sd];rfl
theorem J2 (n:Nat)(a:n<18446744073709551616)(C:Mem):Gives cx.P 128 [.int .u64 (1:Int),.int .u64 n] C (.tuple #[.int .u64 0,.int .u64 n]):=by
 have h:=Ee 1 n om_ a C;have b:1*n / 18446744073709551616=0:=by omega
 have c:1*n % 18446744073709551616=n:=by omega
 rw[b,c]at h;exact h
theorem Eb (C:Mem)(v:Value)(n:Nat)(s:Str)(g:Sl C 1 v [[af s]])(y:n<=1000000):Jog.Fn cx.P 64 [v,i_ n] C [] fun u _z e=>∃ b,u=s_ b n n/\e=[.arr u 32 1 n (List.replicate n (af s))]:=by
 have p:=g;obtain⟨A,c,rfl,_⟩:=p;refine UU func64 48 U3 fun w0=>UM 1 [0,1] U<|UM 2 [0,1,10] U<|G.cd (fun h=>?_) fun h=>?_
 ·simp at h;omega
 refine UN 2 U fun R d=>Vz (c:=1) U8 U fl_<|UP U6<|Vz (c:=(n:Int)) U8 g_ fl_<|UY (J2 n om_ _) U7 fl_<|C6 5 [0,5,6] d U<|UN 5 U fun R d=>Vq U8<|US [0,6,26] d U<|G.cd (fun i=>?_) fun i=>?_
 ·simp at i;omega
 refine UN 1 U fun R d=>Vz (c:=(n:Int)) U8 f_ fl_<|VQ U9 (Q7 _) (by show 16*n<=281474976710656;omega) y_ fl_ fun a=>C6 1 [0,7] d U<|UN 2 U fun R d=>Wp (j:=0) (q:=min 1 n) U12 g U2 (by rw[cW];show 0+min 1 n*1<=n*1;omega) fl_<|C6 1 [7,8] d U ?_;have r:aE (kR [af []] n) (([[af s]]:List (List Value)).take (min 1 n)).flatten 0=List.replicate (min 1 n) (af s)++List.replicate (n-min 1 n) (af []):=by
  rw[Gq];cases n with
 |zero=>rfl
 |succ n=>rw[show min 1 (n+1)=1 by omega,Sd];rfl
 refine Vc (L':=[.arr (s_ a n n) 32 1 n (List.replicate (min 1 n) (af s)++List.replicate (n-min 1 n) (af []))]) (by rw[<- r];rfl)<|G.loop (fun fr B e t=>∃ (k:Nat),(k<=n/\min 1 n<=k)/\fr=[(7,[],s_ a n n),(8,[],i_ k)]/\e=[.arr (s_ a n n) 32 1 n (List.replicate k (af s)++List.replicate (n-k) (af []))]/\t=n-k) (hn_ [7,8] U) ⟨min 1 n,⟨Nat.min_le_right _ _,Q7 _⟩,U,U,U⟩ (fun fr D E m w x=>?_);obtain⟨k,⟨l,F⟩,rfl,rfl,rfl⟩:=x;refine UM 4 [7,8,37] U<|G.cd (fun f=>?_) fun f=>?_
 ·simp only[Rj]at f;have o:k<n:=by omega
  have H:1<=k:=by omega
  refine Vg [0,1,2,3,4,5,6,7,8,9] [] U kr_ fun R I d=>UR 3 U<|VH k n n U12 (fun _=>⟨.inr ⟨_,U⟩,.inl ⟨U,U⟩,.inl ⟨U,U⟩,l,Q7 _,Q7 _⟩) U2<|UR 2 U<|VH 0 k n U12 (fun _=>⟨.inl ⟨U,U⟩,.inr ⟨_,U⟩,.inl ⟨U,U⟩,Re _,l,Q7 _⟩) U2 ?_;refine Wo (j:=0) (off:=k) (g0:=a) (dl:=n-k) (dc:=n-k) (sl:=k-0) (sc:=n-0) (q:=min k (n-k)) U8 (by show some (Value.slice (if n=k then some (⟨a,0,none⟩:Addr) else (some (⟨a,0,none⟩:Addr)).map (·.add (k*1))) (n-k) (n-k))=_;rw[aF om_];simp[Addr.add_lit]) (by show some (Value.slice (if n=0 then some (⟨a,0,none⟩:Addr) else (some (⟨a,0,none⟩:Addr)).map (·.add (0*1))) (k-0) (n-0))=_;split <;> simp[Addr.add_lit]) U2 (by simp[lF,af]) ap fl_ ?_;refine Vt (((k+min k (n-k):Nat):Int)) U4 om_ om_ om_ U2<|C6 1 [7,8] d U<|Vc (L':=[.arr (s_ a n n) 32 1 n (List.replicate (k+min k (n-k)) (af s)++List.replicate (n-(k+min k (n-k))) (af []))]) (by rw[Gu (n:=n) om_ (Nat.min_le_left _ _) ak,List.drop_replicate,Nat.sub_sub];rfl)<|U0 (m':=n-(k+min k (n-k))) om_ w (hn_ [7,8] U) ⟨k+min k (n-k),⟨by omega,by omega⟩,U,U,U⟩
 simp only[RJ]at f;have o:k=n:=by omega
 subst o;refine UM 2 [4] U<|U1 (Vx U U ?_);exact⟨a,U,by simp⟩
theorem gN (C:Mem)(n:Nat)(a:n<=1000000):Jog.Fn cx.P 99 [i_ n] C [] fun u _g c=>∃ b,u=s_ b n n/\c=[.arr u 32 1 n (List.replicate n (af [48]))]:=by
 refine UU func99 6 U3 fun w0=>UM 1 [0] U<|Vl [(2,3)] U fun R d=>Vj [[af [48]]] U12 fun h _ _ e=>UP U6<|D.call (Eb _ _ n [48] e.m_ a) U (.inr dc_) U6 (Rh _) fl_ fun i _ j _ f=>C6 1 [2] d U ?_;obtain⟨b,rfl,rfl⟩:=f;refine U1 (Vx U U ?_);exact⟨b,U,U⟩
theorem ep {f:α->List Value}{x:α}(h:l[i]?=some x):(l.map f)[i]?=some (f x):=by rw[Rb,h];rfl
def gb (s:Str):List Value:=[af s]
def aQ (q:Rat):List Value:=[af (qtx q)]
theorem fj (l:List Rat):l.map aQ=(l.map qtx).map gb:=by rw[R8];rfl
def J3 {α:Type}(p:α->Bool):List α->Nat->Int
|[],_=>-1
|x::l,k=>if p x then (k:Nat) else J3 p l (k+1)
theorem uH {a:Type}{p:a->Bool}:∀ {l:List a}{i k:Nat}{x:a},l[i]?=some x->p x=true->(∀ y∈l.take i,p y=false)->J3 p l k=((k+i:Nat):Int)
|y::l,0,k,x,h,b,_=>by
  simp only[List.getElem?_cons_zero,RW]at h;subst h;simp[J3,b]
|y::l,i+1,k,x,h,b,c=>by
  simp only[SV]at h;have hy:p y=false:=c y ak;have:=uH (k:=k+1) h b (fun z d=>c z (by simp[d]));simp only[J3,hy,R7,SF,this];omega
theorem qu {a:Type}{p:a->Bool}:∀ {l:List a}{k:Nat},(∀ y∈l,p y=false)->J3 p l k=-1
|[],_,_=>rfl
|y::l,k,h=>by
  simp only[J3,h y Q9,R7,SF];exact qu fun z b=>h z (Rm _ b)
theorem Ef (p:α->Bool)(l:List α):(J3 p l 0=-1/\∀ y∈l,p y=false)∨∃ (i:Nat)(x:α),J3 p l 0=(i:Nat)/\l[i]?=some x/\p x=true/\∀ y∈l.take i,p y=false:=by
 by_cases h:∀ y∈l,p y=false
 ·exact .inl ⟨qu h,h⟩
 right;have d:∀ (l:List α),(¬ ∀ y∈l,p y=false)->∃ (i:Nat)(x:α),l[i]?=some x/\p x=true/\∀ y∈l.take i,p y=false:=by
  intro l;induction l with
 |nil=>intro h;exact absurd (fun y hy=>(by cases hy)) h
 |cons a l e =>
   intro h;by_cases b:p a=true
   ·exact⟨0,a,U,b,by simp⟩
   have c:p a=false:=by simpa using b
   obtain⟨i,x,h1,h2,h3⟩:=e (fun h2=>h (fun y hy=>by
    rcases Rp.1 hy with rfl|hy
    ·exact c
    exact h2 y hy))
   refine⟨i+1,x,by simpa using h1,h2,fun y hy=>?_⟩;rw[List.take_succ_cons]at hy;rcases Rp.1 hy with rfl|hy
   ·exact c
   exact h3 y hy
 obtain⟨i,x,h1,h2,h3⟩:=d l h;exact⟨i,x,by rw[uH h1 h2 h3,SD],h1,h2,h3⟩
theorem GA (C:Mem)(v:Value)(l:List Str)(g:Nat)(d:List Value)(a:Str->Bool)(e:Sl C 1 v (l.map gb))(_A:Jog.Enters cx.P g=true)
  (n:∀ x∈l,∀ D:Mem,C.le D->Gives cx.P g (af x::d) D (.bool (a x))) :
  Gives cx.P 91 [v,.func (.func g) #[] ⟨d⟩] C (i_ (J3 a l 0)):=by
 obtain⟨o,c0,rfl,p,B,_⟩:=id e;have E:=mx_
 simp only[au]at e p⊢;refine UU func91 19 U3 fun w0=>UM 1 [0,1] U<|UM 3 [0,1,7,8] U<|G.loop (fun fr F q r=>∃ (i:Nat),(i<=l.length/\∀ y∈l.take i,a y=false)/\fr=[(0,[],.slice o l.length c0),(1,[],.func (.func g) #[] ⟨d⟩),(7,[],i_ l.length),(8,[],i_ i)]/\q=[]/\r=l.length-i) (hn_ [0,1,7,8] U) ⟨0,⟨Re _,by simp⟩,U,U,U⟩ (fun fr H I m s t=>?_);obtain⟨i,⟨J,b⟩,rfl,rfl,rfl⟩:=t;refine UM 1 [0,1,7,8,9] U<|G.cd (fun f=>?_) fun f=>?_
 ·have h:i<l.length:=by simpa using f
  obtain⟨x,c⟩:∃ x,l[i]?=some x:=⟨l[i],ai h⟩;refine UM 2 [0,1,5,7,8] U<|UN 3 U fun R j=>Va e.m_ U10 om_ (ep c) fl_ fun K u=>UO u U8<|UZ (n x (aM c) _ mup) U7<|US [0,1,5,7,8,16] j U<|G.cd (fun k=>?_) fun k=>?_
  ·have w:a x=true:=k;exact UM 2 [4] U<|UT U2<|⟨by rw[uH c w b,SD],U⟩
  have z:a x=false:=k;refine UQ fun R j=>UV _ U U6<|C6 1 [0,1,7,8] j U<|U0 (m':=l.length-(i+1)) om_ s (hn_ [0,1,7,8] U) ⟨i+1,⟨by omega,fun y hy=>by
   rw[RE,c]at hy;rcases Rr.1 hy with hy|hy
   ·exact b y hy
   simp only[SB,Rw]at hy;subst hy;exact z⟩,U,U,U⟩
 have h:i=l.length:=by
  have:¬ i<l.length:=by simpa using f
  omega
 exact UM 1 [4] U<|UT U2<|⟨by rw[h,Rk]at b;rw[qu b],U⟩
theorem qB (C:Mem)(v:Value)(l:List Str)(g:Nat)(b:List Value)(a:Str->Bool)(c:Sl C 1 v (l.map gb))(d:Jog.Enters cx.P g=true)
  (e:∀ x∈l,∀ D:Mem,C.le D->Gives cx.P g (af x::b) D (.bool (a x))) :
  Gives cx.P 33 [v,.func (.func g) #[] ⟨b⟩] C (.bool (l.any a)):=by
 refine UU func33 9 U3 fun w0=>UM 1 [0,1] U<|UN 2 U fun R f=>UZ (GA _ v l g b a c.m_ d (fun x h D j=>e x h D (Mem.le.trans mup j))) U7<|C6 2 [4] f U<|UT U2<|⟨?_,U⟩;congr 1;rcases Ef a l with⟨h1,h2⟩|⟨i,x,h1,h2,h3,_⟩
 ·rw[h1,List.any_eq_false.2 (fun y hy=>by rw[h2 y hy];decide)];rfl
 rw[h1,Tr.2 ⟨x,aM h2,h3⟩];exact Rt om_
theorem qi (C:Mem)(a:Tabs C)(s:Str)(b:s.length<=999998):Gives cx.P 102 [af s] C (.bool (!aS s)):=by
 refine UU func102 6 U3 fun w0=>UM 1 [0] U<|UN 1 U fun R c=>UZ (dD _ a.m_ s b) U7<|C6 2 [2] c U<|UT U2 ?_;exact⟨by cases aS s <;> rfl,U⟩
def dV (n:Int)(l:List Str):Int:=if (l.length:Int)=n then oG (l.all aS) else 5
theorem oP (C:Mem)(e:Tabs C)(v:Value)(n:Int)(l:List Str)(a:Sl C 1 v (l.map gb))(b:∀ s∈l,s.length<=999998):Gives cx.P 135 [v,i_ n] C (i_ (dV n l)):=by
 obtain⟨o,c0,rfl,f,p,_⟩:=id a;have q:=mx_
 simp only[au]at a f⊢;refine UU func135 13 U3 fun w0=>UM 1 [0,1] U<|UM 5 [0,5] U<|G.cd (fun h5=>?_) fun h5=>?_
 ·have g:¬ (l.length:Int)=n:=by simpa using h5
  exact UM 1 [4] U<|UT U2<|⟨by unfold dV;rw[aF g],U⟩
 have d:(l.length:Int)=n:=by simpa using h5
 refine UN 1 U fun R h=>UZ (qB _ _ l _ [] (fun s=>!aS s) a.m_ U (fun s i D j=>qi D (e.mono (Mem.le.trans mup j)) s (b s i))) U7<|C6 1 [10] h U<|G.cd (fun c=>?_) fun c=>?_
 ·have k:l.all aS=false:=by
   obtain⟨s,h1,h2⟩:=Tr.1 (show(l.any fun s=>!aS s)=true from c);exact TA.2 ⟨s,h1,by simpa using h2⟩
  exact UM 1 [4] U<|UT U2<|⟨by unfold dV;rw[aJ d,k];rfl,U⟩
 have m:l.all aS=true:=by
  have h1:=List.any_eq_false.1 (show(l.any fun s=>!aS s)=false from c);exact Ru.2 fun s b=>by simpa using h1 s b
 exact UM 1 [4] U<|UT U2<|⟨by unfold dV;rw[aJ d,m];rfl,U⟩
end Go.Proofs.YtfjcldheldflbaaGreatDoor
