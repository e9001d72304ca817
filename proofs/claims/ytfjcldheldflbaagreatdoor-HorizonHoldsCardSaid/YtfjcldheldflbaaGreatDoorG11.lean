/- Laws that the proofs of this seat share, part 11. -/
import Derived.Test.YtfjcldheldflbaaGreatDoorG10
import Derived.Test.YtfjcldheldflbaaGreatDoorShelf
import Derived.Test.YtfjcldheldflbaaGreatDoorCards
import Derived.Test.YtfjcldheldflbaaGreatDoorTie
import Derived.Stop.LaidErr
import Derived.Lib.LaidTab
import Derived.Carry
import Derived.Deep.Strs
import Derived.Laws.IdiomArrays
set_option maxHeartbeats 4000000
namespace Go.Proofs.YtfjcldheldflbaaGreatDoor
open Go.Proofs.Tryz
open Go Go.Jog
set_option maxRecDepth 100000
variable {i j:Nat}{l:List Str}{n:Int}{q:Rat}{s u x y:Str}{z:Int}
def FieldsIn (C:Mem)(v:Value)(ls:List (List Str)):Prop:=∃ vs:List Value,vs.length=ls.length/\(∀ (i:Nat)(w:Value)(l:List Str),vs[i]?=some w->ls[i]?=some l->Sl C 1 w (l.map ef))/\Sl C 1 v (vs.map fun w=>[w])
theorem FieldsIn.mono {C D:Mem}{v:Value}{a:List (List Str)}(h:FieldsIn C v a)(b:C.le D):FieldsIn D v a:=by
 obtain⟨vs,h1,h2,h3⟩:=h;exact⟨vs,h1,fun i w l h4 h5=>(h2 i w l h4 h5).mono b,h3.mono b⟩
theorem FieldsIn.m_ {C D:Mem}{v:Value}{a:List (List Str)}(h:FieldsIn C v a)(b:C.le D:=by exact mup):FieldsIn D v a:=FieldsIn.mono h b
def pB (s p:Nat)(ls:List (List Str)):Int:=if ls.length=s then cm (fun j=>nj p (ls.getD j [])) ls.length else 5
theorem CY {p:Nat}(h:nj p l=0):l.length=p:=by
 unfold nj at h;split at h
 ·assumption
 cases h
theorem CZ {p:Nat}:∀ {ls:List (List Str)},(∀ l∈ls,l.length=p)->ls.flatten.length=p*ls.length
|[],_=>by simp
|l::ls,h=>by rw[SH,Ru,h l Rq,CZ fun x a=>h x (RB _ a),RH,Nat.mul_succ,TB]
theorem HY {b:Type}{a:List (List b)}{l:List b}(h:a[j]?=some l):(a.take (j+1)).flatten=(a.take j).flatten++l:=by
 rw[RR,h,R4];simp
theorem FC (C:Mem)(S:Tabs C)(H v:Value)(B:Bk)(s:Nat)(a:List (List Str))(T:BookIn C H B)(I:Good B.pts B.tris)(V:FieldsIn C v a)(W:∀ l∈a,∀ x∈l,x.length<=999998)(hl:a.length<=1000) :
  Pur cx.P 150 [gk s (bp B),H,v] C fun u D=>∃ w,u=.tuple #[w,i_ (pB s (bp B) a)]/\Sl D 1 w ((if pB s (bp B) a=0 then a.flatten else []).map ef):=by
 obtain⟨vs,J,X,q⟩:=V;have al:=I.ok.lp;obtain⟨K,L,tv,cv,ov,rfl,h1,h2,h3,h4,h5⟩:=id T.ex;have hm:MeshIn C (.agg ⟨[K,L]⟩) B.pts B.tris:=⟨K,L,rfl,h1,h2⟩;obtain⟨Y,c0,rfl,Z,an,_⟩:=id q;have ao:=mx_
 simp only[au,J]at q Z⊢;refine Vi func150 35 U3 fun w0=>Vd fun R b=>Vs U6 fun b3=>Vs U6 fun b4=>C6 2 [2,3,4] b U<|G.freeze 1 U fun _ _ aa=>G.freeze 0 U fun _ _ ab=>Va 3 U fun R b=>Vb (bkT aa 1) U8<|C6 1 [2,4,16] b U<|G.cd (fun g=>?_) fun g=>?_
 ·have ac:a.length≠s:=by
   intro e;rw[e]at g;simp at g
  have c:pB s (bp B) a=5:=by unfold pB;rw[aF ac]
  refine U1 2 [6,7] U<|Vo (G.dropAll (VA U3 ?_));exact⟨U,.slice none 0 0,by rw[c],by rw[c];exact Sl.nil _ _⟩
 have M:a.length=s:=by
  have h:((a.length:Nat):Int)=(s:Nat):=by simpa using g
  omega
 refine U1 1 [2,4,8] U<|U1 3 [4,8,17,18,19] U<|G.nilArr 32 1<|G.loop (fun fr C' N μ=>∃ (j:Nat)(w:Value),(j<=a.length/\cm (fun j=>nj (bp B) (a.getD j [])) j=0)/\fr=[(4,[],p_ b4),(8,[],w),(17,[],.slice Y a.length c0),(18,[],i_ a.length),(19,[],i_ j)]/\N=[.arr w 32 1 (a.take j).flatten.length ((a.take j).flatten.map ef).flatten]/\μ=a.length-j) (hn_ [4,8,17,18,19] U) ⟨0,_,⟨Rv _,U⟩,U,U,U⟩ (fun fr ap aq m _ hI=>?_);obtain⟨j,w,⟨hj,k⟩,rfl,rfl,rfl⟩:=hI;refine U1 1 [4,8,17,18,19,20] U<|G.cd (fun t=>?_) fun t=>?_
 ·have d:j<a.length:=by
   have:=QL t;omega
  obtain⟨l,n⟩:∃ l,a[j]?=some l:=⟨a[j],ai d⟩;obtain⟨z,A⟩:∃ z,vs[j]?=some z:=⟨vs[j]'(by rw[J];exact d),ai _⟩;have o:=X j z l A n;obtain⟨Aw,cw,rfl,_⟩:=id o;simp only[au]at o A;have E:a.getD j []=l:=by rw[am,n,SG]
  have ad:(vs.map fun w=>[w])[j]?=some [.slice Aw l.length cw]:=by rw[Rr,A];rfl
  have af:∀ x∈a.take j,x.length=bp B:=by
   intro x hx;obtain⟨i,F⟩:=SV hx;have ag:=(aJ.1 F).1;rw[RE]at ag;rw[Sg,aM om_]at F;have h:=iy k i om_;simp only[am,F,SG]at h;exact CY h
  have O:=CZ af;rw[RE]at O;have ah:bp B<=400:=by unfold bp;omega
  have ar:(a.take j).flatten.length<=400*1000:=by rw[O];exact SJ ah om_
  refine Vd fun R b=>Vq q.m_ U10 om_ ad fl_ fun av aj=>Vb aj U8<|C6 1 [4,8,10,17,18,19] b U<|Va 1 U fun R b=>Vb (bkT ab 2) U8<|Vc U6<|Vl (mG _ S.m_ _ _ B.pts B.tris l hm.m_ I o.m_ (W l (aU n))) U7<|C6 1 [4,8,10,11,17,18,19] b U<|U1 2 [4,8,10,11,17,18,19,28] U<|G.cd (fun p=>?_) fun p=>?_
  ·have f:nj (bp B) l≠0:=by
    intro e;rw[show nj B.pts.length l=0 from e]at p;exact absurd p dc_
   have c:pB s (bp B) a=nj (bp B) l:=by
    unfold pB;rw[aM M,yt (i:=j) k (by simp only[E];exact f) d];simp only[E]
   refine U1 3 [6,7] U<|Vo (G.dropAll (VA U3 ?_));exact⟨U,.slice none 0 0,by rw[c];rfl,by rw[c,aF f];exact Sl.nil _ _⟩
  have f:nj (bp B) l=0:=by
   have h:nj B.pts.length l=0:=by simpa using p
   exact h
  have aw:=CY f;refine Va 2 U fun R b=>Xu (j:=0) U U U U U U U U U U U U U o.m_ (by simp[ef,lG,ae]) (by simp only[au,maxLen];omega) (by simp only[au];omega) fl_ fun Q=>C6 1 [4,8,17,18,19] b U<|Vd fun R b=>Vh _ U U6<|C6 1 [4,8,17,18,19] b U<|Vr (L':=[.arr Q 32 1 (a.take (j+1)).flatten.length ((a.take (j+1)).flatten.map ef).flatten]) (by rw[HY n,R3,R4,Ru,au];rfl)<|Vn (m':=a.length-(j+1)) om_ mup (hn_ [4,8,17,18,19] U) ⟨j+1,Q,⟨by omega,mE k (by simp only[E];exact f)⟩,U,U,U⟩
 have d:j=a.length:=by
  have:=Rt t;omega
 subst d;have c:pB s (bp B) a=0:=by unfold pB;rw[aM M];exact k
 rw[Rz];refine U1 3 [6,7] U<|G.freezeArr 0 (a.flatten.map ef) rfl rfl (by intro r hr;obtain⟨y,_,rfl⟩:=Rs.1 hr;rfl) (by rw[au]) fun Cg hg ak=>Vo (G.dropAll (VA U3 ?_));exact⟨U,_,by rw[c],by rw[aM c];exact ak⟩
theorem so (C:Mem)(f:Tabs C)(c v:Value)(B:Bk)(a:List (List Str))(d:BookIn C c B)(g:Good B.pts B.tris)(h:BookZ C c B 0)(i:bs B*bp B<=60)(k:FieldsIn C v a)(m:∀ l∈a,∀ x∈l,x.length<=999998)(n:a.length<=1000) :
  Pur cx.P 82 [c,v] C fun u D=>∃ w,u=.tuple #[w,i_ (pB (bs B) (bp B) a)]/\Sl D 1 w ((if pB (bs B) (bp B) a=0 then a.flatten else []).map ef):=by
 have o:=d;obtain⟨s,t,y,z,A,rfl,h1,h2,h3,h4,h5⟩:=id d.ex;refine Vi func82 22 U3 fun w0=>Vd fun R b=>Vs U6 fun E=>C6 2 [1,2] b U<|Vd fun R b=>Vj ag U9<|Vl (N3 _ _ B h.m_ i) U7<|Ve 3 U<|Vt U5 fun F=>Vk (j:=0) U12<|C6 1 [1,2,6,7] b U<|U1 2 [1,2,6,7,14] U<|G.cd (fun e=>?_) fun e=>?_
 ·exact absurd e dc_
 refine Vd fun R b=>Vj ag U9<|Vj af U9<|Vc U6<|VJ (FC _ f.m_ _ _ B (bs B) a o.m_ g k.m_ m n) U7 (fun H _ _ p=>?_);obtain⟨q,rfl,r⟩:=p;refine C6 4 [4,5] b U<|Vo (G.dropAll (VA U3 ?_));exact⟨U,q,U,r⟩
def rZ (s p:Nat)(l:List Str):Int:=if l.length=s*p then oH (l.all aR) else 5
def yH (p:Nat)(l:List Str)(j:Nat):List Str:=(l.take ((j+1)*p)).drop (j*p)
def chunks (s p:Nat)(l:List Str):List (List Str):=(List.range s).map (yH p l)
theorem NE (h:l.all aR=true):l=(l.map dm).map qtx:=by
 rw[So];symm;have e:∀ s∈l,(qtx ∘ dm) s=id s:=fun s hs=>(dy (RI.1 h s hs)).1.symm;rw[List.map_congr_left e,List.map_id]
theorem yv (C:Mem)(hT:Tabs C)(E v:Value)(B:Bk)(l:List Str)(hB:BookIn C E B)(F:BookZ C E B 0)(aa:bs B*bp B<=60)(f:Sl C 1 v (l.map ef))(hs:∀ x∈l,x.length<=999998)(_ar:l.length<=100000) :
  Pur cx.P 81 [E,v] C fun u D=>∃ w,u=.tuple #[w,i_ (rZ (bs B) (bp B) l)]/\FieldsIn D w (if rZ (bs B) (bp B) l=0 then chunks (bs B) (bp B) l else []):=by
 have av:=F.lc;have aw:=F.lp;have ay:bs B<=1000:=by unfold bs;omega
 have az:bp B<=400:=by unfold bp;omega
 obtain⟨v1,v2,tv,cv,ov,rfl,h1,h2,h3,h4,h5⟩:=id hB.ex;obtain⟨c,c0,rfl,ab,aA,_⟩:=id f;have aB:=mx_
 simp only[au]at f ab⊢;refine Vi func81 60 U3 fun w0=>Vd fun R a=>Vs U6 fun b2=>C6 2 [1,2] a U<|Vd fun R a=>Vj ag U9<|Vl (N3 _ _ B F.m_ aa) U7<|Ve 3 U<|Vt U5 fun N=>Vk (j:=0) U12<|C6 1 [1,6,7] a U<|U1 2 [1,6,7,19] U<|G.cd (fun O=>?_) fun O=>?_
 ·exact absurd O dc_
 refine G.freeze 0 U fun _ _ g=>Va 2 U fun R a=>Vb (bkT g 2) U8<|Vm (jd _ (bs B) (bp B) om_) U7 fl_<|C6 1 [1,6,25] a U<|G.cd (fun k=>?_) fun k=>?_
 ·have ac:l.length≠bs B*bp B:=by
   intro e;rw[e]at k;simp at k
  have b:rZ (bs B) (bp B) l=5:=by unfold rZ;rw[aF ac]
  refine U1 2 [4,5] U<|Vo (G.dropAll (VA U3 ?_));exact⟨U,.slice none 0 0,by rw[b],by rw[b];exact⟨[],U,fun i w l h1 _=>by simp at h1,Sl.nil _ _⟩⟩
 have Q:l.length=bs B*bp B:=by
  have h:((l.length:Nat):Int)=((bs B*bp B:Nat):Int):=by simpa using k
  omega
 refine U1 3 [1,6,26,27,28] U<|G.dropAll<|G.loop (fun fr S n H=>∃ (i:Nat),(i<=l.length/\(l.take i).all aR=true)/\fr=[(1,[],.slice c l.length c0),(6,[],p_ N),(26,[],.slice c l.length c0),(27,[],i_ l.length),(28,[],i_ i)]/\n=[]/\H=l.length-i) (hn_ [1,6,26,27,28] U) ⟨0,⟨Rv _,by simp⟩,U,U,U⟩ (fun fr aC aD m ad I=>?_);obtain⟨i,⟨o,p⟩,rfl,rfl,rfl⟩:=I;refine U1 1 [1,6,26,27,28,29] U<|G.cd (fun J=>?_) fun J=>?_
 ·have K:i<l.length:=by
   have:=QL J;omega
  obtain⟨s,t⟩:∃ s,l[i]?=some s:=⟨l[i],ai K⟩;refine Vd fun R a=>Vq f.m_ U10 om_ (cq t) fl_ fun aE ae=>Vb ae U8<|C6 1 [1,6,9,26,27,28] a U<|Va 1 U fun R a=>Vl (dE _ hT.m_ s (hs s (aU t))) U7<|C6 1 [1,6,10,26,27,28] a U<|U1 2 [1,6,10,26,27,28,35] U<|G.cd (fun d=>?_) fun d=>?_
  ·have T:aR s=false:=by
    rcases eN (aR s) with⟨h1,h2⟩|⟨h1,h2⟩
    ·rw[h1]at d;exact absurd d dc_
    exact h2
   have b:rZ (bs B) (bp B) l=2:=by
    unfold rZ;rw[aM Q,show l.all aR=false from TU.2 ⟨s,aU t,by rw[T];decide⟩];rfl
   refine U1 3 [4,5] U<|Vo (G.dropAll (VA U3 ?_));exact⟨U,.slice none 0 0,by rw[b,T];rfl,by rw[b];exact⟨[],U,fun i w l h1 _=>by simp at h1,Sl.nil _ _⟩⟩
  have af:aR s=true:=by
   rcases eN (aR s) with⟨h1,h2⟩|⟨h1,h2⟩
   ·exact h2
   rw[h1]at d;exact absurd d dc_
  refine Vd fun R a=>Vh _ U U6<|C6 1 [1,6,26,27,28] a U<|Vn (m':=l.length-(i+1)) om_ ad (hn_ [1,6,26,27,28] U) ⟨i+1,⟨by omega,by rw[RR,t,US,p];simp[af]⟩,U,U,U⟩
 have K:i=l.length:=by
  have:=Rt J;omega
 subst K;rw[Rz]at p;have b:rZ (bs B) (bp B) l=0:=by unfold rZ;rw[aM Q,p];rfl
 have ah:=NE p;refine U1 1 [1,6,11] U<|Va 1 U fun R a=>Vb (bkT g 1) U8<|C6 1 [1,6,11,39,40] a U<|G.nilArr 41 1<|G.loop (fun fr S n H=>∃ (j:Nat)(vs:List Value)(w:Value),(j<=bs B/\vs.length=j/\(∀ (i:Nat)(w:Value),vs[i]?=some w->Sl S 1 w ((yH (bp B) l i).map ef)))/\fr=[(1,[],.slice c l.length c0),(6,[],p_ N),(11,[],w),(39,[],i_ (bs B:Nat)),(40,[],i_ j)]/\n=[.arr w 41 1 vs.length (vs.map fun w=>[w]).flatten]/\H=bs B-j) (hn_ [1,6,11,39,40] U) ⟨0,[],_,⟨Rv _,U,fun i w h=>by simp at h⟩,U,U,U⟩ (fun fr aG aH m _ I=>?_);obtain⟨j,vs,w,⟨hj,V,W⟩,rfl,rfl,rfl⟩:=I;refine U1 1 [1,6,11,39,40,41] U<|G.cd (fun L=>?_) fun L=>?_
 ·have M:j<bs B:=by
   have:=QL L;omega
  have aI:(j+1)*bp B<=bs B*bp B:=Sa _ M;have aK:(j+1)*bp B=j*bp B+bp B:=Nat.succ_mul _ _;have aj:=Sl.sub f (l:=j*bp B) (h:=(j+1)*bp B) (m:=c0) om_ ap om_ (Ro _);have X:yH (bp B) l j=(((l.map dm).take ((j+1)*bp B)).drop (j*bp B)).map qtx:=by
   unfold yH
   conv=>lhs;rw[ah]
   rw[List.map_drop,TG]
  have al:Sl C 1 (.slice (if c0=j*bp B then c else c.map (·.add (j*bp B*1))) ((j+1)*bp B-j*bp B) (c0-j*bp B)) ((((l.map dm).take ((j+1)*bp B)).drop (j*bp B)).map dJ):=by
   rw[fW,<- X];unfold yH;rw[List.map_drop,TG];exact aj
  refine U1 2 [1,6,11,12,39,40] U<|VB [(12,3)] U fun R a=>Ve 4 U<|Vb (bkT g 1) U8<|Vh (((j*bp B:Nat):Int)) (RW _ _) U6<|Vc U6<|VI (((j+1:Nat):Int)) U4 om_ om_ om_ U2<|Vc U6<|Vb (bkT g 1) U8<|Vh ((((j+1)*bp B:Nat):Int)) (RW _ _) U6<|VV (j*bp B) ((j+1)*bp B) c0 U12 (fun _=>⟨.inr ⟨_,U⟩,.inr ⟨_,U⟩,.inl ⟨U,U⟩,by omega,by omega,by omega⟩) U2<|D.call (Ix _ _ _ al.m_ ap) U (.inr dc_) U6 (Rw _) fl_ (fun aL _ aN _ am=>?_);obtain⟨z,A,cc,rfl,rfl⟩:=am;refine Vy [[.slice z A cc]] U12 fun aO _ _ an=>D.append (j:=1) U11 an U ax (by simp only[Rp];omega) fl_ fun Y=>C6 1 [1,6,11,39,40] a U<|Vd fun R a=>Vh _ U U6<|C6 1 [1,6,11,39,40] a U<|G.freezeArr 1 ((((l.map dm).take ((j+1)*bp B)).drop (j*bp B)).map dJ) rfl rfl (by intro r hr;obtain⟨y,_,rfl⟩:=Rs.1 hr;rfl) (by rw[au]) (fun Cz b Z=>?_);rw[fW,<- X]at Z;refine Vr (L':=[.arr Y 41 1 (vs++[Value.slice z A cc]).length ((vs++[Value.slice z A cc]).map fun w=>[w]).flatten]) ak<|Vn (m':=bs B-(j+1)) om_ mup (hn_ [1,6,11,39,40] U) ⟨j+1,vs++[.slice z A cc],Y,⟨by omega,by simp[V],fun i w h=>by
   rcases RS i vs.length with h1|h1
   ·rw[Se h1]at h;exact(W i w h).mono mup
   rw[RV h1]at h;cases o:i-vs.length with
  |zero =>
    rw[o]at h;simp at h;subst h;rw[show i=j by omega];exact Z
  |succ q=>rw[o]at h;simp at h⟩,rfl,rfl,rfl⟩
 have M:j=bs B:=by
  have:=Rt L;omega
 have ao:(chunks (bs B) (bp B) l).length=bs B:=by simp[chunks]
 refine U1 3 [4,5] U<|G.freezeArr 0 (vs.map fun w=>[w]) rfl rfl (by intro r hr;obtain⟨y,_,rfl⟩:=Rs.1 hr;rfl) (by rw[au]) fun Cg hg aq=>Vo (G.dropAll (VA U3 ?_));refine⟨U,_,by rw[b], ?_⟩;rw[aM b];refine⟨vs,by rw[ao,V,M],fun i w l2 h1 h2=>?_,aq⟩;unfold chunks at h2;rw[Rr]at h2;have o:=(aJ.1 h1).1;rw[RY om_]at h2;simp only[S5,Sb]at h2;subst h2;exact(W i w h1).mono mup
def dotV (f x:List Rat):Nat->Rat
|0=>0
|n+1=>dotV f x n+f.getD n 0*x.getD n 0
structure DotOk (r:RowQ)(x:List Rat):Prop where
 f:∀ q∈r.f,QB 22 q
 b:QB 22 r.b
 len:r.f.length=x.length
 s:∀ n,QB 2000 (dotV r.f x n)
theorem ve (C:Mem)(v:Value)(l:List RowQ)(g:Nat)(h:List Value)(a:RowQ->Bool)(s:RowsIn C v l)(_L:Jog.Enters cx.P g=true)
  (t:∀ x∈l,∀ (D:Mem)(q:Value),C.le D->Sl D 1 q (x.f.map dJ)->Gives cx.P g (.agg ⟨[q,ae (qtx x.b)]⟩::h) D (.bool (a x))) :
  Gives cx.P 152 [v,.func (.func g) #[] ⟨h⟩] C (i_ (jt a l 0)):=by
 obtain⟨vs,j,k⟩:=s;obtain⟨u,c0,rfl,z,M,_⟩:=id k;have N:=mx_
 simp only[bE j.1]at k z⊢;refine Vi func152 19 U3 fun w0=>U1 1 [0,1] U<|U1 3 [0,1,7,8] U<|G.loop (fun fr O A B=>∃ (i:Nat),(i<=l.length/\∀ y∈l.take i,a y=false)/\fr=[(0,[],.slice u l.length c0),(1,[],.func (.func g) #[] ⟨h⟩),(7,[],i_ l.length),(8,[],i_ i)]/\A=[]/\B=l.length-i) (hn_ [0,1,7,8] U) ⟨0,⟨Rv _,by simp⟩,U,U,U⟩ (fun fr Q S m E F=>?_);obtain⟨i,⟨T,d⟩,rfl,rfl,rfl⟩:=F;refine U1 1 [0,1,7,8,9] U<|G.cd (fun n=>?_) fun n=>?_
 ·have e:i<l.length:=by simpa using n
  obtain⟨x,c⟩:∃ x,l[i]?=some x:=⟨l[i],ai e⟩;obtain⟨w,r⟩:∃ w,vs[i]?=some w:=⟨vs[i]'(by rw[j.1];exact e),ai _⟩;have H:=j.2 i w x r c;refine U1 2 [0,1,5,7,8] U<|Va 3 U fun R o=>Vq k.m_ U10 om_ (hU r c) fl_ fun V I=>Vb I U8<|Vl (t x (aU c) _ w mup H.m_) U7<|Vf [0,1,5,7,8,16] o U<|G.cd (fun p=>?_) fun p=>?_
  ·have J:a x=true:=p;exact U1 2 [4] U<|Vg U2<|⟨by rw[oV c J d,SP],U⟩
  have K:a x=false:=p;refine Vd fun R o=>Vh _ U U6<|C6 1 [0,1,7,8] o U<|Vn (m':=l.length-(i+1)) om_ E (hn_ [0,1,7,8] U) ⟨i+1,⟨by omega,fun y hy=>by
   rw[RR,c]at hy;rcases RF.1 hy with hy|hy
   ·exact d y hy
   simp only[SR,RK]at hy;subst hy;exact K⟩,U,U,U⟩
 have e:i=l.length:=by
  have:¬ i<l.length:=by simpa using n
  omega
 exact U1 1 [4] U<|Vg U2<|⟨by rw[e,Rz]at d;rw[mC d],U⟩
theorem oG (C:Mem)(v:Value)(l:List RowQ)(g:Nat)(d:List Value)(a:RowQ->Bool)(e:RowsIn C v l)(h:Jog.Enters cx.P g=true)
  (j:∀ x∈l,∀ (D:Mem)(c:Value),C.le D->Sl D 1 c (x.f.map dJ)->Gives cx.P g (.agg ⟨[c,ae (qtx x.b)]⟩::d) D (.bool (a x))) :
  Gives cx.P 87 [v,.func (.func g) #[] ⟨d⟩] C (.bool (l.any a)):=by
 refine Vi func87 9 U3 fun w0=>U1 1 [0,1] U<|Va 2 U fun R k=>Vl (ve _ v l g d a e.m_ h (fun x m D c n=>j x m D c (Mem.le.trans mup n))) U7<|C6 2 [4] k U<|Vg U2<|⟨?_,U⟩;congr 1;rcases nK a l with⟨h1,h2⟩|⟨i,x,h1,h2,h3,_⟩
 ·rw[h1,List.any_eq_false.2 (fun y hy=>by rw[h2 y hy];decide)];rfl
 rw[h1,TX.2 ⟨x,aU h2,h3⟩];exact RJ om_
def txs (lq:List (List Rat)):List (List Str):=lq.map fun l=>l.map qtx
def sqP:List (Int × Int):=[(0,0),(4,0),(4,4),(0,4)]
def shP:Nat->List (Int × Int)
|0=>sqP
|1=>sqP
|2=>sqP++[(2,1)]
|3=>[(0,0),(6,0),(0,4)]
|4=>[(0,0),(2,0),(4,0),(0,2),(2,2),(4,2)]
|5=>[(1,4),(5,3),(4,0),(0,0)]
|6=>sqP++[(2,0)]
|_=>[(0,0),(6,0),(0,6),(2,2)]
def shT:Nat->List Tri
|0=>[(0,1,2),(0,2,3)]
|1=>[(0,1,3),(1,2,3)]
|2=>[(0,1,4),(1,2,4),(2,3,4),(3,0,4)]
|3=>[(2,0,1)]
|4=>[(0,1,4),(0,4,3),(1,2,5),(1,5,4)]
|5=>[(3,2,1),(3,1,0)]
|6=>[(0,4,3),(4,2,3),(4,1,2)]
|_=>[(0,1,3),(1,2,3),(2,0,3)]
def Re (p:Int × Int):List Value:=[.int .i64 p.1,.int .i64 p.2]
def ShIn (u:Value)(D:Mem)(m:Nat):Prop:=∃ pv tv,u=.tuple #[pv,tv]/\Sl D 2 pv ((shP m).map Re)/\Sl D 3 tv ((shT m).map iB)
theorem D5 (C:Mem)(a:Nat)(_H:a<256):Pur cx.P 115 [.int .u8 a] C fun u D=>ShIn u D (a % 8):=by
 have I:a % 8<8:=R9 _ dc_;obtain⟨m,hm⟩:∃ m,a % 8=m:=⟨_,rfl⟩;refine Vi func115 86 U3 fun w0=>U1 2 [0] U<|Vd fun R b=>Vu ([i_ 0,i_ 0]) U8<|Vu ([i_ 4,i_ 0]) U8<|Vu ([i_ 4,i_ 4]) U8<|Vu ([i_ 0,i_ 4]) U8<|VZ [[i_ 0,i_ 0],[i_ 4,i_ 0],[i_ 4,i_ 4],[i_ 0,i_ 4]] U12 fl_ fun J _ _ d=>C6 1 [0,4] b U<|Va 1 U fun R b=>VW (a) (8) U6 om_ U2<|Vf [4,11] b U<|U1 2 [4,11,12] U<|G.cd (fun f=>?_) fun f=>?_
 ·have c:a % 8=0:=by
   have:=dU f;omega
  refine Va 1 U fun R b=>Vu ([i_ 0,i_ 1,i_ 2]) U8<|Vu ([i_ 0,i_ 2,i_ 3]) U8<|Vy [[i_ 0,i_ 1,i_ 2],[i_ 0,i_ 2,i_ 3]] U12 fun K _ _ n=>C6 2 [2,3] b U<|Vo (G.dropAll (VA U3 ?_));exact⟨U,by rw[c];exact⟨_,_,U,d.mono mup,n.mono mup⟩⟩
 have L:a % 8≠0:=by
  intro e;rw[e]at f;exact absurd f dc_
 refine U1 2 [4,11,18] U<|G.cd (fun g=>?_) fun g=>?_
 ·have c:a % 8=1:=by
   have:=dU g;omega
  refine Va 1 U fun R b=>Vu ([i_ 0,i_ 1,i_ 3]) U8<|Vu ([i_ 1,i_ 2,i_ 3]) U8<|Vy [[i_ 0,i_ 1,i_ 3],[i_ 1,i_ 2,i_ 3]] U12 fun M _ _ o=>C6 2 [2,3] b U<|Vo (G.dropAll (VA U3 ?_));exact⟨U,by rw[c];exact⟨_,_,U,d.mono mup,o.mono mup⟩⟩
 have N:a % 8≠1:=by
  intro e;rw[e]at g;exact absurd g dc_
 refine U1 2 [4,11,24] U<|G.cd (fun h=>?_) fun h=>?_
 ·have c:a % 8=2:=by
   have:=dU h;omega
  refine Va 1 U fun R b=>Vu ([i_ 2,i_ 1]) U8<|Vy [[i_ 2,i_ 1]] U12 fun O _ _ p=>W5 U U U U U U U U U U d.m_ p.m_ (.inr dc_) (by simp only[RH,R5,maxLen];omega) dc_ fl_ fun Q _ _ q=>Vu ([i_ 0,i_ 1,i_ 4]) U8<|Vu ([i_ 1,i_ 2,i_ 4]) U8<|Vu ([i_ 2,i_ 3,i_ 4]) U8<|Vu ([i_ 3,i_ 0,i_ 4]) U8<|Vy [[i_ 0,i_ 1,i_ 4],[i_ 1,i_ 2,i_ 4],[i_ 2,i_ 3,i_ 4],[i_ 3,i_ 0,i_ 4]] U12 fun S _ _ r=>C6 2 [2,3] b U<|Vo (G.dropAll (VA U3 ?_));exact⟨U,by rw[c];exact⟨_,_,U,q.mono mup,r.mono mup⟩⟩
 have T:a % 8≠2:=by
  intro e;rw[e]at h;exact absurd h dc_
 refine U1 2 [4,11,35] U<|G.cd (fun i=>?_) fun i=>?_
 ·have c:a % 8=3:=by
   have:=dU i;omega
  refine Vd fun R b=>Vu ([i_ 0,i_ 0]) U8<|Vu ([i_ 6,i_ 0]) U8<|Vu ([i_ 0,i_ 4]) U8<|Vy [[i_ 0,i_ 0],[i_ 6,i_ 0],[i_ 0,i_ 4]] U12 fun V _ _ s=>Vu ([i_ 2,i_ 0,i_ 1]) U8<|Vy [[i_ 2,i_ 0,i_ 1]] U12 fun W _ _ t=>C6 2 [2,3] b U<|Vo (G.dropAll (VA U3 ?_));exact⟨U,by rw[c];exact⟨_,_,U,s.mono mup,t.mono mup⟩⟩
 have X:a % 8≠3:=by
  intro e;rw[e]at i;exact absurd i dc_
 refine U1 2 [4,11,43] U<|G.cd (fun j=>?_) fun j=>?_
 ·have c:a % 8=4:=by
   have:=dU j;omega
  refine Vd fun R b=>Vu ([i_ 0,i_ 0]) U8<|Vu ([i_ 2,i_ 0]) U8<|Vu ([i_ 4,i_ 0]) U8<|Vu ([i_ 0,i_ 2]) U8<|Vu ([i_ 2,i_ 2]) U8<|Vu ([i_ 4,i_ 2]) U8<|Vy [[i_ 0,i_ 0],[i_ 2,i_ 0],[i_ 4,i_ 0],[i_ 0,i_ 2],[i_ 2,i_ 2],[i_ 4,i_ 2]] U12 fun Y _ _ v=>Vu ([i_ 0,i_ 1,i_ 4]) U8<|Vu ([i_ 0,i_ 4,i_ 3]) U8<|Vu ([i_ 1,i_ 2,i_ 5]) U8<|Vu ([i_ 1,i_ 5,i_ 4]) U8<|Vy [[i_ 0,i_ 1,i_ 4],[i_ 0,i_ 4,i_ 3],[i_ 1,i_ 2,i_ 5],[i_ 1,i_ 5,i_ 4]] U12 fun Z _ _ w=>C6 2 [2,3] b U<|Vo (G.dropAll (VA U3 ?_));exact⟨U,by rw[c];exact⟨_,_,U,v.mono mup,w.mono mup⟩⟩
 have aa:a % 8≠4:=by
  intro e;rw[e]at j;exact absurd j dc_
 refine U1 2 [4,11,57] U<|G.cd (fun k=>?_) fun k=>?_
 ·have c:a % 8=5:=by
   have:=dU k;omega
  refine Vd fun R b=>Vu ([i_ 1,i_ 4]) U8<|Vu ([i_ 5,i_ 3]) U8<|Vu ([i_ 4,i_ 0]) U8<|Vu ([i_ 0,i_ 0]) U8<|Vy [[i_ 1,i_ 4],[i_ 5,i_ 3],[i_ 4,i_ 0],[i_ 0,i_ 0]] U12 fun ab _ _ x=>Vu ([i_ 3,i_ 2,i_ 1]) U8<|Vu ([i_ 3,i_ 1,i_ 0]) U8<|Vy [[i_ 3,i_ 2,i_ 1],[i_ 3,i_ 1,i_ 0]] U12 fun ac _ _ y=>C6 2 [2,3] b U<|Vo (G.dropAll (VA U3 ?_));exact⟨U,by rw[c];exact⟨_,_,U,x.mono mup,y.mono mup⟩⟩
 have ad:a % 8≠5:=by
  intro e;rw[e]at k;exact absurd k dc_
 refine U1 2 [4,67] U<|G.cd (fun l=>?_) fun l=>?_
 ·have c:a % 8=6:=by
   have:=dU l;omega
  refine Va 1 U fun R b=>Vu ([i_ 2,i_ 0]) U8<|Vy [[i_ 2,i_ 0]] U12 fun ae _ _ z=>W5 U U U U U U U U U U d.m_ z.m_ (.inr dc_) (by simp only[RH,R5,maxLen];omega) dc_ fl_ fun af _ _ A=>Vu ([i_ 0,i_ 4,i_ 3]) U8<|Vu ([i_ 4,i_ 2,i_ 3]) U8<|Vu ([i_ 4,i_ 1,i_ 2]) U8<|Vy [[i_ 0,i_ 4,i_ 3],[i_ 4,i_ 2,i_ 3],[i_ 4,i_ 1,i_ 2]] U12 fun ag _ _ B=>C6 2 [2,3] b U<|Vo (G.dropAll (VA U3 ?_));exact⟨U,by rw[c];exact⟨_,_,U,A.mono mup,B.mono mup⟩⟩
 have ah:a % 8≠6:=by
  intro e;rw[e]at l;exact absurd l dc_
 refine Vd fun R b=>Vu ([i_ 0,i_ 0]) U8<|Vu ([i_ 6,i_ 0]) U8<|Vu ([i_ 0,i_ 6]) U8<|Vu ([i_ 2,i_ 2]) U8<|Vy [[i_ 0,i_ 0],[i_ 6,i_ 0],[i_ 0,i_ 6],[i_ 2,i_ 2]] U12 fun ai _ _ E=>Vu ([i_ 0,i_ 1,i_ 3]) U8<|Vu ([i_ 1,i_ 2,i_ 3]) U8<|Vu ([i_ 2,i_ 0,i_ 3]) U8<|Vy [[i_ 0,i_ 1,i_ 3],[i_ 1,i_ 2,i_ 3],[i_ 2,i_ 0,i_ 3]] U12 fun aj _ _ F=>C6 2 [2,3] b U<|Vo (G.dropAll (VA U3 ?_));exact⟨U,by rw[show a % 8=7 by omega];exact⟨_,_,U,E.mono mup,F.mono mup⟩⟩
theorem Ft (a:-128<=n)(b:n<128):IntKind.i8.wrap n=n:=by
 simp[IntKind.wrap,IntKind.bits,IntKind.signed];omega
theorem Mb:∀ m:Nat,∀ p∈shP m,0<=p.1/\p.1<=6/\0<=p.2/\p.2<=6
|0=>by decide
|1=>by decide
|2=>by decide
|3=>by decide
|4=>by decide
|5=>by decide
|6=>by decide
|_+7=>by
  show ∀ p∈([(0,0),(6,0),(0,6),(2,2)]:List (Int × Int)),0<=p.1/\p.1<=6/\0<=p.2/\p.2<=6;decide
theorem F5:∀ m:Nat,(shP m).length<=6
|0=>by decide
|1=>by decide
|2=>by decide
|3=>by decide
|4=>by decide
|5=>by decide
|6=>by decide
|_+7=>by
  show([(0,0),(6,0),(0,6),(2,2)]:List (Int × Int)).length<=6;decide
def cA (m:Nat)(a b:Int)(h:Bool):List Pt:=(shP m).map fun p=>dH a b h p.1 p.2 1
theorem ie (m:Nat)(a b:Int)(h:Bool):(cA m a b h).length<=6:=by rw[cA,au];exact F5 m
theorem rn {w:Int}(c:w≠0)(a:z.natAbs<1000000000)(b:w.natAbs<1000000000):QB 1 (lC z w):=by
 unfold lC;refine gr om_ ?_ ?_
 ·show _<B9 ^ 1;split
  ·rw[Ul];exact a
  exact a
 exact b
theorem CB {a b:Int}{h:Bool}{x y:Int}(g:0<n)(i:n<=4)(j:-128<=x/\x<=127)(k:-128<=y/\y<=127):QP 1 (dH a b h x y n):=by
 have c:=zo a;have d:=zo b;have hh:dV h=1∨dV h=2:=by cases h <;> simp[dV]
 have f:∀ z:Int, -8<z->z<8->-32<z*n/\z*n<32:=fun z h1 h2=>by
  rcases(by omega:n=1∨n=2∨n=3∨n=4) with e|e|e|e <;> subst e <;> omega
 have l:=f _ c.1 c.2;have m:=f _ d.1 d.2;have o:0<dV h*n/\dV h*n<=8:=by rcases hh with e|e <;> rw[e] <;> omega
 exact⟨rn om_ om_ om_,rn om_ om_ om_⟩
theorem xV (C:Mem)(E:Tabs C)(d:Nat)(a b:Int)(h:Bool)(F:d<256):Pur cx.P 57 [Ma d a b h] C fun u D=>MeshIn D u (cA (d % 8) a b h) (shT (d % 8)):=by
 have H:=Mb (d % 8);have ac:=F5 (d % 8);refine Vi func57 42 U3 fun w0=>Vd fun R e=>Vs U6 fun I=>Vt U5 fun f=>Vf [1,2] e U<|G.freeze 1 U fun _ _ v=>Va 1 U fun R e=>Vb (bkT v 1) U8<|VJ (D5 _ d F) U7 (fun ad _ _ J=>?_);obtain⟨pv,tv,rfl,g,o⟩:=J;obtain⟨K,L,rfl,M,ae,_⟩:=id g;obtain⟨At,k,rfl,af,ah,_⟩:=id o;simp only[au]at g o M⊢;refine C6 5 [1,2,3,4] e U<|Va 1 U fun R e=>Vu [.slice none 0 0,.slice At (shT (d % 8)).length k] U8<|Vt U5 fun l=>Vk (j:=0) U12<|Vf [1,2,3,5] e U<|U1 1 [1,2,3,5,6] U<|G.nilArr 34 2<|G.perm (L':=[.obj l (.cells ⟨[.slice none 0 0,.slice At (shT (d % 8)).length k]⟩ 39 (0,0)),.arr (.slice none 0 0) 34 2 0 [],.obj f (.cells ⟨[.slice none 0 0,.slice none 0 0]⟩ 39 (0,0))]) (List.Perm.swap _ _ _)<|G.loop (fun fr C' q N=>∃ (i:Nat)(w:Value),(i<=(shP (d % 8)).length)/\fr=[(1,[],p_ I),(2,[],p_ f),(3,[],.slice K (shP (d % 8)).length L),(5,[],p_ l),(6,[],i_ i)]/\q=[.obj l (.cells ⟨[w,.slice At (shT (d % 8)).length k]⟩ 39 (0,0)),.arr w 34 2 ((cA (d % 8) a b h).take i).length (((cA (d % 8) a b h).take i).map gx).flatten,.obj f (.cells ⟨[.slice none 0 0,.slice none 0 0]⟩ 39 (0,0))]/\N=(shP (d % 8)).length-i) (hn_ [1,2,3,5,6] U) ⟨0,.slice none 0 0,Rv _,U,U,U⟩ (fun fr aj ak m _ O=>?_);obtain⟨i,w,hi,rfl,rfl,rfl⟩:=O;refine U1 4 [1,2,3,5,6,18] U<|G.cd (fun s=>?_) fun s=>?_
 ·have t:i<(shP (d % 8)).length:=by
   have:=QL s;omega
  obtain⟨p,n⟩:∃ p,(shP (d % 8))[i]?=some p:=⟨(shP (d % 8))[i],ai t⟩;obtain⟨al,am,an,ao⟩:=H p (aU n);have Q:(cA (d % 8) a b h)[i]?=some (dH a b h p.1 p.2 1):=by unfold cA;rw[Rr,n];rfl
  have S:(cA (d % 8) a b h).take (i+1)=(cA (d % 8) a b h).take i++[dH a b h p.1 p.2 1]:=by rw[RR,Q];rfl
  have ap:((cA (d % 8) a b h).take i).length<=6:=by rw[RE];have:=ie (d % 8) a b h;omega
  refine Vv [0,1,2,3,4,5,6,7,8,9,10,11,12,13,14,15,16,17,18,19,20] [(16,1),(8,0),(14,0)] U kr_ fun R hB e=>Vc U6<|Vj ag U9<|Vb (bkT v 4) U8<|Ve 2 U<|Vq g.m_ U10 om_ (cq n) fl_ fun aq T=>WF U9 (fun _=>T) (fun _=>⟨by omega,om_⟩) fl_ U (fun ar V=>?_);have W:=V trivial;refine Vb W U8<|V8 (c:=p.1) U8 (Ft om_ om_) U2<|Ve 2 U<|Vq g.m_ U10 om_ (cq n) fl_ fun av X=>WF U9 (fun _=>X) (fun _=>⟨by omega,om_⟩) fl_ U (fun aw Y=>?_);have Z:=Y trivial;refine Vb Z U8<|V8 (c:=p.2) U8 (Ft om_ om_) U2<|Vu [.int .i8 p.1,.int .i8 p.2] U8<|Vx (fun _=>(CC _ E.m_ d a b h p.1 p.2 1 dc_ dc_ ⟨by omega,by omega⟩ ⟨by omega,by omega⟩)) U9<|Vy [gx (dH a b h p.1 p.2 1)] U12 fun ay _ _ aa=>VF (j:=1) U11 aa.m_ U ax (by simp only[Rp];omega) fl_ fun x z A=>Vc U6<|Vk (j:=1) U12<|Vf [1,2,3,5,6] e U<|Va 1 U fun R e=>Vh _ U U6<|C6 1 [1,2,3,5,6] e U<|Vr (L':=[.obj l (.cells ⟨[.slice x z A,.slice At (shT (d % 8)).length k]⟩ 39 (0,0)),.arr (.slice x z A) 34 2 ((cA (d % 8) a b h).take (i+1)).length (((cA (d % 8) a b h).take (i+1)).map gx).flatten,.obj f (.cells ⟨[.slice none 0 0,.slice none 0 0]⟩ 39 (0,0))]) (by rw[S,R3,R4,Ru];rfl)<|Vn (m':=(shP (d % 8)).length-(i+1)) om_ mup (hn_ [1,2,3,5,6] U) ⟨i+1,_,om_,U,U,U⟩
 have t:i=(shP (d % 8)).length:=by
  have:=Rt s;omega
 have ab:(cA (d % 8) a b h).take i=cA (d % 8) a b h:=RN (by rw[t,cA,au];exact Ro _);rw[ab];refine G.freezeArr 1 ((cA (d % 8) a b h).map gx) rfl rfl (by intro r hr;obtain⟨y,_,rfl⟩:=Rs.1 hr;rfl) (by rw[au]) (fun Cg hg B=>?_);obtain⟨Aw,cw,rfl,_⟩:=id B;refine Vd fun R e=>Vj ag U9<|Vk (j:=1) U12<|Vf [2] e U<|Vo (VU ag U4 ?_);exact⟨U,_,_,U,B,o.mono mup⟩
structure Hts where
 h0:Int
 h1:Int
 h2:Int
 h3:Int
 h4:Int
 h5:Int
 half:Bool
def Ja (H:Hts):List Int:=[H.h0,H.h1,H.h2,H.h3,H.h4,H.h5]
def HF (H:Hts):List Value:=[.int .i8 H.h0,.int .i8 H.h1,.int .i8 H.h2,.int .i8 H.h3,.int .i8 H.h4,.int .i8 H.h5,.bool H.half]
def Jb (H:Hts):Prop:=∀ z∈Ja H, -128<=z/\z<=127
def fsK (n:Nat)(H:Hts):List Rat:=(List.range n).map fun i=>lC (((Ja H).getD (i % 6) 0).tmod 20) (dV H.half)
theorem FJ (a:Int):-20<a.tmod 20/\a.tmod 20<20:=by
 have h:(a.tmod 20).natAbs=a.natAbs % 20:=T8 a 20;omega
theorem vh (h:Bool):dV h=1∨dV h=2:=by cases h <;> simp[dV]
theorem nN (n:Nat)(H:Hts):(fsK n H).length=n:=by simp[fsK]
theorem yp (n:Nat)(H:Hts):∀ q∈fsK n H,QB 1 q:=by
 intro q a;unfold fsK at a;obtain⟨i,_,rfl⟩:=Rs.1 a;have h1:=FJ ((Ja H).getD (i % 6) 0);have h2:=vh H.half;exact rn om_ om_ om_
theorem On (H:Hts)(j:Nat)(a:j<6):((HF H).drop j).take 1=[.int .i8 ((Ja H).getD j 0)]:=by
 rcases(by omega:j=0∨j=1∨j=2∨j=3∨j=4∨j=5) with rfl|rfl|rfl|rfl|rfl|rfl <;> rfl
theorem fS (C:Mem)(B:Tabs C)(o E:Value)(n:Nat)(F:Option Addr)(I:Nat)(H:Hts)(J:o=.slice F n I)(T:n<=400)(K:Jb H):Pur cx.P 30 [.agg ⟨[o,E]⟩,.agg ⟨HF H⟩] C fun u D=>Sl D 1 u ((fsK n H).map dJ):=by
 subst J;obtain⟨h0,h1,h2,h3,h4,h5,a⟩:=H;have V:=mx_
 refine Vi func30 31 U3 fun w0=>Vd fun R b=>Vs U6 fun p=>Vs U6 fun q=>C6 1 [2,3] b U<|G.freeze 1 U fun _ _ L=>G.freeze 0 U fun _ _ s=>Vd fun R b=>Wa [] U12 fl_ fun t=>C6 1 [2,3,5] b U<|U1 1 [2,3,5,6] U<|Va 1 U fun R b=>Vb (bkT s 1) U8<|Vf [2,3,5,6,10] b U<|G.cut (fun fr M d e=>(True)/\fr=[(2,[],p_ p),(3,[],p_ q),(5,[],s_ t 0 0),(6,[],i_ (dV a))]/\d=[.arr (s_ t 0 0) 32 1 0 []]) ?_ (fun fr _ W e _ f=>?_)
 ·refine G.cd (fun g=>?_) fun g=>?_
  ·have h1:a=true:=g;subst h1;refine U1 1 [2,3,5,6] U<|Vp 0 l_ (hn_ [2,3,5,6] U) ⟨trivial,U,U⟩
  have h1:a=false:=g;subst h1;refine Vp 0 l_ (hn_ [2,3,5,6] U) ⟨trivial,U,U⟩
 obtain⟨_,rfl,rfl⟩:=f;refine U1 1 [2,3,5,6,7] U<|G.loop (fun fr M d e=>∃ (i:Nat)(w:Value),(i<=n)/\fr=[(2,[],p_ p),(3,[],p_ q),(5,[],w),(6,[],i_ (dV a)),(7,[],i_ i)]/\d=[.arr w 32 1 ((fsK n ⟨h0,h1,h2,h3,h4,h5,a⟩).take i).length (((fsK n ⟨h0,h1,h2,h3,h4,h5,a⟩).take i).map dJ).flatten]/\e=n-i) (hn_ [2,3,5,6,7] U) ⟨0,_,Rv _,U,U,U⟩ (fun fr X Y m _ f=>?_);obtain⟨i,w,Z,rfl,rfl,rfl⟩:=f;refine Va 2 U fun R b=>Vb (bkT L 1) U8<|C6 2 [2,3,5,6,7,15] b U<|G.cd (fun h=>?_) fun h=>?_
 ·have k:i<n:=by
   have:=QL h;omega
  have v:i % 6<6:=R9 _ dc_;obtain⟨z,l⟩:∃ z,(Ja ⟨h0,h1,h2,h3,h4,h5,a⟩).getD (i % 6) 0=z:=⟨_,rfl⟩;have x:=On ⟨h0,h1,h2,h3,h4,h5,a⟩ (i % 6) v;rw[l]at x;have N:z∈Ja ⟨h0,h1,h2,h3,h4,h5,a⟩:=by
   rw[<- l,am,ai (show i % 6<(Ja ⟨h0,h1,h2,h3,h4,h5,a⟩).length from v),SG];exact Sj _
  have aa:=K z N;have ab:=FJ z;have ac:=vh a;have O:(fsK n ⟨h0,h1,h2,h3,h4,h5,a⟩).take (i+1)=(fsK n ⟨h0,h1,h2,h3,h4,h5,a⟩).take i++[lC (z.tmod 20) (dV a)]:=by
   rw[RR,show(fsK n ⟨h0,h1,h2,h3,h4,h5,a⟩)[i]?=some (lC (z.tmod 20) (dV a)) by unfold fsK;rw[Rr,RY k,<- l];rfl];rfl
  have ad:((fsK n ⟨h0,h1,h2,h3,h4,h5,a⟩).take i).length<=400:=by rw[RE,nN];omega
  refine Va 2 U fun R b=>VW (i) (6) U6 om_ U2<|Vc U6<|Vw ((i % 6)) U9 (fun _=>⟨by omega,by omega,(by show i % 6=0+(i % 6)*1;omega)⟩) U2<|Wi (PtrTo.blockT (Mem.get s mup) (i % 6) 1) U6 (show cI _ (((HF ⟨h0,h1,h2,h3,h4,h5,a⟩).drop (i % 6)).take 1)=some (.int .i8 z) from by rw[x];rfl) U<|VO (c:=z) U8 (wrap_i64 om_ om_) fl_<|V6 (z.tmod 20) U6 dc_ U3<|Vc U6<|Vm (P7 _ B.m_ (z.tmod 20) (dV a) om_ om_ om_) U7 fl_<|Vy [dJ (lC (z.tmod 20) (dV a))] U12 fun ae _ _ Q=>D.append (j:=0) U11 Q U ax (by simp only[Rp];omega) fl_ fun A=>C6 1 [2,3,5,6,7] b U<|Va 1 U fun R b=>Vh _ U U6<|C6 1 [2,3,5,6,7] b U<|Vr (L':=[.arr A 32 1 ((fsK n ⟨h0,h1,h2,h3,h4,h5,a⟩).take (i+1)).length (((fsK n ⟨h0,h1,h2,h3,h4,h5,a⟩).take (i+1)).map dJ).flatten]) (by rw[O,R3,R4,Ru];rfl)<|Vn (m':=n-(i+1)) om_ mup (hn_ [2,3,5,6,7] U) ⟨i+1,A,om_,U,U,U⟩
 have k:i=n:=by
  have:=Rt h;omega
 rw[show(fsK n ⟨h0,h1,h2,h3,h4,h5,a⟩).take i=fsK n ⟨h0,h1,h2,h3,h4,h5,a⟩ from RN (by rw[k,nN];exact Ro _)];exact U1 2 [4] U<|G.freezeArr 0 ((fsK n ⟨h0,h1,h2,h3,h4,h5,a⟩).map dJ) rfl rfl (by intro r hr;obtain⟨y,_,rfl⟩:=Rs.1 hr;rfl) (by rw[au]) fun Cg hg S=>Vg U2<|⟨U,S⟩
structure Sgt where
 kind:Nat
 px:Int
 py:Int
 u0:Nat
 u1:Nat
 depth:Nat
 n0:Int
 n1:Int
 n2:Int
def O8 (s:Sgt):List Value:=[.int .u8 s.kind,.int .i8 s.px,.int .i8 s.py,.int .u8 s.u0,.int .u8 s.u1,.int .u8 s.depth,.int .i8 s.n0,.int .i8 s.n1,.int .i8 s.n2]
structure SgtR (s:Sgt):Prop where
 kind:s.kind<256
 px:-128<=s.px/\s.px<=127
 py:-128<=s.py/\s.py<=127
 u0:s.u0<256
 u1:s.u1<256
 depth:s.depth<256
 n0:-128<=s.n0/\s.n0<=127
 n1:-128<=s.n1/\s.n1<=127
 n2:-128<=s.n2/\s.n2<=127
structure Sht where
 kd:Nat
 a:Int
 b:Int
 h:Bool
def NR (S:Sht)(H:Hts)(sv:Value):List Value:=[.int .u8 S.kd,.int .i8 S.a,.int .i8 S.b,.bool S.h,.int .i8 H.h0,.int .i8 H.h1,.int .i8 H.h2,.int .i8 H.h3,.int .i8 H.h4,.int .i8 H.h5,.bool H.half,sv]
def rX (i:Nat):Str:=[UInt8.ofNat (65+i)]
def kX (S:Sht)(s:Sgt):Pt :=
 if kC (cA (S.kd % 8) S.a S.b S.h) (shT (S.kd % 8)) (dH S.a S.b S.h s.px s.py 2)≠[] then dH S.a S.b S.h s.px s.py 2
 else (cA (S.kd % 8) S.a S.b S.h).getD (s.depth % (cA (S.kd % 8) S.a S.b S.h).length) (0,0)
def fp (z:Int):Int:=if z.tmod 5=0 then 1 else z.tmod 5
def loU (s:Sgt):Nat:=if s.u0 % 3=s.u1 % 3 then 0 else s.u0 % 3
def upU (s:Sgt):Nat:=if s.u0 % 3=s.u1 % 3 then 1+s.u1 % 3 % 2 else s.u1 % 3
def ft (S:Sht)(s:Sgt)(i:Nat):Obs :=
 if s.kind % 3=0 then ⟨1,[111,UInt8.ofNat (49+i)],qtx (kX S s).1,qtx (kX S s).2,[],rX (s.u1 % 3),[],[],[],[]⟩
 else if s.kind % 3=1 then ⟨2,[111,UInt8.ofNat (49+i)],qtx (kX S s).1,qtx (kX S s).2,qtx (lC (s.depth % 12:Nat) 2),rX (max (loU s) (upU s)),rX (min (loU s) (upU s)),[],[],[]⟩
 else ⟨3,[111,UInt8.ofNat (49+i)],qtx (kX S s).1,qtx (kX S s).2,[],rX (max (loU s) (upU s)),rX (min (loU s) (upU s)),qtx ((s.n0.tmod 5:Int):Rat),qtx ((s.n1.tmod 5:Int):Rat),qtx ((fp s.n2:Int):Rat)⟩
theorem wrap_u8 (a:0<=n)(b:n<256):IntKind.u8.wrap n=n:=by
 simp only[IntKind.wrap,IntKind.bits,IntKind.signed];simp;omega
theorem nH (i:Nat)(a:i<6):([[.int .u8 111],[.int .u8 (49+(i:Int))]]:List (List Value))=(([111,UInt8.ofNat (49+i)]:Str).map fun b=>[.int .u8 b.toNat]):=by
 rcases(by omega:i=0∨i=1∨i=2∨i=3∨i=4∨i=5) with rfl|rfl|rfl|rfl|rfl|rfl <;> rfl
theorem CU (j:Nat)(a:j<3):(([ae [65],ae [66],ae [67]]:List Value).drop j).take 1=[ae (rX j)]:=by
 rcases(by omega:j=0∨j=1∨j=2) with rfl|rfl|rfl <;> rfl
theorem zz:∀ m:Nat,0<(shP m).length
|0=>by decide
|1=>by decide
|2=>by decide
|3=>by decide
|4=>by decide
|5=>by decide
|6=>by decide
|_+7=>by
  show 0<([(0,0),(6,0),(0,6),(2,2)]:List (Int × Int)).length;decide
theorem oz (a:Int):-5<a.tmod 5/\a.tmod 5<5:=by
 have h:(a.tmod 5).natAbs=a.natAbs % 5:=T8 a 5;omega
theorem Og (s:Sgt):loU s<=2:=by unfold loU;split <;> omega
theorem M6 (s:Sgt):upU s<=2:=by unfold upU;split <;> omega
theorem Gv {p:Pt}(h:QP 1 p):QP 23 p/\PtR p:=⟨⟨h.1.le dc_,h.2.le dc_⟩,bh (h.1.le dc_),bh (h.2.le dc_)⟩
theorem rV (C:Mem)(r:Tabs C)(S:Sht)(s:Sgt)(H:Hts)(sv:Value)(i:Nat)(V:i<6)(hk:S.kd<256)(q:SgtR s)(hG:Good (cA (S.kd % 8) S.a S.b S.h) (shT (S.kd % 8))) :
  Pur cx.P 58 [.agg ⟨NR S H sv⟩,.agg ⟨O8 s⟩,i_ i] C fun u _D=>u=.agg ⟨sb (ft S s i)⟩:=by
 have aD:=q.kind;have aE:=q.u0;have aG:=q.u1;have aH:=q.depth;have aI:=oz s.n0;have aJ:=oz s.n1;have aK:=oz s.n2;have al:=Og s;have an:=M6 s;have ao:QP 1 (dH S.a S.b S.h s.px s.py 2):=CB dc_ dc_ q.px q.py;obtain⟨ap,aq⟩:=Gv ao;obtain⟨lo,v⟩:∃ n,loU s=n:=⟨_,rfl⟩;obtain⟨up,w⟩:∃ n,upU s=n:=⟨_,rfl⟩;obtain⟨p,x⟩:∃ p,kX S s=p:=⟨_,rfl⟩;obtain⟨t,E⟩:∃ z,fp s.n2=z:=⟨_,rfl⟩;have aL:-5<t/\t<5:=by rw[<- E];unfold fp;split <;> omega
 rw[v]at al;rw[w]at an;have ah:0<(cA (S.kd % 8) S.a S.b S.h).length:=by rw[cA,au];exact zz _
 have aN:=ie (S.kd % 8) S.a S.b S.h;refine Vi func58 129 U3 fun w0=>Vd fun R d=>Vs U6 fun b3=>Vs U6 fun y=>Vt U5 fun g=>Vf [2,3,4,6] d U<|G.freeze 2 U fun _ _ aj=>G.freeze 1 U fun _ _ k=>Va 1 U fun R d=>Vb (bkT aj 4) U8<|VJ (xV _ r.m_ S.kd S.a S.b S.h hk) U7 (fun aO _ _ W=>?_);obtain⟨v1,v2,rfl,X,ar⟩:=id W.ex;obtain⟨A1,c1,rfl,av,aP,_⟩:=id X;obtain⟨A2,c2,rfl,_,_,_⟩:=id ar;simp only[au]at X av W⊢;refine Vt U5 fun b7=>Vk (j:=0) U12<|Vf [2,3,4,6,7] d U<|G.freeze 0 U fun _ _ Y=>G.cut (fun fr F l m=>∃ (f:Nat),(True)/\fr=[(4,[],p_ y),(6,[],p_ g),(7,[],p_ b7),(8,[],p_ f)]/\l=[.obj f (.cells ⟨[i_ (1+((s.kind % 3:Nat):Int)),ae [111,UInt8.ofNat (49+i)],ae (qtx (dH S.a S.b S.h s.px s.py 2).1),ae (qtx (dH S.a S.b S.h s.px s.py 2).2),ae [],ae [],ae [],ae [],ae [],ae []]⟩ 126 (0,0)),.obj g (.cells ⟨[i_ 0,ae [],ae [],ae [],ae [],ae [],ae [],ae [],ae [],ae []]⟩ 126 (0,0))]) ?_ (fun fr aQ aR m aS o=>?_)
 ·refine VY (.cut [0,1,2,3,4,5,6,7,10,11,12,13,14] (.alt 8 (.cut [] (.alt 9 (.fin [15,16,17]) (.alt 16 (.fin [9,15,17]) .stop))) (.alt 16 (.fin [8,9,15,17]) .stop))) [(14,1),(3,0),(6,0)] U U kr_ fun R I d J=>Vc U6<|Vb (bkT k 1) U8<|VW (s.kind) (3) U6 om_ U2<|V8 (c:=((s.kind % 3:Nat):Int)) U8 (wrap_i64 om_ om_) U2<|Vh _ U U6<|Vc U6<|V8 (c:=(i:Int)) U8 (wrap_u8 om_ om_) U2<|D.int ((49+(i:Int))) U4 (wrap_u8 om_ om_) U2<|Vc U6<|Vb (bkT aj 4) U8<|Vc U6<|Vb (bkT k 2) U8<|Vx (fun _=>(CC _ r.m_ S.kd S.a S.b S.h s.px s.py 2 dc_ dc_ q.px q.py)) U9<|VL J U ⟨?_, ?_,trivial⟩
  ·refine Vy [[.int .u8 111],[.int .u8 (49+(i:Int))]] U12 fun aw ax _ K=>VL J U ⟨?_, ?_,trivial⟩
   ·exact Wt (show Sl _ 1 _ (([111,UInt8.ofNat (49+i)]:Str).map fun b=>[.int .u8 b.toNat]) from by rw[<- nH i V];exact K.mono mup) U11 fl_<|Vu [i_ (1+((s.kind % 3:Nat):Int)),ae [111,UInt8.ofNat (49+i)],ae (qtx (dH S.a S.b S.h s.px s.py 2).1),ae (qtx (dH S.a S.b S.h s.px s.py 2).2),ae [],ae [],ae [],ae [],ae [],ae []] U8<|Vt U5 fun f=>Vk (j:=0) U12<|Vf [4,6,7,8] d U<|Vp 0 mup (hn_ [4,6,7,8] U) ⟨f,trivial,U,U⟩
   exact Vt U5 fun f=>Wt (show Sl _ 1 _ (([111,UInt8.ofNat (49+i)]:Str).map fun b=>[.int .u8 b.toNat]) from by rw[<- nH i V];exact K.mono mup) U11 fl_<|Vu [i_ (1+((s.kind % 3:Nat):Int)),ae [111,UInt8.ofNat (49+i)],ae (qtx (dH S.a S.b S.h s.px s.py 2).1),ae (qtx (dH S.a S.b S.h s.px s.py 2).2),ae [],ae [],ae [],ae [],ae [],ae []] U8<|Vk (j:=0) U12<|Vf [4,6,7,8] d U<|Vp 0 mup (hn_ [4,6,7,8] U) ⟨f,trivial,U,U⟩
  exact Vt U5 fun f=>Vy [[.int .u8 111],[.int .u8 (49+(i:Int))]] U12 fun aw ax _ K=>Wt (show Sl _ 1 _ (([111,UInt8.ofNat (49+i)]:Str).map fun b=>[.int .u8 b.toNat]) from by rw[<- nH i V];exact K.mono mup) U11 fl_<|Vu [i_ (1+((s.kind % 3:Nat):Int)),ae [111,UInt8.ofNat (49+i)],ae (qtx (dH S.a S.b S.h s.px s.py 2).1),ae (qtx (dH S.a S.b S.h s.px s.py 2).2),ae [],ae [],ae [],ae [],ae [],ae []] U8<|Vk (j:=0) U12<|Vf [4,6,7,8] d U<|Vp 0 mup (hn_ [4,6,7,8] U) ⟨f,trivial,U,U⟩
 obtain⟨f,_,rfl,rfl⟩:=o;refine Vd fun R d=>Vb (bkT Y 2) U8<|Vc U6<|Vj ag U9<|Vl (rA _ r.m_ _ _ _ (dH S.a S.b S.h s.px s.py 2) W.m_ hG ap aq) U7<|C6 5 [4,6,7,8,9] d U<|U1 2 [4,6,7,8,42] U<|G.cut (fun fr F l m=>(True)/\fr=[(4,[],p_ y),(6,[],p_ g),(8,[],p_ f)]/\l=[.obj f (.cells ⟨[i_ (1+((s.kind % 3:Nat):Int)),ae [111,UInt8.ofNat (49+i)],ae (qtx p.1),ae (qtx p.2),ae [],ae [],ae [],ae [],ae [],ae []]⟩ 126 (0,0)),.obj g (.cells ⟨[i_ 0,ae [],ae [],ae [],ae [],ae [],ae [],ae [],ae [],ae []]⟩ 126 (0,0))]) ?_ (fun fr _ aT m _ o=>?_)
 ·refine G.cd (fun Z=>?_) fun Z=>?_
  ·have ay:kC (cA (S.kd % 8) S.a S.b S.h) (shT (S.kd % 8)) (dH S.a S.b S.h s.px s.py 2)=[]:=by simpa using Z
   have ak:s.depth % (cA (S.kd % 8) S.a S.b S.h).length<(cA (S.kd % 8) S.a S.b S.h).length:=R9 _ ah;have aa:p=(cA (S.kd % 8) S.a S.b S.h)[s.depth % (cA (S.kd % 8) S.a S.b S.h).length]:=by
    rw[<- x,kX,aF (by rw[ay];simp),am,ai ak,SG]
   have hp:(cA (S.kd % 8) S.a S.b S.h)[s.depth % (cA (S.kd % 8) S.a S.b S.h).length]?=some p:=by rw[aa];exact ai ak
   refine Vv [0,1,2,3,4,5,6,7,8,9,10,11,12] [(4,0)] U kr_ fun R I d=>Vc U6<|Vb (bkT Y 1) U8<|Vc U6<|Vb (bkT k 1) U8<|V8 (c:=(s.depth:Int)) U8 (wrap_i64 om_ om_) U2<|Vc U6<|Vb (bkT Y 1) U8<|Vc U6<|VW (s.depth) ((cA (S.kd % 8) S.a S.b S.h).length) U6 ah U2<|Vq X.m_ U10 om_ (cq hp) fl_ fun aU az=>Vb az U8<|Vc U6<|Vk (j:=0) U12<|Vf [4,6,8] d U<|Vp 0 l_ (hn_ [4,6,8] U) ⟨trivial,U,U⟩
  have aA:kC (cA (S.kd % 8) S.a S.b S.h) (shT (S.kd % 8)) (dH S.a S.b S.h s.px s.py 2)≠[]:=by simpa using Z
  have aa:p=dH S.a S.b S.h s.px s.py 2:=by rw[<- x,kX,aM aA]
  subst aa;refine Vp 0 l_ (hn_ [4,6,8] U) ⟨trivial,U,U⟩
 obtain⟨_,rfl,rfl⟩:=o;refine Vd fun R d=>Vu ([ae [65],ae [66],ae [67]]) U8<|Vt U5 fun aB=>Vk (j:=0) U12<|Vf [4,6,8,11] d U<|G.freeze 0 U fun _ _ L=>Vv [0,1,2,3,4,5,6,7,8,9,10,11] [(4,0),(9,0)] U kr_ fun R I d=>Vc U6<|Vw (3) U9 k_ U2<|Vb (bkT k 1) U8<|VW (s.u0) (3) U6 om_ U2<|V8 (c:=((s.u0 % 3:Nat):Int)) U8 (wrap_i64 om_ om_) U2<|Vc U6<|Vw (4) U9 k_ U2<|Vb (bkT k 1) U8<|VW (s.u1) (3) U6 om_ U2<|V8 (c:=((s.u1 % 3:Nat):Int)) U8 (wrap_i64 om_ om_) U2<|C6 2 [4,6,8,11,12,13] d U<|Va 1 U fun R d=>Vj ag U9<|C6 1 [4,6,8,11,12,13,68] d U<|G.cd (fun M=>?_) fun M=>?_
 ·have A:s.kind % 3=0:=by
   have:=dU M;omega
  refine Va 1 U fun R d=>Vw ((s.u1 % 3)) U9 (fun _=>⟨by omega,by omega,(by show s.u1 % 3=0+(s.u1 % 3)*1;omega)⟩) U2<|Wi (PtrTo.blockT (Mem.get L mup) (s.u1 % 3) 1) U6 (show cI _ ((([ae [65],ae [66],ae [67]]:List Value).drop (s.u1 % 3)).take 1)=some (ae (rX (s.u1 % 3))) from by rw[CU _ om_];rfl) U<|Vc U6<|Vk (j:=0) U12<|Vf [6,8] d U<|Vd fun R d=>Vj ag U9<|Vk (j:=1) U12<|Vf [6] d U<|Vo (VU ag U4 ?_);exact⟨U,by unfold ft;rw[aM A,x,A];rfl⟩
 have A:¬ s.kind % 3=0:=by
  intro e;rw[e]at M;exact absurd M dc_
 refine U1 3 [4,6,8,11,12,13,76] U<|G.cut (fun fr F l m=>(True)/\fr=[(4,[],p_ y),(6,[],p_ g),(8,[],p_ f),(11,[],p_ aB),(12,[],i_ (lo:Nat)),(13,[],i_ (up:Nat))]/\l=[.obj f (.cells ⟨[i_ (1+((s.kind % 3:Nat):Int)),ae [111,UInt8.ofNat (49+i)],ae (qtx p.1),ae (qtx p.2),ae [],ae [],ae [],ae [],ae [],ae []]⟩ 126 (0,0)),.obj g (.cells ⟨[i_ 0,ae [],ae [],ae [],ae [],ae [],ae [],ae [],ae [],ae []]⟩ 126 (0,0))]) ?_ (fun fr _ aV m _ o=>?_)
 ·refine G.cd (fun N=>?_) fun N=>?_
  ·have B:s.u0 % 3=s.u1 % 3:=by
    have:=dU N;omega
   have ab:lo=0:=by rw[<- v,loU,aM B]
   have ac:up=1+s.u1 % 3 % 2:=by rw[<- w,upU,aM B]
   subst ab;subst ac;refine Va 1 U fun R d=>VW ((s.u1 % 3)) (2) U6 om_ U2<|Vh _ U U6<|C6 2 [4,6,8,11,12,13] d U<|Vp 0 l_ (hn_ [4,6,8,11,12,13] U) ⟨trivial,U,U⟩
  have B:¬ s.u0 % 3=s.u1 % 3:=by
   intro e;rw[e,beq_self_eq_true]at N;exact absurd N dc_
  have ab:lo=s.u0 % 3:=by rw[<- v,loU,aF B]
  have ac:up=s.u1 % 3:=by rw[<- w,upU,aF B]
  subst ab;subst ac;refine Vp 0 l_ (hn_ [4,6,8,11,12,13] U) ⟨trivial,U,U⟩
 obtain⟨_,rfl,rfl⟩:=o;refine G.cut (fun fr F l m=>(True)/\fr=[(4,[],p_ y),(6,[],p_ g),(8,[],p_ f)]/\l=[.obj f (.cells ⟨[i_ (1+((s.kind % 3:Nat):Int)),ae [111,UInt8.ofNat (49+i)],ae (qtx p.1),ae (qtx p.2),ae [],ae (rX (max lo up)),ae (rX (min lo up)),ae [],ae [],ae []]⟩ 126 (0,0)),.obj g (.cells ⟨[i_ 0,ae [],ae [],ae [],ae [],ae [],ae [],ae [],ae [],ae []]⟩ 126 (0,0))]) ?_ (fun fr aW aX m aY o=>?_)
 ·refine VY (.cut [0,1,2,3,4,5,6,7,8,10] (.alt 9 (.fin [11,12,13]) (.alt 11 (.fin [9,12,13]) .stop))) [] U U kr_ fun R I d J=>Ve 2 U<|D.max (((max lo up:Nat):Int)) U6 om_ U2<|Vw ((max lo up)) U9 (fun _=>⟨by omega,by omega,(by show max lo up=0+(max lo up)*1;omega)⟩) U2<|Wi (PtrTo.blockT (Mem.get L mup) (max lo up) 1) U6 (show cI _ ((([ae [65],ae [66],ae [67]]:List Value).drop (max lo up)).take 1)=some (ae (rX (max lo up))) from by rw[CU _ om_];rfl) U<|Ve 2 U<|D.min (((min lo up:Nat):Int)) U6 om_ U2<|Vw ((min lo up)) U9 (fun _=>⟨by omega,by omega,(by show min lo up=0+(min lo up)*1;omega)⟩) U2<|Vc U6<|VL J U ⟨?_, ?_,trivial⟩
  ·exact Wi (PtrTo.blockT (Mem.get L mup) (min lo up) 1) U6 (show cI _ ((([ae [65],ae [66],ae [67]]:List Value).drop (min lo up)).take 1)=some (ae (rX (min lo up))) from by rw[CU _ om_];rfl) U<|Vk (j:=0) U12<|Vc U6<|Vk (j:=0) U12<|Vf [4,6,8] d U<|Vp 0 mup (hn_ [4,6,8] U) ⟨trivial,U,U⟩
  exact Vk (j:=0) U12<|Wi (PtrTo.blockT (Mem.get L mup) (min lo up) 1) U6 (show cI _ ((([ae [65],ae [66],ae [67]]:List Value).drop (min lo up)).take 1)=some (ae (rX (min lo up))) from by rw[CU _ om_];rfl) U<|Vc U6<|Vk (j:=0) U12<|Vf [4,6,8] d U<|Vp 0 mup (hn_ [4,6,8] U) ⟨trivial,U,U⟩
 obtain⟨_,rfl,rfl⟩:=o;refine Va 1 U fun R d=>Vj ag U9<|C6 1 [4,6,8,94] d U<|G.cd (fun O=>?_) fun O=>?_
 ·have Q:s.kind % 3=1:=by
   have:=dU O;omega
  refine Va 1 U fun R d=>Vb (bkT k 1) U8<|VW (s.depth) (12) U6 om_ U2<|VO (c:=((s.depth % 12:Nat):Int)) U8 (wrap_i64 om_ om_) fl_<|Vm (Gk _ r.m_ ((s.depth % 12:Nat):Int) 2 om_ om_ om_) U7 fl_<|Ve 4 U<|Vk (j:=0) U12<|Vf [6,8] d U<|Vd fun R d=>Vj ag U9<|Vk (j:=1) U12<|Vf [6] d U<|Vo (VU ag U4 ?_);exact⟨U,by unfold ft;rw[aF A,aM Q,x,v,w,Q];rfl⟩
 have Q:¬ s.kind % 3=1:=by
  intro e;rw[e]at O;exact absurd O dc_
 have aC:s.kind % 3=2:=by omega
 refine Va 1 U fun R d=>Vw (8) U9 k_ U2<|Vb (bkT k 1) U8<|V6 (s.n2.tmod 5) U6 dc_ U3<|VO (c:=(s.n2.tmod 5)) U8 (wrap_i64 om_ om_) fl_<|C6 1 [4,6,8,14] d U<|U1 2 [4,6,8,14,111] U<|G.cut (fun fr F l m=>(True)/\fr=[(4,[],p_ y),(6,[],p_ g),(8,[],p_ f),(14,[],i_ t)]/\l=[.obj f (.cells ⟨[i_ (1+((s.kind % 3:Nat):Int)),ae [111,UInt8.ofNat (49+i)],ae (qtx p.1),ae (qtx p.2),ae [],ae (rX (max lo up)),ae (rX (min lo up)),ae [],ae [],ae []]⟩ 126 (0,0)),.obj g (.cells ⟨[i_ 0,ae [],ae [],ae [],ae [],ae [],ae [],ae [],ae [],ae []]⟩ 126 (0,0))]) ?_ (fun fr _ aZ m _ o=>?_)
 ·refine G.cd (fun T=>?_) fun T=>?_
  ·have ad:s.n2.tmod 5=0:=dU T;have af:t=1:=by rw[<- E,fp,aM ad]
   subst af;refine U1 1 [4,6,8,14] U<|Vp 0 l_ (hn_ [4,6,8,14] U) ⟨trivial,U,U⟩
  have ad:¬ s.n2.tmod 5=0:=by
   intro e;rw[e]at T;exact absurd T dc_
  have af:t=s.n2.tmod 5:=by rw[<- E,fp,aF ad]
  subst af;refine Vp 0 l_ (hn_ [4,6,8,14] U) ⟨trivial,U,U⟩
 obtain⟨_,rfl,rfl⟩:=o;refine Vv [0,1,2,3,4,5,6,7,8,9,10,11,12,13,14,15,16] [(5,1),(11,1),(13,1),(4,0),(10,0)] U kr_ fun R I d=>Vc U6<|Vw (6) U9 k_ U2<|Vb (bkT k 1) U8<|V6 (s.n0.tmod 5) U6 dc_ U3<|V8 (c:=(s.n0.tmod 5)) U8 (wrap_i64 om_ om_) U2<|Vx (fun _=>(uf _ r.m_ (s.n0.tmod 5) om_)) U9<|Vc U6<|Vw (7) U9 k_ U2<|Vb (bkT k 1) U8<|V6 (s.n1.tmod 5) U6 dc_ U3<|V8 (c:=(s.n1.tmod 5)) U8 (wrap_i64 om_ om_) U2<|Vx (fun _=>(uf _ r.m_ (s.n1.tmod 5) om_)) U9<|Vc U6<|Vx (fun _=>(uf _ r.m_ t om_)) U9<|Vu [ae (qtx ((s.n0.tmod 5:Int):Rat)),ae (qtx ((s.n1.tmod 5:Int):Rat)),ae (qtx ((t:Int):Rat))] U8<|Vc U6<|Vk (j:=0) U12<|Vf [6,8] d U<|Vd fun R d=>Vj ag U9<|Vk (j:=1) U12<|Vf [6] d U<|Vo (VU ag U4 ?_);exact⟨U,by unfold ft;rw[aF A,aF Q,x,v,w,E,aC];rfl⟩
def Ep:Sgt:=⟨0,0,0,0,0,0,0,0,0⟩
def colK:List Lay:=[⟨[65],0,none⟩,⟨[66],0,some 5⟩,⟨[67],1,none⟩]
theorem J5:qtx 5=[53]:=by
 show qtx ((5:Int):Rat)=_;rw[nD];decide +kernel
theorem Lm:colK.map vu=[[ae [65],ae [48],ae []],[ae [66],ae [48],ae [53]],[ae [67],ae [49],ae []]]:=by
 simp only[colK,List.map,vu,wa,qtx_zero,dF,J5]
def wb (S:Sht)(l:List Sgt):List Obs:=(List.range (min l.length 6)).map fun i=>ft S (l.getD i Ep) i
def dW (S:Sht)(H:Hts)(l:List Sgt):Bk:=⟨cA (S.kd % 8) S.a S.b S.h,shT (S.kd % 8),(fsK (cA (S.kd % 8) S.a S.b S.h).length H).map qtx,colK,wb S l⟩
theorem lZ (S:Sht)(l:List Sgt):(wb S l).length=min l.length 6:=by simp[wb]
theorem GZ (S:Sht){l:List Sgt}{s:Sgt}(h:l[i]?=some s)(a:i<6):(wb S l)[i]?=some (ft S s i):=by
 have h1:=(aJ.1 h).1;rw[wb,Rr,RY om_];show some (ft S (l.getD i Ep) i)=_;rw[am,h];rfl
theorem Hi (C:Mem)(q:Tabs C)(S:Sht)(H:Hts)(W:Value)(l:List Sgt)(X:S.kd<256)(A:Jb H)(L:Sl C 9 W (l.map O8))(hs:∀ s∈l,SgtR s)(hG:Good (cA (S.kd % 8) S.a S.b S.h) (shT (S.kd % 8))) :
  Pur cx.P 12 [.agg ⟨NR S H W⟩] C fun u D=>BookIn D u (dW S H l):=by
 obtain⟨As,cs,rfl,aj,av,_⟩:=id L;have aw:=mx_
 simp only[au]at L aj⊢;have ay:=ie (S.kd % 8) S.a S.b S.h;refine Vi func12 44 U3 fun w0=>Vd fun R f=>Vs U6 fun Y=>Vt U5 fun v=>Vf [1,2] f U<|G.freeze 1 U fun _ _ B=>Va 1 U fun R f=>Vb (bkT B 4) U8<|VJ (xV _ q.m_ S.kd S.a S.b S.h X) U7 (fun v8 _ _ Z=>?_);obtain⟨v1,v2,rfl,M,N⟩:=id Z.ex;obtain⟨k,n,rfl,al,az,_⟩:=id M;obtain⟨A2,c2,rfl,_,_,_⟩:=id N;simp only[au]at M N al Z⊢;refine Vt U5 fun b3=>Vk (j:=0) U12<|Vf [1,2,3] f U<|G.freeze 0 U fun _ _ aa=>G.cut (fun fr O E Q=>∃ (c:Option Addr)(d:Nat)(x:Value)(g:Nat),(Sl O 1 (.slice c (fsK (cA (S.kd % 8) S.a S.b S.h).length H).length d) ((fsK (cA (S.kd % 8) S.a S.b S.h).length H).map dJ)/\Sl O 3 x [[ae [65],ae [48],ae []],[ae [66],ae [48],ae [53]],[ae [67],ae [49],ae []]])/\fr=[(1,[],p_ Y),(2,[],p_ v),(4,[],p_ g)]/\E=[.obj g (.cells ⟨[.slice k (cA (S.kd % 8) S.a S.b S.h).length n,.slice A2 (shT (S.kd % 8)).length c2,.slice c (fsK (cA (S.kd % 8) S.a S.b S.h).length H).length d,x,.slice none 0 0]⟩ 45 (0,0)),.obj v (.cells ⟨[.slice none 0 0,.slice none 0 0,.slice none 0 0,.slice none 0 0,.slice none 0 0]⟩ 45 (0,0))]) ?_ (fun fr aA aB Q aC T=>?_)
 ·refine VY (.cut [0,1,2,3,5,6,7] (.alt 4 (.cut [] (.alt 8 (.fin [9,10,11]) (.alt 10 (.fin [8,9,11]) .stop))) (.alt 8 (.cut [] (.alt 4 (.fin [9,10,11]) (.alt 10 (.fin [4,9,11]) .stop))) (.alt 10 (.cut [] (.alt 4 (.fin [8,9,11]) (.alt 8 (.fin [4,9,11]) .stop))) .stop)))) [] U U kr_ fun R hB f F=>Vb (bkT aa 2) U8<|Vb (bkT aa 2) U8<|Vc U6<|Vb (bkT B 7) U8<|Vu ([ae [65],ae [48],ae []]) U8<|Vu ([ae [66],ae [48],ae [53]]) U8<|Vu ([ae [67],ae [49],ae []]) U8<|VL F U ⟨?_, ?_, ?_,trivial⟩
  ·refine VC (fS _ q.m_ _ _ (cA (S.kd % 8) S.a S.b S.h).length k n H U om_ A) U7 fl_ fun I J _ e=>VL F U ⟨?_, ?_,trivial⟩
   ·refine VZ [[ae [65],ae [48],ae []],[ae [66],ae [48],ae [53]],[ae [67],ae [49],ae []]] U12 fl_ (fun o K _ p=>?_);obtain⟨c,d,rfl,_,_,_⟩:=id e;simp only[au]at e⊢;exact Vu [.slice k (cA (S.kd % 8) S.a S.b S.h).length n,.slice A2 (shT (S.kd % 8)).length c2,.slice c (fsK (cA (S.kd % 8) S.a S.b S.h).length H).length d,s_ o 3 3,.slice none 0 0] U8<|Vt U5 fun g=>Vk (j:=0) U12<|Vf [1,2,4] f U<|Vp 0 mup (hn_ [1,2,4] U) ⟨c,d,_,g,⟨e.mono mup,p.mono mup⟩,U,U⟩
   refine Vt U5 fun g=>VZ [[ae [65],ae [48],ae []],[ae [66],ae [48],ae [53]],[ae [67],ae [49],ae []]] U12 fl_ (fun o K _ p=>?_);obtain⟨c,d,rfl,_,_,_⟩:=id e;simp only[au]at e⊢;exact Vu [.slice k (cA (S.kd % 8) S.a S.b S.h).length n,.slice A2 (shT (S.kd % 8)).length c2,.slice c (fsK (cA (S.kd % 8) S.a S.b S.h).length H).length d,s_ o 3 3,.slice none 0 0] U8<|Vk (j:=0) U12<|Vf [1,2,4] f U<|Vp 0 mup (hn_ [1,2,4] U) ⟨c,d,_,g,⟨e.mono mup,p.mono mup⟩,U,U⟩
  ·refine VZ [[ae [65],ae [48],ae []],[ae [66],ae [48],ae [53]],[ae [67],ae [49],ae []]] U12 fl_ fun o K _ p=>VL F U ⟨?_, ?_,trivial⟩
   ·refine VC (fS _ q.m_ _ _ (cA (S.kd % 8) S.a S.b S.h).length k n H U om_ A) U7 fl_ (fun I J _ e=>?_);obtain⟨c,d,rfl,_,_,_⟩:=id e;simp only[au]at e⊢;exact Vu [.slice k (cA (S.kd % 8) S.a S.b S.h).length n,.slice A2 (shT (S.kd % 8)).length c2,.slice c (fsK (cA (S.kd % 8) S.a S.b S.h).length H).length d,s_ o 3 3,.slice none 0 0] U8<|Vt U5 fun g=>Vk (j:=0) U12<|Vf [1,2,4] f U<|Vp 0 mup (hn_ [1,2,4] U) ⟨c,d,_,g,⟨e.mono mup,p.mono mup⟩,U,U⟩
   refine Vt U5 fun g=>VC (fS _ q.m_ _ _ (cA (S.kd % 8) S.a S.b S.h).length k n H U om_ A) U7 fl_ (fun I J _ e=>?_);obtain⟨c,d,rfl,_,_,_⟩:=id e;simp only[au]at e⊢;exact Vu [.slice k (cA (S.kd % 8) S.a S.b S.h).length n,.slice A2 (shT (S.kd % 8)).length c2,.slice c (fsK (cA (S.kd % 8) S.a S.b S.h).length H).length d,s_ o 3 3,.slice none 0 0] U8<|Vk (j:=0) U12<|Vf [1,2,4] f U<|Vp 0 mup (hn_ [1,2,4] U) ⟨c,d,_,g,⟨e.mono mup,p.mono mup⟩,U,U⟩
  refine Vt U5 fun g=>VL F U ⟨?_, ?_,trivial⟩
  ·refine VC (fS _ q.m_ _ _ (cA (S.kd % 8) S.a S.b S.h).length k n H U om_ A) U7 fl_ fun I J _ e=>VZ [[ae [65],ae [48],ae []],[ae [66],ae [48],ae [53]],[ae [67],ae [49],ae []]] U12 fl_ (fun o K _ p=>?_);obtain⟨c,d,rfl,_,_,_⟩:=id e;simp only[au]at e⊢;exact Vu [.slice k (cA (S.kd % 8) S.a S.b S.h).length n,.slice A2 (shT (S.kd % 8)).length c2,.slice c (fsK (cA (S.kd % 8) S.a S.b S.h).length H).length d,s_ o 3 3,.slice none 0 0] U8<|Vk (j:=0) U12<|Vf [1,2,4] f U<|Vp 0 mup (hn_ [1,2,4] U) ⟨c,d,_,g,⟨e.mono mup,p.mono mup⟩,U,U⟩
  refine VZ [[ae [65],ae [48],ae []],[ae [66],ae [48],ae [53]],[ae [67],ae [49],ae []]] U12 fl_ fun o K _ p=>VC (fS _ q.m_ _ _ (cA (S.kd % 8) S.a S.b S.h).length k n H U om_ A) U7 fl_ (fun I J _ e=>?_);obtain⟨c,d,rfl,_,_,_⟩:=id e;simp only[au]at e⊢;exact Vu [.slice k (cA (S.kd % 8) S.a S.b S.h).length n,.slice A2 (shT (S.kd % 8)).length c2,.slice c (fsK (cA (S.kd % 8) S.a S.b S.h).length H).length d,s_ o 3 3,.slice none 0 0] U8<|Vk (j:=0) U12<|Vf [1,2,4] f U<|Vp 0 mup (hn_ [1,2,4] U) ⟨c,d,_,g,⟨e.mono mup,p.mono mup⟩,U,U⟩
 obtain⟨c,d,x,g,⟨am,ab⟩,rfl,rfl⟩:=T;refine U1 1 [1,2,4,5] U<|G.nilArr 126 10<|G.perm (L':=[.obj g (.cells ⟨[.slice k (cA (S.kd % 8) S.a S.b S.h).length n,.slice A2 (shT (S.kd % 8)).length c2,.slice c (fsK (cA (S.kd % 8) S.a S.b S.h).length H).length d,x,.slice none 0 0]⟩ 45 (0,0)),.arr (.slice none 0 0) 126 10 0 [],.obj v (.cells ⟨[.slice none 0 0,.slice none 0 0,.slice none 0 0,.slice none 0 0,.slice none 0 0]⟩ 45 (0,0))]) (List.Perm.swap _ _ _)<|G.loop (fun fr O E Q=>∃ (i:Nat)(w:Value),(i<=l.length/\i<=6)/\fr=[(1,[],p_ Y),(2,[],p_ v),(4,[],p_ g),(5,[],i_ i)]/\E=[.obj g (.cells ⟨[.slice k (cA (S.kd % 8) S.a S.b S.h).length n,.slice A2 (shT (S.kd % 8)).length c2,.slice c (fsK (cA (S.kd % 8) S.a S.b S.h).length H).length d,x,w]⟩ 45 (0,0)),.arr w 126 10 ((wb S l).take i).length (((wb S l).take i).map sb).flatten,.obj v (.cells ⟨[.slice none 0 0,.slice none 0 0,.slice none 0 0,.slice none 0 0,.slice none 0 0]⟩ 45 (0,0))]/\Q=6-i) (hn_ [1,2,4,5] U) ⟨0,.slice none 0 0,⟨Rv _,Rv _⟩,U,U,U⟩ (fun fr aD aE m _ T=>?_);obtain⟨i,w,⟨hi,aF⟩,rfl,rfl,rfl⟩:=T;refine Va 2 U fun R f=>Vb (bkT B 1) U8<|Ve 5 U<|Vz U8<|Vf [1,2,4,5,27] f U<|G.cd (fun t=>?_) fun t=>?_
 ·have z:i<l.length/\i<6:=by
   by_cases h1:((i:Nat):Int)<(l.length:Nat)
   ·rw[RJ h1]at t;have h2:=QL t;omega
   rw[RU h1]at t;exact absurd t ak
  obtain⟨s,V⟩:∃ s,l[i]?=some s:=⟨l[i]'z.1,ai z.1⟩;have an:(wb S l).take (i+1)=(wb S l).take i++[ft S s i]:=by rw[RR,GZ S V z.2];rfl
  have aG:((wb S l).take i).length<=6:=by rw[RE,lZ];omega
  refine Vv [0,1,2,3,4,5,6,7,8,9,10,11,12,13] [] U kr_ fun R hB f=>Vc U6<|Vj ag U9<|Vb (bkT B 12) U8<|Vc U6<|Vb (bkT B 1) U8<|Vc U6<|Vq L.m_ U10 om_ (cq V) fl_ fun aH ao=>Vb ao U8<|Vc U6<|VJ (rV _ q.m_ S s H _ i z.2 X (hs s (aU V)) hG) U7 (fun aI _ _ ap=>?_);subst ap;refine Vy [sb (ft S s i)] U12 fun aJ _ _ aq=>VF (j:=1) U11 aq.m_ U ax (by simp only[Rp];omega) fl_ fun ac ad af=>Vc U6<|Vk (j:=1) U12<|Vf [1,2,4,5] f U<|Va 1 U fun R f=>Vh _ U U6<|C6 1 [1,2,4,5] f U<|Vr (L':=[.obj g (.cells ⟨[.slice k (cA (S.kd % 8) S.a S.b S.h).length n,.slice A2 (shT (S.kd % 8)).length c2,.slice c (fsK (cA (S.kd % 8) S.a S.b S.h).length H).length d,x,.slice ac ad af]⟩ 45 (0,0)),.arr (.slice ac ad af) 126 10 ((wb S l).take (i+1)).length (((wb S l).take (i+1)).map sb).flatten,.obj v (.cells ⟨[.slice none 0 0,.slice none 0 0,.slice none 0 0,.slice none 0 0,.slice none 0 0]⟩ 45 (0,0))]) (by rw[an,R3,R4,Ru];rfl)<|Vn (m':=6-(i+1)) om_ mup (hn_ [1,2,4,5] U) ⟨i+1,_,⟨by omega,by omega⟩,U,U,U⟩
 have z:i=min l.length 6:=by
  by_cases h1:((i:Nat):Int)<(l.length:Nat)
  ·rw[RJ h1]at t;have h2:=Rt t;omega
  omega
 have ar:(wb S l).take i=wb S l:=RN (by rw[z,lZ];exact Ro _);rw[ar];refine G.freezeArr 1 ((wb S l).map sb) rfl rfl (by intro r hr;obtain⟨y,_,rfl⟩:=Rs.1 hr;rfl) (by rw[au]) (fun Cg hg ah=>?_);obtain⟨Aw,cw,rfl,_⟩:=id ah;obtain⟨Ap,cp,rfl,_⟩:=id ab;refine Vd fun R f=>Vj ag U9<|Vk (j:=1) U12<|Vf [2] f U<|Vo (VU ag U4 ?_);exact⟨U,_,_,_,_,_,U,M.mono mup,N.mono mup,(by rw[dW,<- fW];exact am.mono mup),(by rw[dW,Lm];exact ab.mono mup),ah⟩
instance:DecidableEq RowQ:=fun a b=>decidable_of_iff (a.f=b.f/\a.b=b.b) (by cases a;cases b;simp)
instance (k:Nat) (q:Rat):Decidable (QB k q):=by unfold QB;infer_instance
instance (k:Nat) (p:Pt):Decidable (QP k p):=by unfold QP;infer_instance
instance (n:Nat) (t:Tri):Decidable (nW n t):=by unfold nW;infer_instance
theorem ib (h:txt z=s):qtx ((z:Int):Rat)=s:=by rw[nD,h]
theorem NG (q:Rat)(h:qtx q=s)(a:QB 22 q):dm s=q:=by rw[<- h];exact cR (bh a)
theorem M2 (a:List Pt)(t:Tri)(p:Pt)(j:Nat):wgt a t p j=wgt a t p (j % 3):=by
 unfold wgt;rw[show(j+1) % 3=(j % 3+1) % 3 by omega,show(j+2) % 3=(j % 3+2) % 3 by omega]
theorem Jp (t:Tri)(j:Nat):gY t j=gY t (min j 2):=by
 unfold gY;rcases(by omega:j=0∨j=1∨2<=j) with h|h|h
 ·subst h;rfl
 ·subst h;rfl
 rw[Nat.min_eq_right h,aF om_,aF om_];rfl
theorem q6:qtx 6=[54]:=by decide +kernel
def Kc (m:Nat)(u v:Int)(h:Bool):List Pt:=(shP m).map fun p=>(lC (p.1+u*1) (dV h*1),lC (p.2+v*1) (dV h*1))
theorem PY (m:Nat)(a b:Int)(h:Bool):cA m a b h=Kc m (a.tmod 8) (b.tmod 8) h:=rfl
def qX (pts:List Pt)(tris:List Tri):Bool :=
 pts.all (fun p=>decide (QP 1 p)) && (decide pts.Nodup && (tris.all (fun t=>decide (nW pts.length t)) && (tris.all (fun t=>decide (0<cJ (pts.getD t.1 (0,0)) (pts.getD t.2.1 (0,0)) (pts.getD t.2.2 (0,0)))) && (decide (bO tris).Nodup && (oa pts tris && pts.all fun p=>decide (kC pts tris p≠[]))))))
theorem all0:∀ i<15,∀ j<15,∀ h:Bool,qX (Kc 0 ((i:Nat)-7) ((j:Nat)-7) h) (shT 0)=true:=by decide +kernel
theorem sh1 {n:Str}(a:cY n=true)(b:cY u=true)(c:aR x=true)(d:aR y=true):dZ ⟨1,n,x,y,[],u,[],[],[],[]⟩=0:=by
 unfold dZ;rw[aF ak,aF (by simp[lf,a,b]),aF (by simp[ma,c,d]),aF (by simp[lm])]
theorem sh2 {n d l:Str}(a:cY n=true)(b:cY u=true)(c:cY l=true)(e:aR x=true)(f:aR y=true)(g:aR d=true):dZ ⟨2,n,x,y,d,u,l,[],[],[]⟩=0:=by
 unfold dZ;rw[aF ak,aF (by simp[lf,a,b,c]),aF (by simp[ma,e,f,g]),aF (by simp[lm])]
theorem sh3 {n l a b c:Str}(d:cY n=true)(e:cY u=true)(f:cY l=true)(g:aR x=true)(h:aR y=true)(i:aR a=true)(j:aR b=true)(k:aR c=true):dZ ⟨3,n,x,y,[],u,l,a,b,c⟩=0:=by
 unfold dZ;rw[aF ak,aF (by simp[lf,d,e,f]),aF (by simp[ma,g,h,i,j,k]),aF (by simp[lm])]
theorem qT (j:Nat)(a:j<3):jt (isU (rX j)) colK 0=(j:Int):=by
 rcases(by omega:j=0∨j=1∨j=2) with rfl|rfl|rfl <;> decide +kernel
theorem uZ (j:Nat)(a:j<3):cY (rX j)=true:=by
 rcases(by omega:j=0∨j=1∨j=2) with rfl|rfl|rfl <;> decide +kernel
theorem N8 (i:Nat)(a:i<6):cY [111,UInt8.ofNat (49+i)]=true:=by
 rcases(by omega:i=0∨i=1∨i=2∨i=3∨i=4∨i=5) with rfl|rfl|rfl|rfl|rfl|rfl <;> decide +kernel
theorem P9 (c:i<6)(d:j<6)(h:([111,UInt8.ofNat (49+i)]:Str)=[111,UInt8.ofNat (49+j)]):i=j:=by
 have e:∀ a<6,∀ b<6,([111,UInt8.ofNat (49+a)]:Str)=[111,UInt8.ofNat (49+b)]->a=b:=by decide
 exact e i c j d h
theorem KD (s:Sgt):min (loU s) (upU s)<max (loU s) (upU s):=by
 unfold loU upU;split <;> omega
theorem ek (z:Int)(h:z.natAbs<100):QB 1 ((z:Int):Rat):=by
 refine⟨?_, ?_⟩
 ·show z.natAbs<B9 ^ 1;have:B9 ^ 1=1000000000:=by decide
  omega
 show 1<B9 ^ 1;decide
theorem uX (z:Int):fp z≠0:=by
 unfold fp;split
 ·decide
 assumption
theorem oU (z:Int):-5<fp z/\fp z<5:=by
 have:=oz z;unfold fp;split <;> omega
theorem ok1 (h:QB 1 q):aR (qtx q)=true:=bh (h.le dc_)
theorem tI (n:Nat):QB 1 (lC ((n % 12:Nat):Int) 2):=rn dc_ om_ dc_
theorem OG (n:Nat):¬ (lC ((n % 12:Nat):Int) 2<0):=by
 have a:∀ k<12,¬ (lC ((k:Nat):Int) 2<0):=by decide +kernel
 exact a _ (R9 _ dc_)
theorem Ks (S:Sht)(s:Sgt)(i:Nat)(m:i<6)(j:QP 1 (kX S s))(n:kC (cA (S.kd % 8) S.a S.b S.h) (shT (S.kd % 8)) (kX S s)≠[]) :
  ig (cA (S.kd % 8) S.a S.b S.h) (shT (S.kd % 8)) colK (ft S s i)=0:=by
 have f:=N8 i m;have c:=ok1 j.1;have hy:=ok1 j.2;have q:=KD s;have r:=Og s;have t:=M6 s;have g:∀ o:Obs,o.x=qtx (kX S s).1->o.y=qtx (kX S s).2->Lj (cA (S.kd % 8) S.a S.b S.h) (shT (S.kd % 8)) o=true:=by
  intro o h1 h2;unfold Lj ptO;rw[h1,h2,cR c,cR hy];exact RJ n
 have p:=qT (s.u1 % 3) om_;have d:=qT (max (loU s) (upU s)) om_;have e:=qT (min (loU s) (upU s)) om_;have n1:=uZ (s.u1 % 3) om_;have n2:=uZ (max (loU s) (upU s)) om_;have k:=uZ (min (loU s) (upU s)) om_;unfold ft ig;split
 ·rw[aF (by rw[sh1 f n1 c hy];decide),aF (by rw[g _ rfl rfl];decide),aF (by simp[LY,p] <;> omega),aF (by simp[ordB]),aF (by simp[depB]),aF (by simp[Jd])]
 split
 ·have l:=ok1 (tI s.depth);rw[aF (by rw[sh2 f n2 k c hy l];decide),aF (by rw[g _ rfl rfl];decide),aF (by simp only[LY,d,e];simp <;> omega),aF (by simp only[ordB,d,e];simp <;> omega),aF (by simp only[depB];rw[cR l,RU (OG s.depth)];decide),aF (by simp[Jd])]
 have h0:=oz s.n0;have h1:=oz s.n1;have h2:=oU s.n2;rw[aF (by rw[sh3 f n2 k c hy (ok1 (ek _ om_)) (ok1 (ek _ om_)) (ok1 (ek _ om_))];decide),aF (by rw[g _ rfl rfl];decide),aF (by simp only[LY,d,e];simp <;> omega),aF (by simp only[ordB,d,e];simp <;> omega),aF (by simp[depB]),aF ?_];intro h;simp only[Jd,RG,Ry]at h;have h3:=h.2;rw[<- qtx_zero]at h3;have h4:=jg h3;have h5:=uX s.n2;exact h5 (by exact_mod_cast h4)
theorem all1:∀ i<15,∀ j<15,∀ h:Bool,qX (Kc 1 ((i:Nat)-7) ((j:Nat)-7) h) (shT 1)=true:=by decide +kernel
theorem all2:∀ i<15,∀ j<15,∀ h:Bool,qX (Kc 2 ((i:Nat)-7) ((j:Nat)-7) h) (shT 2)=true:=by decide +kernel
theorem all3:∀ i<15,∀ j<15,∀ h:Bool,qX (Kc 3 ((i:Nat)-7) ((j:Nat)-7) h) (shT 3)=true:=by decide +kernel
theorem all4:∀ i<15,∀ j<15,∀ h:Bool,qX (Kc 4 ((i:Nat)-7) ((j:Nat)-7) h) (shT 4)=true:=by decide +kernel
theorem all5:∀ i<15,∀ j<15,∀ h:Bool,qX (Kc 5 ((i:Nat)-7) ((j:Nat)-7) h) (shT 5)=true:=by decide +kernel
theorem all6:∀ i<15,∀ j<15,∀ h:Bool,qX (Kc 6 ((i:Nat)-7) ((j:Nat)-7) h) (shT 6)=true:=by decide +kernel
theorem all7:∀ i<15,∀ j<15,∀ h:Bool,qX (Kc 7 ((i:Nat)-7) ((j:Nat)-7) h) (shT 7)=true:=by decide +kernel
theorem wA (a:Int):∃ i:Nat,i<15/\a.tmod 8=(i:Int)-7:=by
 have h:=zo a;exact⟨(a.tmod 8+7).toNat,by omega,by omega⟩
theorem zy (m:Nat)(g:m<8)(a b:Int)(h:Bool):qX (cA m a b h) (shT m)=true:=by
 obtain⟨i,c,e⟩:=wA a;obtain⟨j,d,f⟩:=wA b;rw[PY,e,f];rcases(by omega:m=0∨m=1∨m=2∨m=3∨m=4∨m=5∨m=6∨m=7) with rfl|rfl|rfl|rfl|rfl|rfl|rfl|rfl
 ·exact all0 i c j d h
 ·exact all1 i c j d h
 ·exact all2 i c j d h
 ·exact all3 i c j d h
 ·exact all4 i c j d h
 ·exact all5 i c j d h
 ·exact all6 i c j d h
 exact all7 i c j d h
theorem Nj:∀ m:Nat,m<8->shT m≠[]/\(shT m).length<=800:=by decide
theorem HN {a:List Pt}{b:List Tri}(h:qX a b=true)(c:b≠[])(d:b.length<=800)(e:a.length<=400):Good a b/\∀ p∈a,kC a b p≠[]:=by
 unfold qX at h;simp only[RG,RI,Ry]at h;obtain⟨f,g,i,j,k,l,m⟩:=h;exact⟨⟨⟨f,g,i,j,k,d,e⟩,c,l⟩,m⟩
theorem gH (m:Nat)(c:m<8)(a b:Int)(h:Bool):Good (cA m a b h) (shT m)/\∀ p∈cA m a b h,kC (cA m a b h) (shT m) p≠[]:=by
 have d:=ie m a b h;obtain⟨h0,h1⟩:=Nj m c;exact HN (zy m c a b h) h0 h1 om_
theorem uE (S:Sht)(s:Sgt)(c:SgtR s):QP 1 (kX S s)/\kC (cA (S.kd % 8) S.a S.b S.h) (shT (S.kd % 8)) (kX S s)≠[]:=by
 obtain⟨d,e⟩:=gH (S.kd % 8) (R9 _ dc_) S.a S.b S.h;have f:0<(cA (S.kd % 8) S.a S.b S.h).length:=by rw[cA,au];exact zz _
 unfold kX;split
 ·rename_i h;exact⟨CB dc_ dc_ c.px c.py,h⟩
 have g:s.depth % (cA (S.kd % 8) S.a S.b S.h).length<(cA (S.kd % 8) S.a S.b S.h).length:=R9 _ f;rw[am,ai g,SG];exact⟨d.ok.q _ (Sj _),e _ (Sj _)⟩
theorem io (h:QB 1 q):(qtx q).length<=999998:=xo (fs:=[q]) (k:=1) dc_ (by intro y hy;rw[RK]at hy;rw[hy];exact h) _ (RK.2 rfl)
theorem Q7 (S:Sht)(s:Sgt)(i:Nat)(c:SgtR s):ObsR (ft S s i):=by
 have b:=(uE S s c).1;have a:=io b.1;have hy:=io b.2;have d:=io (tI s.depth);have h0:=oz s.n0;have h1:=oz s.n1;have h2:=oU s.n2;have e:=io (ek (s.n0.tmod 5) om_);have l1:=io (ek (s.n1.tmod 5) om_);have l2:=io (ek (fp s.n2) om_);unfold ft;split
 ·exact⟨by simp,a,hy,by simp,by simp[rX],by simp,by simp,by simp,by simp⟩
 split
 ·exact⟨by simp,a,hy,d,by simp[rX],by simp[rX],by simp,by simp,by simp⟩
 exact⟨by simp,a,hy,by simp,by simp[rX],by simp[rX],e,l1,l2⟩
theorem xK (S:Sht)(s:Sgt)(i:Nat):(ft S s i).name=[111,UInt8.ofNat (49+i)]:=by
 unfold ft;split
 ·rfl
 split <;> rfl
theorem mW {S:Sht}{H:Hts}{l:List Sgt}{o:Obs}(h:(dW S H l).obs[i]?=some o):i<6/\∃ s,l[i]?=some s/\o=ft S s i:=by
 have h1:=(aJ.1 h).1;have h2:i<(wb S l).length:=h1;rw[lZ]at h2;have h3:=GZ S (ai (show i<l.length by omega)) (show i<6 by omega);have h4:(wb S l)[i]?=some o:=h;rw[h3]at h4;exact⟨by omega,_,ai om_,(Sx h4).symm⟩
theorem E3 (S:Sht)(H:Hts)(l:List Sgt)(e:∀ s∈l,SgtR s):iK (dW S H l)=0:=by
 have f:∀ n,n<=(dW S H l).obs.length->wc (dW S H l) n=0:=by
  intro n;induction n with
 |zero=>intro _;rfl
 |succ n g =>
   intro i;have h0:=g om_;have a:(dW S H l).obs[n]?=some (dW S H l).obs[n]:=ai i;rw[uN h0 a];obtain⟨b,s,j,m⟩:=mW a;rw[m];have c:=uE S s (e s (aU j));unfold obZ;rw[aF (by
    have:=Ks S s n b c.1 c.2;intro h;exact h this),aF]
   intro hm;obtain⟨o,p,d⟩:=Rs.1 hm;obtain⟨k,x,r⟩:=List.mem_take_iff_getElem.1 p;have t:(dW S H l).obs[k]?=some o:=by rw[<- r];exact ai _
   obtain⟨u,y,_,v⟩:=mW t;rw[v,xK,xK]at d;have:=P9 u b d;omega
 unfold iK;have z:(dW S H l).obs.length<=6:=by
  show(wb S l).length<=6;rw[lZ];omega
 have h1:nj (dW S H l).pts.length (dW S H l).terr=0:=by
  unfold nj;rw[aM (by show((fsK _ H).map qtx).length=_;rw[au,nN];rfl)];show oH (((fsK _ H).map qtx).all aR)=0;rw[yU (fun q w=>ok1 (yp _ H q w))];rfl
 have h2:sf (dW S H l).col=0:=by
  show sf colK=0;decide +kernel
 rw[aF (by rw[h1];decide),aF (by rw[h2];decide),aF om_];exact f _ (Ro _)
theorem Rh:∀ x∈colK,Pc x:=by
 intro x a;simp only[colK,RC,Ss,TS]at a;rcases a with rfl|rfl|rfl
 ·exact⟨by decide +kernel,fun q h=>by simp at h,by decide⟩
 ·exact⟨by decide +kernel,fun q h=>by simp at h;subst h;decide +kernel,by decide⟩
 exact⟨by decide +kernel,fun q h=>by simp at h,by decide⟩
theorem OR (S:Sht)(H:Hts)(l:List Sgt)(a:∀ s∈l,SgtR s):BookR (dW S H l):=by
 refine⟨?_,Rh,(by show colK.length<=1000000;decide), ?_⟩
 ·intro s h;obtain⟨q,b,rfl⟩:=Rs.1 h;exact io (yp _ H q b)
 intro o c;obtain⟨i,d⟩:=List.mem_iff_getElem?.1 c;obtain⟨_,s,e,rfl⟩:=mW d;exact Q7 S s i (a s (aU e))
theorem Dv (S:Sht)(H:Hts)(l:List Sgt):bs (dW S H l)=2:=rfl
theorem Lw (S:Sht)(H:Hts)(l:List Sgt):0<bp (dW S H l)/\bp (dW S H l)<=6:=by
 refine⟨?_,ie _ _ _ _⟩;show 0<(cA (S.kd % 8) S.a S.b S.h).length;rw[cA,au];exact zz _
def IW (C:Mem)(pv:Value)(S:Sht)(H:Hts)(l:List Sgt):Prop:=∃ A c,pv=.agg ⟨NR S H (.slice A l.length c)⟩/\Sl C 9 (.slice A l.length c) (l.map O8)
structure PlanR (S:Sht)(H:Hts)(l:List Sgt):Prop where
 kd:S.kd<256
 h:Jb H
 s:∀ s∈l,SgtR s
def LW (s p:Nat)(a b:Int):Prop:=a<0∨(s:Int)<=a∨b<0∨(p:Int)<=b
instance (s p:Nat) (a b:Int):Decidable (LW s p a b):=by unfold LW;infer_instance
def Mn (n:Nat)(x:Int):Prop:=x<0∨(n:Int)<=x
instance (n:Nat) (x:Int):Decidable (Mn n x):=by unfold Mn;infer_instance
open Go Go.Jog Go.ChangeShapes Go.WideShapes Go.ChangeAt Go.RowKit
set_option maxRecDepth 100000
theorem own:ownKnob Tryz.prog.godebug=none:=by kernel_rfl
section
variable {H:Type} {enc:TypeId × Value->H} {W:World} {spare:Nat->Bool} {held:Bool}
theorem QZ {n:Nat}{c:Value}{y:DataW H × List MemPlace}(h:DataW.trod enc Tryz.prog W 0 spare held n 5 [c]=some y):∃ b:UInt8,c=.int .u8 b.toNat:=by
 obtain⟨m,h1,_,h3⟩:=DataW.trod_int Tryz.underlying5 h;simp only[Tz,Uu]at h1;subst h1;have a:0<=m/\m<256:=by
  simp[Lit.wf,IntKind.min,IntKind.max,IntKind.signed,IntKind.bits]at h3;omega
 refine⟨UInt8.ofNat m.toNat, ?_⟩;congr 1;simp only[UInt8.toNat_ofNat'];omega
theorem ww {n:Nat}{c:Value}{y:DataW H × List MemPlace}(h:DataW.trod enc Tryz.prog W 0 spare held n 5 [c]=some y):∃ m:Nat,c=.int .u8 m/\m<256:=by
 obtain⟨b,rfl⟩:=QZ h;exact⟨b.toNat,U,b.toNat_lt⟩
theorem nL {n:Nat}{c:Value}{y:DataW H × List MemPlace}(h:DataW.trod enc Tryz.prog W 0 spare held n 22 [c]=some y):∃ m:Int,c=.int .i8 m/\-128<=m/\m<=127:=by
 obtain⟨m,h1,_,h3⟩:=DataW.trod_int Tryz.underlying22 h;simp only[Tz,Uu]at h1;refine⟨m,h1, ?_⟩;simp[Lit.wf,IntKind.min,IntKind.max,IntKind.signed,IntKind.bits]at h3;omega
theorem IJ {n:Nat}{c:Value}{y:DataW H × List MemPlace}(h:DataW.trod enc Tryz.prog W 0 spare held n 4 [c]=some y):∃ b:Bool,c=.bool b:=by
 obtain⟨b,h1,_⟩:=DataW.trod_bool Tryz.underlying4 h;simp only[Tz,Uu]at h1;exact⟨b,h1⟩
theorem yT {t e:TypeId}{k n:Nat}{a:List Value}{y:DataW H × List MemPlace}(b:Tryz.prog.underlying t=some (.array k e))(c:Tryz.prog.cellsOf e=1)(h:DataW.trod enc Tryz.prog W 0 spare held n t a=some y) :
  ∃ m,∀ i,i<k->∃ z,DataW.trod enc Tryz.prog W 0 spare held m e ((a.drop i).take 1)=some z:=by
 obtain⟨xs,m,_,_,_,g,d⟩:=DataW.trod_array b h;refine⟨m,fun i f=>?_⟩;have h1:=d i f;rw[c,SL]at h1;rw[h1,ai om_];exact⟨_,U⟩
theorem vL:Tryz.prog.cellsOf 5=1:=by kernel_rfl
theorem pd:Tryz.prog.cellsOf 22=1:=by kernel_rfl
theorem tO:Tryz.prog.cellsOf 4=1:=by kernel_rfl
theorem yM:Tryz.prog.cellsOf 23=2:=by kernel_rfl
theorem IC:Tryz.prog.cellsOf 135=2:=by kernel_rfl
theorem Ls:Tryz.prog.cellsOf 136=3:=by kernel_rfl
theorem Lq:Tryz.prog.cellsOf 26=6:=by kernel_rfl
theorem JM {n:Nat}{c d e f:Value}{y:DataW H × List MemPlace}(h:DataW.trod enc Tryz.prog W 0 spare held n 25 [c,d,e,f]=some y):∃ S:Sht,[c,d,e,f]=([.int .u8 S.kd,.int .i8 S.a,.int .i8 S.b,.bool S.h]:List Value)/\S.kd<256:=by
 obtain⟨y0,y1,y2,l,_,o,h0,h1,h2⟩:=Go.Deep.trod_struct3 Tryz.underlying25 h;simp only[vL,yM,tO]at h0 h1 h2;obtain⟨kd,rfl,i⟩:=ww h0;obtain⟨m,g⟩:=yT Tryz.underlying23 pd h1;obtain⟨p,j⟩:=g 0 dc_;obtain⟨q,k⟩:=g 1 dc_;obtain⟨a,rfl,_⟩:=nL j;obtain⟨b,rfl,_⟩:=nL k;obtain⟨hh,rfl⟩:=IJ h2;exact⟨⟨kd,a,b,hh⟩,U,i⟩
theorem nM {n:Nat}{b c d e f g i:Value}{y:DataW H × List MemPlace}(h:DataW.trod enc Tryz.prog W 0 spare held n 28 [b,c,d,e,f,g,i]=some y):∃ G:Hts,[b,c,d,e,f,g,i]=HF G/\Jb G:=by
 obtain⟨y0,y1,u,_,v,h0,h1⟩:=Go.ChangeShapes.trod_struct2 Tryz.underlying28 h;simp only[Lq,tO]at h0 h1;obtain⟨m,a⟩:=yT Tryz.underlying26 pd h0;obtain⟨w,k⟩:=a 0 dc_;obtain⟨x,l⟩:=a 1 dc_;obtain⟨A,o⟩:=a 2 dc_;obtain⟨B,p⟩:=a 3 dc_;obtain⟨C,q⟩:=a 4 dc_;obtain⟨D,r⟩:=a 5 dc_;obtain⟨x0,rfl,g0⟩:=nL k;obtain⟨x1,rfl,E⟩:=nL l;obtain⟨x2,rfl,F⟩:=nL o;obtain⟨x3,rfl,I⟩:=nL p;obtain⟨s,rfl,J⟩:=nL q;obtain⟨t,rfl,K⟩:=nL r;obtain⟨hh,rfl⟩:=IJ h1;refine⟨⟨x0,x1,x2,x3,s,t,hh⟩,U, ?_⟩;intro z j;simp only[Ja,RC,Ss,TS]at j;rcases j with rfl|rfl|rfl|rfl|rfl|rfl <;> assumption
theorem wx {P:Program}{t:TypeId}{b c d e f:Field}{j:Nat}{a:List Value}{x:DataW H × List MemPlace}(k:P.underlying t=some (.struct #[b,c,d,e,f]))(h:DataW.trod enc P W 0 spare held j t a=some x) :
  ∃ y0 y1 y2 y3 i n,DataW.trod enc P W 0 spare held n b.type ((a.drop b.offset).take (P.cellsOf b.type))=some y0/\DataW.trod enc P W 0 spare held n c.type ((a.drop c.offset).take (P.cellsOf c.type))=some y1/\DataW.trod enc P W 0 spare held n d.type ((a.drop d.offset).take (P.cellsOf d.type))=some y2 /\
   DataW.trod enc P W 0 spare held n e.type ((a.drop e.offset).take (P.cellsOf e.type))=some y3/\DataW.trod enc P W 0 spare held n f.type ((a.drop f.offset).take (P.cellsOf f.type))=some i:=by
 obtain⟨xs,n,_,rfl,m,l,g⟩:=DataW.trod_struct k h
 match xs,l with
|[y0,y1,y2,y3,i],_=>exact⟨y0,y1,y2,y3,i,n,by simpa using g 0 b rfl,by simpa using g 1 c rfl,by simpa using g 2 d rfl,by simpa using g 3 e rfl,by simpa using g 4 f rfl⟩
theorem JI {n:Nat}{a:List Value}{y:DataW H × List MemPlace}(e:a.length=9)(h:DataW.trod enc Tryz.prog W 0 spare held n 138 a=some y):∃ s:{s:Sgt // SgtR s},a=O8 s.1:=by
 obtain⟨y0,y1,y2,y3,z,A,h0,h1,h2,h3,h4⟩:=wx Tryz.underlying138 h
 match a,e with
|[c0,B,c2,C,D,E,F,G,I],_ =>
   simp only[vL,yM,IC,Ls]at h0 h1 h2 h3 h4;obtain⟨kd,rfl,f⟩:=ww h0;obtain⟨J,c⟩:=yT Tryz.underlying23 pd h1;obtain⟨w0,g⟩:=c 0 dc_;obtain⟨w1,i⟩:=c 1 dc_;obtain⟨px,rfl,j⟩:=nL g;obtain⟨py,rfl,k⟩:=nL i;obtain⟨K,a2⟩:=yT Tryz.underlying135 vL h2;obtain⟨L,l⟩:=a2 0 dc_;obtain⟨M,m⟩:=a2 1 dc_;obtain⟨u0,rfl,o⟩:=ww l;obtain⟨u1,rfl,p⟩:=ww m;obtain⟨d,rfl,q⟩:=ww h3;obtain⟨N,b⟩:=yT Tryz.underlying136 pd h4;obtain⟨O,r⟩:=b 0 dc_;obtain⟨P,t⟩:=b 1 dc_;obtain⟨Q,u⟩:=b 2 dc_;obtain⟨n0,rfl,v⟩:=nL r;obtain⟨n1,rfl,w⟩:=nL t;obtain⟨n2,rfl,x⟩:=nL u;exact⟨⟨⟨kd,px,py,u0,u1,d,n0,n1,n2⟩,⟨f,j,k,o,p,q,v,w,x⟩⟩,U⟩
theorem F4 {b:Nat}{v:Value}{x:DataW H × List MemPlace}(h:DataW.trod enc Tryz.prog W 0 spare held b 29 [v]=some x):∃ l:List Sgt,Sl (rW W) 9 v (l.map O8)/\∀ s∈l,SgtR s:=by
 obtain⟨l,a⟩:=F3 (fun s:{s:Sgt // SgtR s}=>O8 s.1) Tryz.underlying29 kr_ dc_ (fun n cs y a hy=>JI a hy) h;refine⟨l.map (·.1),by rw[So];exact a,fun s hs=>?_⟩;obtain⟨z,_,rfl⟩:=Rs.1 hs;exact z.2
theorem NQ {n:Nat}{a:List Value}{y:DataW H × List MemPlace}(h:DataW.trod enc Tryz.prog W 0 spare held n 31 a=some y):∃ S G l,IW (rW W) (.agg ⟨a⟩) S G l/\PlanR S G l:=by
 obtain⟨y0,y1,y2,o,_,d,h0,h1,h2⟩:=Go.Deep.trod_struct3 Tryz.underlying31 h;have g:Tryz.prog.cellsOf 31=12:=by kernel_rfl
 have h4:Tryz.prog.cellsOf 25=4:=by kernel_rfl
 have i:Tryz.prog.cellsOf 28=7:=by kernel_rfl
 have hs:Tryz.prog.cellsOf 29=1:=by kernel_rfl
 rw[g]at d
 match a,d with
|[c0,p,c2,q,r,s,t,u,v,w,x,z],_ =>
  simp only[h4,i,hs]at h0 h1 h2;obtain⟨S,e,j⟩:=JM h0;obtain⟨G,f,k⟩:=nM h1;obtain⟨l,b,m⟩:=F4 h2;obtain⟨A,c,rfl,_⟩:=id b;simp only[Tz,Uu]at e;obtain⟨rfl,rfl,rfl,rfl⟩:=e;simp only[HF,Tz,Uu]at f;obtain⟨rfl,rfl,rfl,rfl,rfl,rfl,rfl⟩:=f;simp only[au]at b⊢;exact⟨S,G,l,⟨A,c,U,b⟩,j,k,m⟩
end
def mr (cs:Array Value):Obj->Obj
|.cells _ t frozen=>.cells cs t frozen
|o=>o
def Io:Array Value:=(Lib.deBruijn32tab.map fun z:Nat=>Value.int .u8 (z:Int)).toArray
def Im:Array Value:=(Lib.deBruijn64tab.map fun z:Nat=>Value.int .u8 (z:Int)).toArray
def Ek:Array Value:=(Lib.pow10Tab.map fun z=>Value.int .u64 z).toArray
def Gr:ByteArray:=⟨#[118,97,108,117,101,32,111,117,116,32,111,102,32,114,97,110,103,101]⟩
def DR:ByteArray:=⟨#[105,110,118,97,108,105,100,32,115,121,110,116,97,120]⟩
noncomputable def low:Nat:=(World.holding Tryz.prog default ⟨#[],#[],[]⟩).heap.size
noncomputable def qS (os:Os):World :=
 let w0:=World.holding Tryz.prog os ⟨#[.cells #[.string Gr] 416,.cells #[.string DR] 416],#[],[]⟩
 { w0 with heap:=((((w0.heap.modify 4 (mr Io)).modify 5 (mr Im)).modify 3 (mr Ek)).modify 2 (mr #[.iface 414 (.pointer (some ⟨low,0,none⟩))])).modify 1 (mr #[.iface 414 (.pointer (some ⟨low+1,0,none⟩))]) }
theorem Nb {W : World} (h : laidMet Tryz.prog [("math/bits.deBruijn32tab", Rows.laid_math_bits_deBruijn32tab), ("math/bits.deBruijn64tab", Rows.laid_math_bits_deBruijn64tab), ("internal/strconv.uint64pow10", Rows.laid_internal_strconv_uint64pow10), ("strconv.ErrRange", Rows.laid_strconv_ErrRange), ("strconv.ErrSyntax", Rows.laid_strconv_ErrSyntax)] W) : Tabs (rW W) := by
 have h1:=h.tail;have h2:=h1.tail;have b:(Rows.laid_math_bits_deBruijn64tab:DataW Unit)=Lib.tabData .u8 (Lib.deBruijn64tab.map fun z:Nat=>(z:Int)):=by rfl
 rw[b]at h1;have a:=Lib.tabIs_of_head (g:=5) (t:=418) (e:=5) (n:=64) kr_ kr_ Tryz.underlying418 Tryz.underlying5 kr_ kr_ h1;have c:(Rows.laid_internal_strconv_uint64pow10:DataW Unit)=Lib.tabData .u64 Lib.pow10Tab:=by rfl
 rw[c]at h2;have d:=Lib.tabIs_of_head (g:=3) (t:=412) (e:=285) (n:=20) kr_ kr_ Tryz.underlying412 Tryz.underlying285 kr_ kr_ h2;refine⟨VarC.ofWorld d, ?_⟩;unfold Lib.TabIs at a;rw[So]at a;exact VarC.ofWorld a
theorem uY:laidOutB Tryz.prog=true:=by kernel_rfl
section
variable {H:Type} {enc:TypeId × Value->H} {W:World} {spare:Nat->Bool} {held:Bool}
theorem uL {P:Program}{w:World}{r:Reach}{a:Nat}{t e:TypeId}{k:Nat}{v:Value}(b:P.underlying t=some (.array k e))(h:Value.okWide P w r a t v):∃ cs,v=.agg cs/\cs.size=P.cellsOf t:=by
 simp only[Value.okWide,b]at h;obtain⟨cs,h1,h2,_⟩:=h;exact⟨cs,h1,h2⟩
end
section
variable {H:Type} {enc:TypeId × Value->H} {W:World} {spare:Nat->Bool} {held:Bool}
theorem Gp {n:Nat}{c:Value}{y:DataW H × List MemPlace}(h:DataW.trod enc Tryz.prog W 0 spare held n 32 [c]=some y):∃ s:Str,c=ae s:=by
 obtain⟨⟨⟨l⟩⟩,h1,_⟩:=DataW.trod_string Tryz.underlying32 h;simp only[Tz,Uu]at h1;exact⟨l,h1⟩
theorem Kg {n:Nat}{c:List Value}{y:DataW H × List MemPlace}(h:DataW.trod enc Tryz.prog W 0 spare held n 34 c=some y):∃ a b:Str,c=[ae a,ae b]:=by
 obtain⟨_,_,_,_,d,e,f⟩:=Go.ChangeShapes.trod_struct2 Tryz.underlying34 h;have g:Tryz.prog.cellsOf 34=2:=by kernel_rfl
 have i:Tryz.prog.cellsOf 32=1:=by kernel_rfl
 rw[g]at d
 match c,d with
|[c0,j],_ =>
  simp only[i]at e f;obtain⟨a,rfl⟩:=Gp e;obtain⟨b,rfl⟩:=Gp f;exact⟨a,b,U⟩
end
section
variable {H:Type} {enc:TypeId × Value->H} {W:World} {spare:Nat->Bool} {held:Bool}
theorem Ah {n:Nat}{a:List Value}{y:DataW H × List MemPlace}(c:a.length=14)(h:DataW.trod enc Tryz.prog W 0 spare held n 90 a=some y):∃ X:Hts × Hts,a=HF X.1++HF X.2/\Jb X.1/\Jb X.2:=by
 obtain⟨xs,m,_,_,_,l,b⟩:=DataW.trod_array Tryz.underlying90 h;have d:Tryz.prog.cellsOf 28=7:=by kernel_rfl
 have h0:=b 0 dc_;have h1:=b 1 dc_;rw[d]at h0 h1;rw[ai om_]at h0 h1
 match a,c with
|[c0,o,c2,p,q,r,s,t,u,v,w,x,z,A],_ =>
  obtain⟨e,f,g⟩:=nM h0;obtain⟨i,j,k⟩:=nM h1;refine⟨(e,i), ?_,g,k⟩;rw[<- f,<- j];rfl
end
end Go.Proofs.YtfjcldheldflbaaGreatDoor
namespace Go.Proofs.YtfjcldheldflbaaGreatDoor
open Go.Proofs.Tryz
open Go Go.Jog
set_option maxRecDepth 100000
variable {a b:Int}{fs:List Rat}{h:Bool}{i k:Nat}{k0 k1 k2:Int}{m n:Nat}{p:Pt}{pts:List Pt}{q:Rat}{t:Tri}{w x0 x1 x2 x3 y0 y1 y2 y3 z:Int}{α:Type}{l:List α}
/-! Small parts: numbers of quarters and of halves. -/
theorem Ch (a:w≠0)(h:q*w=z):q=lC z w:=by
 have c:(w:Rat)≠0:=by simpa using a
 unfold lC;rw[Rat.mkRat_eq_div];have b:q=z / w:=by grind
 rw[b];split
 ·rename_i d;have:((w.natAbs:Nat):Int)=-w:=by omega
  rw[show((w.natAbs:Nat):Rat)=(((w.natAbs:Nat):Int):Rat) from rfl,this];simp only[Rat.intCast_neg];grind
 have:((w.natAbs:Nat):Int)=w:=by omega
 rw[show((w.natAbs:Nat):Rat)=(((w.natAbs:Nat):Int):Rat) from rfl,this]
theorem oX (a:w≠0):lC z w*w=z:=by
 have b:(w:Rat)≠0:=by simpa using a
 have h:=Ch (q:=(z:Rat) / w) (z:=z) a (by grind);rw[<- h];grind
theorem qg (a:w≠0)(h:q*w=z)(b:z.natAbs<1000000000)(c:w.natAbs<1000000000):QB 1 q:=by
 rw[Ch a h];exact rn a b c
def iA (x0 y0 x1 y1 x2 y2:Int):Int:=(x1-x0)*(y2-y0)-(y1-y0)*(x2-x0)
def At4 (p:Pt)(x y:Int):Prop:=p.1*4=x/\p.2*4=y
def Qtr (p:Pt):Prop:=∃ x y:Int,At4 p x y/\(-600<=x/\x<=600)/\(-600<=y/\y<=600)
def Hlf (z:Rat):Prop:=∃ k:Int,z*2=k/\(-38<=k/\k<=38)
theorem kv {a b c:Pt}(d:At4 a x0 y0)(e:At4 b x1 y1)(f:At4 c x2 y2):cJ a b c*16=(iA x0 y0 x1 y1 x2 y2:Int):=by
 unfold iA cJ;simp only[TP,Si];rw[<- d.1,<- d.2,<- e.1,<- e.2,<- f.1,<- f.2];grind
theorem dA {M K:Nat}(c:a.natAbs<=M)(d:b.natAbs<=K):(a*b).natAbs<=M*K:=by
 rw[SK];exact SJ c d
theorem yi (h:(-600<=x0/\x0<=600)/\(-600<=y0/\y0<=600)/\(-600<=x1/\x1<=600)/\(-600<=y1/\y1<=600)/\(-600<=x2/\x2<=600)/\(-600<=y2/\y2<=600)):(iA x0 y0 x1 y1 x2 y2).natAbs<=2880000:=by
 have h1:=dA (a:=x1-x0) (b:=y2-y0) (M:=1200) (K:=1200) om_ om_;have h2:=dA (a:=y1-y0) (b:=x2-x0) (M:=1200) (K:=1200) om_ om_;unfold iA;omega
theorem pZ {n d:Rat}{N W:Int}(b:n*16=N)(c:d*16=W)(a:d≠0):W≠0/\n / d*W=N:=by
 constructor
 ·intro h;subst h;exact a (by grind)
 grind
theorem Pq (a:∀ j,Qtr (cor pts t j))(b:cJ (cor pts t 0) (cor pts t 1) (cor pts t 2)≠0)(c:Qtr p)(j:Nat):QB 1 (wgt pts t p j):=by
 obtain⟨x0,y0,h0,d,e⟩:=a 0;obtain⟨x1,y1,h1,f,g⟩:=a 1;obtain⟨x2,y2,h2,h,i⟩:=a 2;obtain⟨x3,y3,h3,k,l⟩:=a ((j+1) % 3);obtain⟨m,n,h4,o,q⟩:=a ((j+2) % 3);obtain⟨r,s,h5,u,v⟩:=c;obtain⟨w,x⟩:=pZ (kv h5 h3 h4) (kv h0 h1 h2) b;have k1:=yi (x0:=r) (y0:=s) (x1:=x3) (y1:=y3) (x2:=m) (y2:=n) ⟨u,v,k,l,o,q⟩;have k2:=yi (x0:=x0) (y0:=y0) (x1:=x1) (y1:=y1) (x2:=x2) (y2:=y2) ⟨d,e,f,g,h,i⟩;exact qg w x om_ om_
theorem jb {a b c:Pt}{e f g:Rat}(i:At4 a x0 y0)(j:At4 b x1 y1)(k:At4 c x2 y2)(n:e*2=k0)(o:f*2=k1)(p:g*2=k2)(l:cJ a b c≠0) :
  iA x0 y0 x1 y1 x2 y2≠0/\(og a b c e f g).1*(iA x0 y0 x1 y1 x2 y2:Int)=((2*((k1-k0)*(y2-y0)-(y1-y0)*(k2-k0)):Int):Rat)/\(og a b c e f g).2*(iA x0 y0 x1 y1 x2 y2:Int)=((2*((x1-x0)*(k2-k0)-(k1-k0)*(x2-x0)):Int):Rat):=by
 have m:=kv i j k;have q:eD (b.1-a.1) (b.2-a.2) (c.1-a.1) (c.2-a.2)=cJ a b c:=by unfold eD cJ;grind
 refine⟨fun h=>l (by rw[h]at m;grind), ?_, ?_⟩
 ·unfold og;simp only;rw[q,<- m];unfold eD;simp only[TP,Si];rw[<- i.2,<- j.2,<- k.2,<- n,<- o,<- p];generalize cJ a b c=d at l;grind
 unfold og;simp only;rw[q,<- m];unfold eD;simp only[TP,Si];rw[<- i.1,<- j.1,<- k.1,<- n,<- o,<- p];generalize cJ a b c=d at l;grind
theorem km {c d:Int}(h:a.natAbs<=76/\b.natAbs<=1200/\c.natAbs<=1200/\d.natAbs<=76):(a*b-c*d).natAbs<=182400:=by
 have h1:=dA h.1 h.2.1;have h2:=dA h.2.2.1 h.2.2.2;omega
theorem JE (e:∀ j,Qtr (cor pts t j))(h:cJ (cor pts t 0) (cor pts t 1) (cor pts t 2)≠0)(f:∀ j,Hlf (fz fs t j)):QP 1 (dD pts fs t):=by
 obtain⟨x0,y0,h0,i,k⟩:=e 0;obtain⟨x1,y1,h1,l,m⟩:=e 1;obtain⟨x2,y2,h2,n,o⟩:=e 2;obtain⟨k0,p,v⟩:=f 0;obtain⟨k1,q,w⟩:=f 1;obtain⟨k2,r,x⟩:=f 2;obtain⟨g,s,u⟩:=jb h0 h1 h2 p q r h;have y:=yi (x0:=x0) (y0:=y0) (x1:=x1) (y1:=y1) (x2:=x2) (y2:=y2) ⟨i,k,l,m,n,o⟩;have z:=km (a:=k1-k0) (b:=y2-y0) (c:=y1-y0) (d:=k2-k0) ⟨by omega,by omega,by omega,by omega⟩;have A:=km (a:=k1-k0) (b:=x2-x0) (c:=x1-x0) (d:=k2-k0) ⟨by omega,by omega,by omega,by omega⟩;unfold dD;exact⟨qg g s om_ om_,qg g u om_ om_⟩
theorem Mo (c:At4 (cor pts t 0) x0 y0)(h:At4 (cor pts t 1) x1 y1)(i:At4 (cor pts t 2) x2 y2)(e:At4 p x3 y3)(d:fz fs t 0*2=k0)(j:fz fs t 1*2=k1)(k:fz fs t 2*2=k2)
  (l:cJ (cor pts t 0) (cor pts t 1) (cor pts t 2)≠0):onQ pts fs t p*((2*iA x0 y0 x1 y1 x2 y2:Int):Rat)=((k0*iA x0 y0 x1 y1 x2 y2+((k1-k0)*(y2-y0)-(y1-y0)*(k2-k0))*(x3-x0)+((x1-x0)*(k2-k0)-(k1-k0)*(x2-x0))*(y3-y0):Int):Rat):=by
 obtain⟨s,f,g⟩:=jb c h i d j k l;unfold onQ FR;simp only[T3,List.foldl_nil];have a:=f;have b:=g;unfold dD;generalize (og (cor pts t 0) (cor pts t 1) (cor pts t 2) (fz fs t 0) (fz fs t 1) (fz fs t 2)).1=u at a⊢;generalize (og (cor pts t 0) (cor pts t 1) (cor pts t 2) (fz fs t 0) (fz fs t 1) (fz fs t 2)).2=v at b⊢;clear f g;generalize ((k1-k0)*(y2-y0)-(y1-y0)*(k2-k0))=n1 at a⊢;generalize ((x1-x0)*(k2-k0)-(k1-k0)*(x2-x0))=n2 at b⊢;generalize iA x0 y0 x1 y1 x2 y2=w at a b⊢;simp only[TP,Si,Ut]at a b⊢;have m:=c.1;have n:=c.2;have o:=e.1;have q:=e.2;generalize fz fs t 0=x at d⊢;rw[<- m,<- n,<- o,<- q,<- d];have r:((2:Int):Rat)=2:=rfl;rw[r]at a b⊢;grind
theorem P5 (b:(-600<=x0/\x0<=600)/\(-600<=y0/\y0<=600)/\(-600<=x1/\x1<=600)/\(-600<=y1/\y1<=600)/\(-600<=x2/\x2<=600)/\(-600<=y2/\y2<=600))(g:(-600<=x3/\x3<=600)/\(-600<=y3/\y3<=600))(h:(-38<=k0/\k0<=38)/\(-38<=k1/\k1<=38)/\(-38<=k2/\k2<=38)) :
  (k0*iA x0 y0 x1 y1 x2 y2+((k1-k0)*(y2-y0)-(y1-y0)*(k2-k0))*(x3-x0)+((x1-x0)*(k2-k0)-(k1-k0)*(x2-x0))*(y3-y0)).natAbs<=600000000:=by
 have e:=yi b;have f:=km (a:=k1-k0) (b:=y2-y0) (c:=y1-y0) (d:=k2-k0) ⟨by omega,by omega,by omega,by omega⟩;have i:=km (a:=k1-k0) (b:=x2-x0) (c:=x1-x0) (d:=k2-k0) ⟨by omega,by omega,by omega,by omega⟩;have j:=dA (show k0.natAbs<=38 by omega) e;have k:=dA f (show(x3-x0).natAbs<=1200 by omega);have l:=dA (show((x1-x0)*(k2-k0)-(k1-k0)*(x2-x0)).natAbs<=182400 by omega) (show(y3-y0).natAbs<=1200 by omega);omega
theorem Q4 (a:∀ j,Qtr (cor pts t j))(c:cJ (cor pts t 0) (cor pts t 1) (cor pts t 2)≠0)(b:∀ j,Hlf (fz fs t j))(n:Qtr p):QB 1 (onQ pts fs t p):=by
 obtain⟨x0,y0,h0,d,e⟩:=a 0;obtain⟨x1,y1,h1,f,g⟩:=a 1;obtain⟨x2,y2,h2,h,i⟩:=a 2;obtain⟨x3,y3,h3,o⟩:=n;obtain⟨k0,k,q⟩:=b 0;obtain⟨k1,l,r⟩:=b 1;obtain⟨k2,m,s⟩:=b 2;have u:=(jb h0 h1 h2 k l m c).1;have v:=yi (x0:=x0) (y0:=y0) (x1:=x1) (y1:=y1) (x2:=x2) (y2:=y2) ⟨d,e,f,g,h,i⟩;have w:=P5 ⟨d,e,f,g,h,i⟩ o ⟨q,r,s⟩;exact qg om_ (Mo h0 h1 h2 h3 k l m c) om_ om_
theorem Dc (a:w=1∨w=2∨w=4)(e:-150<=z/\z<=150):∃ x:Int,lC z w*4=x/\(-600<=x/\x<=600):=by
 have h:=oX (z:=z) (w:=w) om_;have b:((1:Int):Rat)=1:=rfl;have c:((2:Int):Rat)=2:=rfl;have d:((4:Int):Rat)=4:=rfl;rcases a with rfl|rfl|rfl
 ·refine⟨4*z, ?_,by omega⟩;rw[Si,<- h,b,d];grind
 ·refine⟨2*z, ?_,by omega⟩;rw[Si,<- h,c];grind
 exact⟨z,h,by omega⟩
theorem xx {x y n:Int}(c:n=1∨n=2)(k:-128<=x/\x<=127)(l:-128<=y/\y<=127):Qtr (dH a b h x y n):=by
 have m:=zo a;have o:=zo b;have hh:dV h=1∨dV h=2:=by cases h <;> simp[dV]
 have d:dV h*n=1∨dV h*n=2∨dV h*n=4:=by rcases hh with e|e <;> rcases c with f|f <;> rw[e,f] <;> omega
 obtain⟨u,g,i⟩:=Dc (z:=x+a.tmod 8*n) d (by rcases c with f|f <;> subst f <;> omega);obtain⟨v,j,bv⟩:=Dc (z:=y+b.tmod 8*n) d (by rcases c with f|f <;> subst f <;> omega);exact⟨u,v,⟨g,j⟩,i,bv⟩
theorem Co :∀ p∈cA m a b h,Qtr p:=by
 intro p c;obtain⟨x,d,rfl⟩:=Rs.1 c;have:=Mb m x d;exact xx (.inl U) om_ om_
theorem Bu:Qtr (0,0):=⟨0,0,⟨by decide +kernel,by decide +kernel⟩,by decide,by decide⟩
theorem ix {P:α->Prop}{d:α}(h:∀ x∈l,P x)(a:P d):P (l.getD i d):=by
 rw[am];cases h1:l[i]? with
|none=>exact a
|some x=>exact h x (aU h1)
theorem rz (j:Nat):Qtr (cor (cA m a b h) t j):=ix Co Bu
theorem vl (n:Nat)(H:Hts):∀ q∈fsK n H,Hlf q:=by
 intro q a;obtain⟨i,_,rfl⟩:=Rs.1 a;have b:=FJ ((Ja H).getD (i % 6) 0);generalize ((Ja H).getD (i % 6) 0).tmod 20=z at b⊢;have c:((1:Int):Rat)=1:=rfl;have d:((2:Int):Rat)=2:=rfl;rcases vh H.half with e|e
 ·have h:=oX (z:=z) (w:=1) dc_;rw[e];refine⟨2*z, ?_,by omega⟩;rw[Si,<- h,c,d];grind
 rw[e];exact⟨z,oX dc_,by omega⟩
theorem lJ:Hlf 0:=⟨0,by decide +kernel,by decide⟩
theorem NY:Hlf 1:=⟨2,by decide +kernel,by decide⟩
theorem Mz {H:Hts}(j:Nat):Hlf (fz (fsK n H) t j):=ix (vl n H) lJ
theorem BE (j:Nat):Hlf (fz (oy n k) t j):=ix (fun q a=>by
 rcases BF q a with rfl|rfl
 ·exact lJ
 exact NY) lJ
theorem Cs (S:Sht)(s:Sgt)(a:SgtR s):Qtr (kX S s):=by
 unfold kX;split
 ·exact xx (.inr U) a.px a.py
 exact ix Co Bu
theorem uw {P:Rat->Prop}{m:List (Nat × Rat)}(a:P 0)(h:∀ x∈m,P x.2):∀ q∈sJ n m,P q:=by
 intro q b;obtain⟨j,_,rfl⟩:=Rs.1 b;cases h1:dY m j with
|none=>exact a
|some v =>
  exact h _ (gt h1)
theorem pY {s p:Nat}{a:List (Nat × Rat)}{b c:Rat}(e:∀ x∈a,QB 1 x.2)(f:QB 3 b)(d:QB 1 c):Pa (gZ s p k a b c):=by
 refine⟨uw (QB_zero.le dc_) ?_,(jD d f).le dc_⟩;intro x g;obtain⟨y,hy,rfl⟩:=Rs.1 g;exact(jD d (e y hy)).le dc_
theorem JV {B:Bk}{o:Obs}{z:Rat}(c:∀ j,QB 1 (wgt B.pts t p j))(a:∀ j,QP 1 (slf B.pts t j))(d:QB 3 (lH o z))(f:o.kind≠1->o.kind≠2->QB 3 (rm o)/\QB 3 (jo o)):∀ r∈rowsO B o p t z,Pa r:=by
 have e:∀ x∈atT t (wgt B.pts t p),QB 1 x.2:=gz (c 0) (c 1) (c 2);have g:∀ x∈atT t (fun j=>(slf B.pts t j).1),QB 1 x.2:=gz (a 0).1 (a 1).1 (a 2).1;have i:∀ x∈atT t (fun j=>(slf B.pts t j).2),QB 1 x.2:=gz (a 0).2 (a 1).2 (a 2).2;intro r hr;unfold rowsO at hr;split at hr
 ·rcases RF.1 hr with h|h
  ·split at h
   ·rw[RK.1 h];exact pY e d QB_one
   simp at h
  split at h
  ·rw[RK.1 h];exact pY e d nG
  simp at h
 rename_i h1;split at hr
 ·obtain⟨k,_,h⟩:=List.mem_flatMap.1 hr;obtain⟨sg,b,rfl⟩:=Rs.1 h;exact pY e d (sz sg b)
 rename_i h2;obtain⟨l,m⟩:=f h1 h2;obtain⟨k,_,h⟩:=List.mem_flatMap.1 hr;rcases RF.1 h with h|h
 ·obtain⟨sg,b,rfl⟩:=Rs.1 h;exact pY g l (sz sg b)
 obtain⟨sg,b,rfl⟩:=Rs.1 h;exact pY i m (sz sg b)
def tiK (S:Sht)(s:Sgt):Nat:=(kC (cA (S.kd % 8) S.a S.b S.h) (shT (S.kd % 8)) (kX S s)).headD 0
def tK (S:Sht)(s:Sgt):Tri:=(shT (S.kd % 8)).getD (tiK S s) (0,0,0)
def zK (S:Sht)(H:Hts)(s:Sgt):Rat:=onQ (cA (S.kd % 8) S.a S.b S.h) (fsK (cA (S.kd % 8) S.a S.b S.h).length H) (tK S s) (kX S s)
noncomputable def roK (S:Sht)(H:Hts)(l:List Sgt)(i:Nat):List RowQ:=rowsO (dW S H l) (ft S (l.getD i Ep) i) (kX S (l.getD i Ep)) (tK S (l.getD i Ep)) (zK S H (l.getD i Ep))
theorem N5 (S:Sht)(s:Sgt)(i:Nat)(b:SgtR s):ObsAt (ft S s i) (kX S s):=by
 have a:=(uE S s b).1;refine⟨?_, ?_,(Gv a).1,(Gv a).2, ?_⟩
 ·unfold ft;split
  ·rfl
  split <;> rfl
 ·unfold ft;split
  ·rfl
  split <;> rfl
 unfold ft;split
 ·intro h;exact absurd (show(1:Int)=2 from h) dc_
 split
 ·intro _;exact ok1 (tI s.depth)
 intro h;exact absurd (show(3:Int)=2 from h) dc_
theorem N4 (S:Sht)(s:Sgt)(i:Nat):0<=jt (isU (ft S s i).upper) colK 0:=by
 have c:=Og s;have d:=M6 s;have a:=qT (s.u1 % 3) om_;have b:=qT (max (loU s) (upU s)) om_;unfold ft;split
 ·simp only;rw[a];omega
 split <;> (simp only;rw[b];omega)
theorem G2 (S:Sht)(s:Sgt)(i:Nat):(ft S s i).kind≠1->(ft S s i).kind≠2->(aR (ft S s i).nx=true/\aR (ft S s i).ny=true/\aR (ft S s i).nz=true)/\QB 1 (dm (ft S s i).nx)/\QB 1 (dm (ft S s i).ny)/\QB 1 (dm (ft S s i).nz)/\dm (ft S s i).nz≠0:=by
 have h0:=oz s.n0;have h1:=oz s.n1;have h2:=oU s.n2;have a:=ek (s.n0.tmod 5) om_;have l1:=ek (s.n1.tmod 5) om_;have l2:=ek (fp s.n2) om_;have b:=uX s.n2;unfold ft;split
 ·intro h;exact absurd rfl h
 split
 ·intro _ h;exact absurd rfl h
 intro _ _;simp only;rw[cR (ok1 a),cR (ok1 l1),cR (ok1 l2)];exact⟨⟨ok1 a,ok1 l1,ok1 l2⟩,a,l1,l2,by simpa using b⟩
theorem CI (S:Sht)(s:Sgt)(i:Nat):(ft S s i).kind=2->(ft S s i).depth=qtx (lC ((s.depth % 12:Nat):Int) 2):=by
 unfold ft;split
 ·intro h;exact absurd (show(1:Int)=2 from h) dc_
 split
 ·intro _;rfl
 intro h;exact absurd (show(3:Int)=2 from h) dc_
theorem Kt (S:Sht)(s:Sgt)(i:Nat){z:Rat}(a:QB 1 z):QB 3 (lH (ft S s i) z):=by
 unfold lH;split
 ·rename_i h;rw[CI S s i h,cR (ok1 (tI s.depth))];have h:=fq a (tI s.depth);exact h.le dc_
 exact a.le dc_
theorem G3 (S:Sht)(s:Sgt)(i:Nat)(b:(ft S s i).kind≠1)(c:(ft S s i).kind≠2):QB 3 (rm (ft S s i))/\QB 3 (jo (ft S s i)):=by
 obtain⟨_,d,l1,l2,a⟩:=G2 S s i b c;exact⟨(jE (eQ d) l2 a).le dc_,(jE (eQ l1) l2 a).le dc_⟩
theorem locK (S:Sht)(s:Sgt)(c:SgtR s):(∃ r,kC (cA (S.kd % 8) S.a S.b S.h) (shT (S.kd % 8)) (kX S s)=tiK S s::r)/\(shT (S.kd % 8))[tiK S s]?=some (tK S s):=by
 have d:=(uE S s c).2;unfold tK tiK;cases h:kC (cA (S.kd % 8) S.a S.b S.h) (shT (S.kd % 8)) (kX S s) with
|nil=>exact absurd h d
|cons i r =>
  have hm:i∈kC (cA (S.kd % 8) S.a S.b S.h) (shT (S.kd % 8)) (kX S s):=by rw[h];exact Rq
  unfold kC at hm;have e:=RL.1 (SY.1 hm).1;refine⟨⟨r,U⟩, ?_⟩;simp only[List.headD_cons];rw[am,ai e];rfl
theorem Rc (S:Sht)(H:Hts)(B:Bk)(s:Sgt)(i:Nat)(c:SgtR s)(f:B.pts=cA (S.kd % 8) S.a S.b S.h)(g:B.tris=shT (S.kd % 8))(o:0<=jt (isU (ft S s i).upper) B.col 0) :
  Fine B (fsK (cA (S.kd % 8) S.a S.b S.h).length H) (ft S s i) (kX S s) (tiK S s) (tK S s) (zK S H s):=by
 obtain⟨pts,tris,terr,col,obs⟩:=B;simp only at f g;subst f g;obtain⟨p,_⟩:=gH (S.kd % 8) (R9 _ dc_) S.a S.b S.h;obtain⟨⟨r,hr⟩,k⟩:=locK S s c;have d:=iv p.ok (aU k);have l:=Cs S s c;have m:∀ j,QB 1 (wgt (cA (S.kd % 8) S.a S.b S.h) (tK S s) (kX S s) j):=Pq (fun j=>rz j) d l;have n:∀ j,QP 1 (slf (cA (S.kd % 8) S.a S.b S.h) (tK S s) j):=fun j=>JE (fun j=>rz j) d (fun j=>BE j);have e:QB 1 (zK S H s):=Q4 (fun j=>rz j) d (fun j=>Mz j) l;have hh:=Kt S s i e;refine⟨N5 S s i c,⟨r,hr⟩,k, ?_,e.le dc_,hh.le dc_,fun j=>(m j).le dc_,o,fun j=>(n j).le dc_, ?_, ?_⟩
 ·show zi (cA (S.kd % 8) S.a S.b S.h) (shT (S.kd % 8)) _ _=_;unfold zi;rw[hr];show zO (zK S H s)=_;unfold zO;rw[aM (ok1 e)]
 ·intro h1 h2;obtain⟨h0,q,l1,l2,t⟩:=G2 S s i h1 h2;exact⟨h0,q.le dc_,l1.le dc_,l2.le dc_,t⟩
 exact JV m n hh (G3 S s i)
theorem Rb (S:Sht)(H:Hts)(l:List Sgt)(s:Sgt)(i:Nat)(c:SgtR s) :
  Fine (dW S H l) (fsK (cA (S.kd % 8) S.a S.b S.h).length H) (ft S s i) (kX S s) (tiK S s) (tK S s) (zK S H s):=Rc S H _ s i c rfl rfl (N4 S s i)
theorem E4 (S:Sht)(H:Hts)(l:List Sgt)(c:∀ s∈l,SgtR s):Rich (dW S H l) (fsK (cA (S.kd % 8) S.a S.b S.h).length H) (roK S H l):=by
 refine⟨(gH (S.kd % 8) (R9 _ dc_) S.a S.b S.h).1,OR S H l c,E3 S H l c,⟨U,nN _ _,fun q e=>(yp _ H q e).le dc_⟩, ?_, ?_⟩
 ·have:=(Lw S H l).2;rw[Dv];omega
 intro i o f;obtain⟨g,s,d,rfl⟩:=mW f;refine⟨_,_,_,_,Rb S H l s i (c s (aU d)), ?_⟩;unfold roK;rw[am,d];rfl
theorem El (x y:Nat)(a:x<18446744073709551616)(b:y<18446744073709551616)(C:Mem):Gives cx.P 128 [.int .u64 x,.int .u64 y] C (.tuple #[.int .u64 ((x*y / 18446744073709551616:Nat):Int),.int .u64 ((x*y % 18446744073709551616:Nat):Int)]) :=
 Gives.ofCalls kr_ (fun w=>Any.bits_Mul Tryz.mul x y a b w) C
theorem GD {a:Value}{b:List Value}(_d:k+m<=n)(c:m<=k)(_e:b.length=n-k) :
  aE (List.replicate k a++b) ((List.replicate k a++b).take m) k=List.replicate (k+m) a++b.drop m:=by
 have h1:(List.replicate k a++b).take m=List.replicate m a:=by
  rw[List.take_append_of_le_length (by simpa using c),List.take_replicate,Sp c]
 have h2:(List.replicate k a++b).take k=List.replicate k a:=by
  rw[List.take_append_of_le_length ak,List.take_replicate,Nat.min_self]
 have h3:(List.replicate k a++b).drop (k+m)=b.drop m:=by
  rw[TY,RX,S3 ak,Tq];congr 1;omega
 unfold aE;rw[h1,h2,RX,h3,List.replicate_append_replicate]
theorem Gy (a:Value)(n:Nat):kQ [a] n=List.replicate n a:=by
 rw[fe];induction n with
|zero=>rfl
|succ n b=>rw[SB,SH,b,SB];rfl
theorem Kh (n:Nat)(a:n<18446744073709551616)(C:Mem):Gives cx.P 128 [.int .u64 (1:Int),.int .u64 n] C (.tuple #[.int .u64 0,.int .u64 n]):=by
 have h:=El 1 n om_ a C;have b:1*n / 18446744073709551616=0:=by omega
 have c:1*n % 18446744073709551616=n:=by omega
 rw[b,c]at h;exact h
theorem Ei (C:Mem)(v:Value)(n:Nat)(s:Str)(g:Sl C 1 v [[ae s]])(y:n<=1000000):Jog.Fn cx.P 64 [v,i_ n] C [] fun u _z e=>∃ b,u=s_ b n n/\e=[.arr u 32 1 n (List.replicate n (ae s))]:=by
 have p:=g;obtain⟨A,c,rfl,_⟩:=p;refine Vi func64 48 U3 fun w0=>U1 1 [0,1] U<|U1 2 [0,1,10] U<|G.cd (fun h=>?_) fun h=>?_
 ·simp at h;omega
 refine Va 2 U fun R d=>VO (c:=1) U8 U fl_<|Vc U6<|VO (c:=(n:Int)) U8 g_ fl_<|Vm (Kh n om_ _) U7 fl_<|C6 5 [0,5,6] d U<|Va 5 U fun R d=>VH U8<|Vf [0,6,26] d U<|G.cd (fun i=>?_) fun i=>?_
 ·simp at i;omega
 refine Va 1 U fun R d=>VO (c:=(n:Int)) U8 f_ fl_<|V5 U9 (Ro _) (by show 16*n<=281474976710656;omega) y_ fl_ fun a=>C6 1 [0,7] d U<|Va 2 U fun R d=>WE (j:=0) (q:=min 1 n) U12 g U2 (by rw[cV];show 0+min 1 n*1<=n*1;omega) fl_<|C6 1 [7,8] d U ?_;have r:aE (kQ [ae []] n) (([[ae s]]:List (List Value)).take (min 1 n)).flatten 0=List.replicate (min 1 n) (ae s)++List.replicate (n-min 1 n) (ae []):=by
  rw[Gy];cases n with
 |zero=>rfl
 |succ n=>rw[show min 1 (n+1)=1 by omega,SB];rfl
 refine Vr (L':=[.arr (s_ a n n) 32 1 n (List.replicate (min 1 n) (ae s)++List.replicate (n-min 1 n) (ae []))]) (by rw[<- r];rfl)<|G.loop (fun fr B e t=>∃ (k:Nat),(k<=n/\min 1 n<=k)/\fr=[(7,[],s_ a n n),(8,[],i_ k)]/\e=[.arr (s_ a n n) 32 1 n (List.replicate k (ae s)++List.replicate (n-k) (ae []))]/\t=n-k) (hn_ [7,8] U) ⟨min 1 n,⟨Nat.min_le_right _ _,Ro _⟩,U,U,U⟩ (fun fr D E m w x=>?_);obtain⟨k,⟨l,F⟩,rfl,rfl,rfl⟩:=x;refine U1 4 [7,8,37] U<|G.cd (fun f=>?_) fun f=>?_
 ·simp only[Ry]at f;have o:k<n:=by omega
  have H:1<=k:=by omega
  refine Vv [0,1,2,3,4,5,6,7,8,9] [] U kr_ fun R I d=>Ve 3 U<|VV k n n U12 (fun _=>⟨.inr ⟨_,U⟩,.inl ⟨U,U⟩,.inl ⟨U,U⟩,l,Ro _,Ro _⟩) U2<|Ve 2 U<|VV 0 k n U12 (fun _=>⟨.inl ⟨U,U⟩,.inr ⟨_,U⟩,.inl ⟨U,U⟩,Rv _,l,Ro _⟩) U2 ?_;refine WD (j:=0) (off:=k) (g0:=a) (dl:=n-k) (dc:=n-k) (sl:=k-0) (sc:=n-0) (q:=min k (n-k)) U8 (by show some (Value.slice (if n=k then some (⟨a,0,none⟩:Addr) else (some (⟨a,0,none⟩:Addr)).map (·.add (k*1))) (n-k) (n-k))=_;rw[aF om_];simp[Addr.add_lit]) (by show some (Value.slice (if n=0 then some (⟨a,0,none⟩:Addr) else (some (⟨a,0,none⟩:Addr)).map (·.add (0*1))) (k-0) (n-0))=_;split <;> simp[Addr.add_lit]) U2 (by simp[lG,ae]) ap fl_ ?_;refine VI (((k+min k (n-k):Nat):Int)) U4 om_ om_ om_ U2<|C6 1 [7,8] d U<|Vr (L':=[.arr (s_ a n n) 32 1 n (List.replicate (k+min k (n-k)) (ae s)++List.replicate (n-(k+min k (n-k))) (ae []))]) (by rw[GD (n:=n) om_ (Nat.min_le_left _ _) ak,List.drop_replicate,Nat.sub_sub];rfl)<|Vn (m':=n-(k+min k (n-k))) om_ w (hn_ [7,8] U) ⟨k+min k (n-k),⟨by omega,by omega⟩,U,U,U⟩
 simp only[RZ]at f;have o:k=n:=by omega
 subst o;refine U1 2 [4] U<|Vo (VM U U ?_);exact⟨a,U,by simp⟩
theorem jh (C:Mem)(n:Nat)(a:n<=1000000):Jog.Fn cx.P 99 [i_ n] C [] fun u _g c=>∃ b,u=s_ b n n/\c=[.arr u 32 1 n (List.replicate n (ae [48]))]:=by
 refine Vi func99 6 U3 fun w0=>U1 1 [0] U<|VB [(2,3)] U fun R d=>Vy [[ae [48]]] U12 fun h _ _ e=>Vc U6<|D.call (Ei _ _ n [48] e.m_ a) U (.inr dc_) U6 (Rw _) fl_ fun i _ j _ f=>C6 1 [2] d U ?_;obtain⟨b,rfl,rfl⟩:=f;refine Vo (VM U U ?_);exact⟨b,U,U⟩
theorem eX {f:α->List Value}{x:α}(h:l[i]?=some x):(l.map f)[i]?=some (f x):=by rw[Rr,h];rfl
def oF (s:Str):List Value:=[ae s]
def aQ (q:Rat):List Value:=[ae (qtx q)]
theorem mK (l:List Rat):l.map aQ=(l.map qtx).map oF:=by rw[So];rfl
def Ki {α:Type}(p:α->Bool):List α->Nat->Int
|[],_=>-1
|x::l,k=>if p x then (k:Nat) else Ki p l (k+1)
theorem uJ {a:Type}{p:a->Bool}:∀ {l:List a}{i k:Nat}{x:a},l[i]?=some x->p x=true->(∀ y∈l.take i,p y=false)->Ki p l k=((k+i:Nat):Int)
|y::l,0,k,x,h,b,_=>by
  simp only[List.getElem?_cons_zero,Sb]at h;subst h;simp[Ki,b]
|y::l,i+1,k,x,h,b,c=>by
  simp only[Tb]at h;have hy:p y=false:=c y ak;have:=uJ (k:=k+1) h b (fun z d=>c z (by simp[d]));simp only[Ki,hy,Sn,SX,this];omega
theorem qt {a:Type}{p:a->Bool}:∀ {l:List a}{k:Nat},(∀ y∈l,p y=false)->Ki p l k=-1
|[],_,_=>rfl
|y::l,k,h=>by
  simp only[Ki,h y Rq,Sn,SX];exact qt fun z b=>h z (RB _ b)
theorem Em (p:α->Bool)(l:List α):(Ki p l 0=-1/\∀ y∈l,p y=false)∨∃ (i:Nat)(x:α),Ki p l 0=(i:Nat)/\l[i]?=some x/\p x=true/\∀ y∈l.take i,p y=false:=by
 by_cases h:∀ y∈l,p y=false
 ·exact .inl ⟨qt h,h⟩
 right;have d:∀ (l:List α),(¬ ∀ y∈l,p y=false)->∃ (i:Nat)(x:α),l[i]?=some x/\p x=true/\∀ y∈l.take i,p y=false:=by
  intro l;induction l with
 |nil=>intro h;exact absurd (fun y hy=>(by cases hy)) h
 |cons a l e =>
   intro h;by_cases b:p a=true
   ·exact⟨0,a,U,b,by simp⟩
   have c:p a=false:=by simpa using b
   obtain⟨i,x,h1,h2,h3⟩:=e (fun h2=>h (fun y hy=>by
    rcases RC.1 hy with rfl|hy
    ·exact c
    exact h2 y hy))
   refine⟨i+1,x,by simpa using h1,h2,fun y hy=>?_⟩;rw[List.take_succ_cons]at hy;rcases RC.1 hy with rfl|hy
   ·exact c
   exact h3 y hy
 obtain⟨i,x,h1,h2,h3⟩:=d l h;exact⟨i,x,by rw[uJ h1 h2 h3,SP],h1,h2,h3⟩
theorem GK (C:Mem)(v:Value)(l:List Str)(g:Nat)(d:List Value)(a:Str->Bool)(e:Sl C 1 v (l.map oF))(_A:Jog.Enters cx.P g=true)
  (n:∀ x∈l,∀ D:Mem,C.le D->Gives cx.P g (ae x::d) D (.bool (a x))) :
  Gives cx.P 91 [v,.func (.func g) #[] ⟨d⟩] C (i_ (Ki a l 0)):=by
 obtain⟨o,c0,rfl,p,B,_⟩:=id e;have E:=mx_
 simp only[au]at e p⊢;refine Vi func91 19 U3 fun w0=>U1 1 [0,1] U<|U1 3 [0,1,7,8] U<|G.loop (fun fr F q r=>∃ (i:Nat),(i<=l.length/\∀ y∈l.take i,a y=false)/\fr=[(0,[],.slice o l.length c0),(1,[],.func (.func g) #[] ⟨d⟩),(7,[],i_ l.length),(8,[],i_ i)]/\q=[]/\r=l.length-i) (hn_ [0,1,7,8] U) ⟨0,⟨Rv _,by simp⟩,U,U,U⟩ (fun fr H I m s t=>?_);obtain⟨i,⟨J,b⟩,rfl,rfl,rfl⟩:=t;refine U1 1 [0,1,7,8,9] U<|G.cd (fun f=>?_) fun f=>?_
 ·have h:i<l.length:=by simpa using f
  obtain⟨x,c⟩:∃ x,l[i]?=some x:=⟨l[i],ai h⟩;refine U1 2 [0,1,5,7,8] U<|Va 3 U fun R j=>Vq e.m_ U10 om_ (eX c) fl_ fun K u=>Vb u U8<|Vl (n x (aU c) _ mup) U7<|Vf [0,1,5,7,8,16] j U<|G.cd (fun k=>?_) fun k=>?_
  ·have w:a x=true:=k;exact U1 2 [4] U<|Vg U2<|⟨by rw[uJ c w b,SP],U⟩
  have z:a x=false:=k;refine Vd fun R j=>Vh _ U U6<|C6 1 [0,1,7,8] j U<|Vn (m':=l.length-(i+1)) om_ s (hn_ [0,1,7,8] U) ⟨i+1,⟨by omega,fun y hy=>by
   rw[RR,c]at hy;rcases RF.1 hy with hy|hy
   ·exact b y hy
   simp only[SR,RK]at hy;subst hy;exact z⟩,U,U,U⟩
 have h:i=l.length:=by
  have:¬ i<l.length:=by simpa using f
  omega
 exact U1 1 [4] U<|Vg U2<|⟨by rw[h,Rz]at b;rw[qt b],U⟩
theorem zL (C:Mem)(v:Value)(l:List Str)(g:Nat)(b:List Value)(a:Str->Bool)(c:Sl C 1 v (l.map oF))(d:Jog.Enters cx.P g=true)
  (e:∀ x∈l,∀ D:Mem,C.le D->Gives cx.P g (ae x::b) D (.bool (a x))) :
  Gives cx.P 33 [v,.func (.func g) #[] ⟨b⟩] C (.bool (l.any a)):=by
 refine Vi func33 9 U3 fun w0=>U1 1 [0,1] U<|Va 2 U fun R f=>Vl (GK _ v l g b a c.m_ d (fun x h D j=>e x h D (Mem.le.trans mup j))) U7<|C6 2 [4] f U<|Vg U2<|⟨?_,U⟩;congr 1;rcases Em a l with⟨h1,h2⟩|⟨i,x,h1,h2,h3,_⟩
 ·rw[h1,List.any_eq_false.2 (fun y hy=>by rw[h2 y hy];decide)];rfl
 rw[h1,TX.2 ⟨x,aU h2,h3⟩];exact RJ om_
theorem qi (C:Mem)(a:Tabs C)(s:Str)(b:s.length<=999998):Gives cx.P 102 [ae s] C (.bool (!aR s)):=by
 refine Vi func102 6 U3 fun w0=>U1 1 [0] U<|Va 1 U fun R c=>Vl (dE _ a.m_ s b) U7<|C6 2 [2] c U<|Vg U2 ?_;exact⟨by cases aR s <;> rfl,U⟩
def gb (n:Int)(l:List Str):Int:=if (l.length:Int)=n then oH (l.all aR) else 5
theorem uI (C:Mem)(e:Tabs C)(v:Value)(n:Int)(l:List Str)(a:Sl C 1 v (l.map oF))(b:∀ s∈l,s.length<=999998):Gives cx.P 135 [v,i_ n] C (i_ (gb n l)):=by
 obtain⟨o,c0,rfl,f,p,_⟩:=id a;have q:=mx_
 simp only[au]at a f⊢;refine Vi func135 13 U3 fun w0=>U1 1 [0,1] U<|U1 5 [0,5] U<|G.cd (fun h5=>?_) fun h5=>?_
 ·have g:¬ (l.length:Int)=n:=by simpa using h5
  exact U1 1 [4] U<|Vg U2<|⟨by unfold gb;rw[aF g],U⟩
 have d:(l.length:Int)=n:=by simpa using h5
 refine Va 1 U fun R h=>Vl (zL _ _ l _ [] (fun s=>!aR s) a.m_ U (fun s i D j=>qi D (e.mono (Mem.le.trans mup j)) s (b s i))) U7<|C6 1 [10] h U<|G.cd (fun c=>?_) fun c=>?_
 ·have k:l.all aR=false:=by
   obtain⟨s,h1,h2⟩:=TX.1 (show(l.any fun s=>!aR s)=true from c);exact TU.2 ⟨s,h1,by simpa using h2⟩
  exact U1 1 [4] U<|Vg U2<|⟨by unfold gb;rw[aM d,k];rfl,U⟩
 have m:l.all aR=true:=by
  have h1:=List.any_eq_false.1 (show(l.any fun s=>!aR s)=false from c);exact RI.2 fun s b=>by simpa using h1 s b
 exact U1 1 [4] U<|Vg U2<|⟨by unfold gb;rw[aM d,m];rfl,U⟩
end Go.Proofs.YtfjcldheldflbaaGreatDoor
