/- Laws that the proofs of this seat share, part 11. -/
import Derived.Test.YtfjcldheldflbaaGreatDoorG10
import Derived.Test.YtfjcldheldflbaaGreatDoorShelf
import Derived.Test.YtfjcldheldflbaaGreatDoorCards
import Derived.Test.YtfjcldheldflbaaGreatDoorTie
import Derived.Stop.LaidErr
import Derived.Lib.LaidTab
import Derived.Carry
import Derived.Deep.Strs
import Derived.Laws.IdiomArrays
set_option maxHeartbeats 4000000
namespace Go.Proofs.YtfjcldheldflbaaGreatDoor
open Go.Proofs.Tryz
open Go Go.Jog
set_option maxRecDepth 100000
variable {i j:Nat}{l:List Str}{n:Int}{q:Rat}{s u x y:Str}{z:Int}
def FieldsIn (C:Mem)(v:Value)(ls:List (List Str)):Prop:=∃ vs:List Value,vs.length=ls.length/\(∀ (i:Nat)(w:Value)(l:List Str),vs[i]?=some w->ls[i]?=some l->Sl C 1 w (l.map eA))/\Sl C 1 v (vs.map fun w=>[w])
theorem FieldsIn.mono {C D:Mem}{v:Value}{a:List (List Str)}(h:FieldsIn C v a)(b:C.le D):FieldsIn D v a:=by
 obtain ⟨vs,h1,h2,h3⟩:=h;exact ⟨vs,h1,fun i w l h4 h5=>(h2 i w l h4 h5).mono b,h3.mono b⟩
theorem FieldsIn.m_ {C D:Mem}{v:Value}{a:List (List Str)}(h:FieldsIn C v a)(b:C.le D:=by exact mup):FieldsIn D v a:=FieldsIn.mono h b
def EJ (s p:Nat)(ls:List (List Str)):Int:=if ls.length=s then cm (fun j=>nR p (ls.getD j [])) ls.length else 5
theorem Cs {p:Nat}(h:nR p l=0):l.length=p:=by
 unfold nR at h;split at h
 ·assumption
 cases h
theorem Ct {p:Nat}:∀ {ls:List (List Str)},(∀ l∈ls,l.length=p)->ls.flatten.length=p*ls.length
 | [],_=>by simp
 | l::ls,h=>by rw [RU,QG,h l QC,Ct fun x a=>h x (QL _ a),QT,Nat.mul_succ,SP]
theorem Hl {b:Type}{a:List (List b)}{l:List b}(h:a[j]?=some l):(a.take (j+1)).flatten=(a.take j).flatten++l:=by
 rw [Q4,h,Ro];simp
theorem EZ (C:Mem)(S:Tabs C)(H v:Value)(B:Bk)(s:Nat)(a:List (List Str))(T:BookIn C H B)(I:Good B.pts B.tris)(U:FieldsIn C v a)(V:∀ l∈a,∀ x∈l,x.length<=999998)(hl:a.length<=1000) :
  Pur cx.P 150 [gb s (bp B),H,v] C fun u D=>∃ w,u=.tuple #[w,.int .i64 (EJ s (bp B) a)]/\Sl D 1 w ((if EJ s (bp B) a=0 then a.flatten else []).map eA):=by
 obtain ⟨vs,J,W,q⟩:=U;have al:=I.ok.lp;obtain ⟨K,L,tv,cv,ov,rfl,h1,h2,h3,h4,h5⟩:=id T.ex;have hm:MeshIn C (.agg ⟨[K,L]⟩) B.pts B.tris:=⟨K,L,rfl,h1,h2⟩;obtain ⟨X,c0,rfl,Y,an,_⟩:=id q;have ao:maxLen<=9223372036854775807:=by simp [maxLen]
 simp only [ar,J] at q Y ⊢;refine Ur func150 35 U3 fun w0=>Ul fun R b=>UC U6 fun b3=>UC U6 fun b4=>C6 2 [2,3,4] b Z<|G.freeze 1 Z fun _ _ aa=>G.freeze 0 Z fun _ _ ab=>Ui 3 Z fun R b=>Uj (bkT aa 1) U8<|C6 1 [2,4,16] b Z<|G.cd (fun g=>?_) fun g=>?_
 ·have ac:a.length≠s:=by
   intro e;rw [e] at g;simp at g
  have c:EJ s (bp B) a=5:=by unfold EJ;rw [aF ac]
  refine Uh 2 [6,7] Z<|Uv (G.dropAll (UH U3 ?_));exact ⟨Z,.slice none 0 0,by rw [c],by rw [c];exact Sl.nil _ _⟩
 have M:a.length=s:=by
  have h:((a.length:Nat):Int)=(s:Nat):=by simpa using g
  omega
 refine Uh 1 [2,4,8] Z<|Uh 3 [4,8,17,18,19] Z<|G.nilArr 32 1<|G.loop (fun fr C' N μ=>∃ (j:Nat)(w:Value),(j<=a.length/\cm (fun j=>nR (bp B) (a.getD j [])) j=0)/\fr=[(4,[],.pointer (some ⟨b4,0,none⟩)),(8,[],w),(17,[],.slice X a.length c0),(18,[],.int .i64 a.length),(19,[],.int .i64 j)]/\N=[.arr w 32 1 (a.take j).flatten.length ((a.take j).flatten.map eA).flatten]/\μ=a.length-j) (hn_ [4,8,17,18,19] Z) ⟨0,_,⟨QH _,Z⟩,Z,Z,Z⟩ (fun fr ap aq m _ hI=>?_);obtain ⟨j,w,⟨hj,k⟩,rfl,rfl,rfl⟩:=hI;refine Uh 1 [4,8,17,18,19,20] Z<|G.cd (fun t=>?_) fun t=>?_
 ·have d:j<a.length:=by
   have:=PZ t;omega
  obtain ⟨l,n⟩:∃ l,a[j]?=some l:=⟨a[j],aj d⟩;obtain ⟨z,A⟩:∃ z,vs[j]?=some z:=⟨vs[j]'(by rw [J];exact d),aj _⟩;have o:=W j z l A n;obtain ⟨Aw,cw,rfl,_⟩:=id o;simp only [ar] at o A;have E:a.getD j []=l:=by rw [am,n,RT]
  have ad:(vs.map fun w=>[w])[j]?=some [.slice Aw l.length cw]:=by rw [QD,A];rfl
  have ae:∀ x∈a.take j,x.length=bp B:=by
   intro x hx;obtain ⟨i,F⟩:=Sc hx;have ag:=(aL.1 F).1;rw [QO] at ag;rw [Rs,aJ om_] at F;have h:=mi k i om_;simp only [am,F,RT] at h;exact Cs h
  have O:=Ct ae;rw [QO] at O;have ah:bp B<=400:=by unfold bp;omega
  have au:(a.take j).flatten.length<=400*1000:=by rw [O];exact R0 ah om_
  refine Ul fun R b=>Uy q.m_ U10 om_ ad fl_ fun av ai=>Uj ai U8<|C6 1 [4,8,10,17,18,19] b Z<|Ui 1 Z fun R b=>Uj (bkT ab 2) U8<|Uk U6<|Ut (mm _ S.m_ _ _ B.pts B.tris l hm.m_ I o.m_ (V l (aX n))) U7<|C6 1 [4,8,10,11,17,18,19] b Z<|Uh 2 [4,8,10,11,17,18,19,28] Z<|G.cd (fun p=>?_) fun p=>?_
  ·have f:nR (bp B) l≠0:=by
    intro e;rw [show nR B.pts.length l=0 from e] at p;exact absurd p dc_
   have c:EJ s (bp B) a=nR (bp B) l:=by
    unfold EJ;rw [aJ M,xQ (i:=j) k (by simp only [E];exact f) d];simp only [E]
   refine Uh 3 [6,7] Z<|Uv (G.dropAll (UH U3 ?_));exact ⟨Z,.slice none 0 0,by rw [c];rfl,by rw [c,aF f];exact Sl.nil _ _⟩
  have f:nR (bp B) l=0:=by
   have h:nR B.pts.length l=0:=by simpa using p
   exact h
  have aw:=Cs f;refine Ui 2 Z fun R b=>WC (j:=0) Z Z Z Z Z Z Z Z Z Z Z Z Z o.m_ (by simp [eA,lQ,af]) (by simp only [ar,maxLen];omega) (by simp only [ar];omega) fl_ fun Q=>C6 1 [4,8,17,18,19] b Z<|Ul fun R b=>Uq _ Z U6<|C6 1 [4,8,17,18,19] b Z<|Uz (L':=[.arr Q 32 1 (a.take (j+1)).flatten.length ((a.take (j+1)).flatten.map eA).flatten]) (by rw [Hl n,Rh,Ro,QG,ar];rfl)<|Uw (m':=a.length-(j+1)) om_ mup (hn_ [4,8,17,18,19] Z) ⟨j+1,Q,⟨by omega,mj k (by simp only [E];exact f)⟩,Z,Z,Z⟩
 have d:j=a.length:=by
  have:=QF t;omega
 subst d;have c:EJ s (bp B) a=0:=by unfold EJ;rw [aJ M];exact k
 rw [QM];refine Uh 3 [6,7] Z<|G.freezeArr 0 (a.flatten.map eA) rfl rfl (by intro r hr;obtain ⟨y,_,rfl⟩:=QE.1 hr;rfl) (by rw [ar]) fun Cg hg ak=>Uv (G.dropAll (UH U3 ?_));exact ⟨Z,_,by rw [c],by rw [aJ c];exact ak⟩
theorem Dg (C:Mem)(f:Tabs C)(c v:Value)(B:Bk)(a:List (List Str))(d:BookIn C c B)(g:Good B.pts B.tris)(h:BookZ C c B 0)(i:bs B*bp B<=60)(k:FieldsIn C v a)(m:∀ l∈a,∀ x∈l,x.length<=999998)(n:a.length<=1000) :
  Pur cx.P 82 [c,v] C fun u D=>∃ w,u=.tuple #[w,.int .i64 (EJ (bs B) (bp B) a)]/\Sl D 1 w ((if EJ (bs B) (bp B) a=0 then a.flatten else []).map eA):=by
 have o:=d;obtain ⟨s,t,y,z,A,rfl,h1,h2,h3,h4,h5⟩:=id d.ex;refine Ur func82 22 U3 fun w0=>Ul fun R b=>UC U6 fun E=>C6 2 [1,2] b Z<|Ul fun R b=>Uo ag U9<|Ut (Nd _ _ B h.m_ i) U7<|Um 3 Z<|UB U5 fun F=>Us (j:=0) U12<|C6 1 [1,2,6,7] b Z<|Uh 2 [1,2,6,7,14] Z<|G.cd (fun e=>?_) fun e=>?_
 ·exact absurd e dc_
 refine Ul fun R b=>Uo ag U9<|Uo ae U9<|Uk U6<|UR (EZ _ f.m_ _ _ B (bs B) a o.m_ g k.m_ m n) U7 (fun H _ _ p=>?_);obtain ⟨q,rfl,r⟩:=p;refine C6 4 [4,5] b Z<|Uv (G.dropAll (UH U3 ?_));exact ⟨Z,q,Z,r⟩
def rG (s p:Nat)(l:List Str):Int:=if l.length=s*p then oC (l.all aW) else 5
def Ej (p:Nat)(l:List Str)(j:Nat):List Str:=(l.take ((j+1)*p)).drop (j*p)
def chunks (s p:Nat)(l:List Str):List (List Str):=(List.range s).map (Ej p l)
theorem MR (h:l.all aW=true):l=(l.map di).map qtx:=by
 rw [RC];symm;have e:∀ s∈l,(qtx ∘ di) s=id s:=fun s hs=>(dy (QX.1 h s hs)).1.symm;rw [List.map_congr_left e,List.map_id]
theorem xU (C:Mem)(hT:Tabs C)(E v:Value)(B:Bk)(l:List Str)(hB:BookIn C E B)(F:BookZ C E B 0)(aa:bs B*bp B<=60)(f:Sl C 1 v (l.map eA))(hs:∀ x∈l,x.length<=999998)(_au:l.length<=100000) :
  Pur cx.P 81 [E,v] C fun u D=>∃ w,u=.tuple #[w,.int .i64 (rG (bs B) (bp B) l)]/\FieldsIn D w (if rG (bs B) (bp B) l=0 then chunks (bs B) (bp B) l else []):=by
 have av:=F.lc;have aw:=F.lp;have ay:bs B<=1000:=by unfold bs;omega
 have az:bp B<=400:=by unfold bp;omega
 obtain ⟨v1,v2,tv,cv,ov,rfl,h1,h2,h3,h4,h5⟩:=id hB.ex;obtain ⟨c,c0,rfl,ab,aA,_⟩:=id f;have aB:maxLen<=9223372036854775807:=by simp [maxLen]
 simp only [ar] at f ab ⊢;refine Ur func81 60 U3 fun w0=>Ul fun R a=>UC U6 fun b2=>C6 2 [1,2] a Z<|Ul fun R a=>Uo ag U9<|Ut (Nd _ _ B F.m_ aa) U7<|Um 3 Z<|UB U5 fun N=>Us (j:=0) U12<|C6 1 [1,6,7] a Z<|Uh 2 [1,6,7,19] Z<|G.cd (fun O=>?_) fun O=>?_
 ·exact absurd O dc_
 refine G.freeze 0 Z fun _ _ g=>Ui 2 Z fun R a=>Uj (bkT g 2) U8<|Uu (iY _ (bs B) (bp B) om_) U7 fl_<|C6 1 [1,6,25] a Z<|G.cd (fun k=>?_) fun k=>?_
 ·have ac:l.length≠bs B*bp B:=by
   intro e;rw [e] at k;simp at k
  have b:rG (bs B) (bp B) l=5:=by unfold rG;rw [aF ac]
  refine Uh 2 [4,5] Z<|Uv (G.dropAll (UH U3 ?_));exact ⟨Z,.slice none 0 0,by rw [b],by rw [b];exact ⟨[],Z,fun i w l h1 _=>by simp at h1,Sl.nil _ _⟩⟩
 have Q:l.length=bs B*bp B:=by
  have h:((l.length:Nat):Int)=((bs B*bp B:Nat):Int):=by simpa using k
  omega
 refine Uh 3 [1,6,26,27,28] Z<|G.dropAll<|G.loop (fun fr S n H=>∃ (i:Nat),(i<=l.length/\(l.take i).all aW=true)/\fr=[(1,[],.slice c l.length c0),(6,[],.pointer (some ⟨N,0,none⟩)),(26,[],.slice c l.length c0),(27,[],.int .i64 l.length),(28,[],.int .i64 i)]/\n=[]/\H=l.length-i) (hn_ [1,6,26,27,28] Z) ⟨0,⟨QH _,by simp⟩,Z,Z,Z⟩ (fun fr aC aD m ad I=>?_);obtain ⟨i,⟨o,p⟩,rfl,rfl,rfl⟩:=I;refine Uh 1 [1,6,26,27,28,29] Z<|G.cd (fun J=>?_) fun J=>?_
 ·have K:i<l.length:=by
   have:=PZ J;omega
  obtain ⟨s,t⟩:∃ s,l[i]?=some s:=⟨l[i],aj K⟩;refine Ul fun R a=>Uy f.m_ U10 om_ (cq t) fl_ fun aE ae=>Uj ae U8<|C6 1 [1,6,9,26,27,28] a Z<|Ui 1 Z fun R a=>Ut (dE _ hT.m_ s (hs s (aX t))) U7<|C6 1 [1,6,10,26,27,28] a Z<|Uh 2 [1,6,10,26,27,28,35] Z<|G.cd (fun d=>?_) fun d=>?_
  ·have T:aW s=false:=by
    rcases ff (aW s) with ⟨h1,h2⟩ | ⟨h1,h2⟩
    ·rw [h1] at d;exact absurd d dc_
    exact h2
   have b:rG (bs B) (bp B) l=2:=by
    unfold rG;rw [aJ Q,show l.all aW=false from Tn.2 ⟨s,aX t,by rw [T];decide⟩];rfl
   refine Uh 3 [4,5] Z<|Uv (G.dropAll (UH U3 ?_));exact ⟨Z,.slice none 0 0,by rw [b,T];rfl,by rw [b];exact ⟨[],Z,fun i w l h1 _=>by simp at h1,Sl.nil _ _⟩⟩
  have af:aW s=true:=by
   rcases ff (aW s) with ⟨h1,h2⟩ | ⟨h1,h2⟩
   ·exact h2
   rw [h1] at d;exact absurd d dc_
  refine Ul fun R a=>Uq _ Z U6<|C6 1 [1,6,26,27,28] a Z<|Uw (m':=l.length-(i+1)) om_ ad (hn_ [1,6,26,27,28] Z) ⟨i+1,⟨by omega,by rw [Q4,t,T8,p];simp [af]⟩,Z,Z,Z⟩
 have K:i=l.length:=by
  have:=QF J;omega
 subst K;rw [QM] at p;have b:rG (bs B) (bp B) l=0:=by unfold rG;rw [aJ Q,p];rfl
 have ah:=MR p;refine Uh 1 [1,6,11] Z<|Ui 1 Z fun R a=>Uj (bkT g 1) U8<|C6 1 [1,6,11,39,40] a Z<|G.nilArr 41 1<|G.loop (fun fr S n H=>∃ (j:Nat)(vs:List Value)(w:Value),(j<=bs B/\vs.length=j/\(∀ (i:Nat)(w:Value),vs[i]?=some w->Sl S 1 w ((Ej (bp B) l i).map eA)))/\fr=[(1,[],.slice c l.length c0),(6,[],.pointer (some ⟨N,0,none⟩)),(11,[],w),(39,[],.int .i64 (bs B:Nat)),(40,[],.int .i64 j)]/\n=[.arr w 41 1 vs.length (vs.map fun w=>[w]).flatten]/\H=bs B-j) (hn_ [1,6,11,39,40] Z) ⟨0,[],_,⟨QH _,Z,fun i w h=>by simp at h⟩,Z,Z,Z⟩ (fun fr aG aH m _ I=>?_);obtain ⟨j,vs,w,⟨hj,U,V⟩,rfl,rfl,rfl⟩:=I;refine Uh 1 [1,6,11,39,40,41] Z<|G.cd (fun L=>?_) fun L=>?_
 ·have M:j<bs B:=by
   have:=PZ L;omega
  have aI:(j+1)*bp B<=bs B*bp B:=Rq _ M;have aK:(j+1)*bp B=j*bp B+bp B:=Nat.succ_mul _ _;have ai:=Sl.sub f (l:=j*bp B) (h:=(j+1)*bp B) (m:=c0) om_ ap om_ (Qz _);have W:Ej (bp B) l j=(((l.map di).take ((j+1)*bp B)).drop (j*bp B)).map qtx:=by
   unfold Ej
   conv=>lhs;rw [ah]
   rw [List.map_drop,SH]
  have ak:Sl C 1 (.slice (if c0=j*bp B then c else c.map (·.add (j*bp B*1))) ((j+1)*bp B-j*bp B) (c0-j*bp B)) ((((l.map di).take ((j+1)*bp B)).drop (j*bp B)).map eM):=by
   rw [iv,<- W];unfold Ej;rw [List.map_drop,SH];exact ai
  refine Uh 2 [1,6,11,12,39,40] Z<|UI [(12,3)] Z fun R a=>Um 4 Z<|Uj (bkT g 1) U8<|Uq (((j*bp B:Nat):Int)) (Ra _ _) U6<|Uk U6<|UQ (((j+1:Nat):Int)) U4 om_ om_ om_ U2<|Uk U6<|Uj (bkT g 1) U8<|Uq ((((j+1)*bp B:Nat):Int)) (Ra _ _) U6<|Vg (j*bp B) ((j+1)*bp B) c0 U12 (fun _=>⟨.inr ⟨_,Z⟩,.inr ⟨_,Z⟩,.inl ⟨Z,Z⟩,by omega,by omega,by omega⟩) U2<|D.call (HR _ _ _ ak.m_ ap) Z (.inr dc_) U6 (QI _) fl_ (fun aM _ aN _ am=>?_);obtain ⟨z,A,cc,rfl,rfl⟩:=am;refine UF [[.slice z A cc]] U12 fun aO _ _ an=>D.append (j:=1) U11 an Z ax (by simp only [QA];omega) fl_ fun X=>C6 1 [1,6,11,39,40] a Z<|Ul fun R a=>Uq _ Z U6<|C6 1 [1,6,11,39,40] a Z<|G.freezeArr 1 ((((l.map di).take ((j+1)*bp B)).drop (j*bp B)).map eM) rfl rfl (by intro r hr;obtain ⟨y,_,rfl⟩:=QE.1 hr;rfl) (by rw [ar]) (fun Cz b Y=>?_);rw [iv,<- W] at Y;refine Uz (L':=[.arr X 41 1 (vs++[Value.slice z A cc]).length ((vs++[Value.slice z A cc]).map fun w=>[w]).flatten]) al<|Uw (m':=bs B-(j+1)) om_ mup (hn_ [1,6,11,39,40] Z) ⟨j+1,vs++[.slice z A cc],X,⟨by omega,by simp [U],fun i w h=>by
   rcases Q1 i vs.length with h1 | h1
   ·rw [Rr h1] at h;exact (V i w h).mono mup
   rw [Q3 h1] at h;cases o:i-vs.length with
   | zero =>
    rw [o] at h;simp at h;subst h;rw [show i=j by omega];exact Y
   | succ q=>rw [o] at h;simp at h⟩,rfl,rfl,rfl⟩
 have M:j=bs B:=by
  have:=QF L;omega
 have ao:(chunks (bs B) (bp B) l).length=bs B:=by simp [chunks]
 refine Uh 3 [4,5] Z<|G.freezeArr 0 (vs.map fun w=>[w]) rfl rfl (by intro r hr;obtain ⟨y,_,rfl⟩:=QE.1 hr;rfl) (by rw [ar]) fun Cg hg aq=>Uv (G.dropAll (UH U3 ?_));refine ⟨Z,_,by rw [b], ?_⟩;rw [aJ b];refine ⟨vs,by rw [ao,U,M],fun i w l2 h1 h2=>?_,aq⟩;unfold chunks at h2;rw [QD] at h2;have o:=(aL.1 h1).1;rw [Rc om_] at h2;simp only [Sf,Rk] at h2;subst h2;exact (V i w h1).mono mup
def dotV (f x:List Rat):Nat->Rat
 | 0=>0
 | n+1=>dotV f x n+f.getD n 0*x.getD n 0
structure DotOk (r:RowQ)(x:List Rat):Prop where
 f:∀ q∈r.f,QB 22 q
 b:QB 22 r.b
 len:r.f.length=x.length
 s:∀ n,QB 2000 (dotV r.f x n)
def txs (lq:List (List Rat)):List (List Str):=lq.map fun l=>l.map qtx
def sqP:List (Int × Int):=[(0,0),(4,0),(4,4),(0,4)]
def shP:Nat->List (Int × Int)
 | 0=>sqP
 | 1=>sqP
 | 2=>sqP++[(2,1)]
 | 3=>[(0,0),(6,0),(0,4)]
 | 4=>[(0,0),(2,0),(4,0),(0,2),(2,2),(4,2)]
 | 5=>[(1,4),(5,3),(4,0),(0,0)]
 | 6=>sqP++[(2,0)]
 | _=>[(0,0),(6,0),(0,6),(2,2)]
def shT:Nat->List Tri
 | 0=>[(0,1,2),(0,2,3)]
 | 1=>[(0,1,3),(1,2,3)]
 | 2=>[(0,1,4),(1,2,4),(2,3,4),(3,0,4)]
 | 3=>[(2,0,1)]
 | 4=>[(0,1,4),(0,4,3),(1,2,5),(1,5,4)]
 | 5=>[(3,2,1),(3,1,0)]
 | 6=>[(0,4,3),(4,2,3),(4,1,2)]
 | _=>[(0,1,3),(1,2,3),(2,0,3)]
def Qp (p:Int × Int):List Value:=[.int .i64 p.1,.int .i64 p.2]
def ShIn (u:Value)(D:Mem)(m:Nat):Prop:=∃ pv tv,u=.tuple #[pv,tv]/\Sl D 2 pv ((shP m).map Qp)/\Sl D 3 tv ((shT m).map iu)
theorem Dr (C:Mem)(a:Nat)(_H:a<256):Pur cx.P 115 [.int .u8 a] C fun u D=>ShIn u D (a % 8):=by
 have I:a % 8<8:=Rj _ dc_;obtain ⟨m,hm⟩:∃ m,a % 8=m:=⟨_,rfl⟩;refine Ur func115 86 U3 fun w0=>Uh 2 [0] Z<|Ul fun R b=>UA ([.int .i64 0,.int .i64 0]) U8<|UA ([.int .i64 4,.int .i64 0]) U8<|UA ([.int .i64 4,.int .i64 4]) U8<|UA ([.int .i64 0,.int .i64 4]) U8<|Ve [[.int .i64 0,.int .i64 0],[.int .i64 4,.int .i64 0],[.int .i64 4,.int .i64 4],[.int .i64 0,.int .i64 4]] U12 fl_ fun J _ _ d=>C6 1 [0,4] b Z<|Ui 1 Z fun R b=>Vc (a) (8) U6 om_ U2<|Un [4,11] b Z<|Uh 2 [4,11,12] Z<|G.cd (fun f=>?_) fun f=>?_
 ·have c:a % 8=0:=by
   have:=dU f;omega
  refine Ui 1 Z fun R b=>UA ([.int .i64 0,.int .i64 1,.int .i64 2]) U8<|UA ([.int .i64 0,.int .i64 2,.int .i64 3]) U8<|UF [[.int .i64 0,.int .i64 1,.int .i64 2],[.int .i64 0,.int .i64 2,.int .i64 3]] U12 fun K _ _ n=>C6 2 [2,3] b Z<|Uv (G.dropAll (UH U3 ?_));exact ⟨Z,by rw [c];exact ⟨_,_,Z,d.mono mup,n.mono mup⟩⟩
 have L:a % 8≠0:=by
  intro e;rw [e] at f;exact absurd f dc_
 refine Uh 2 [4,11,18] Z<|G.cd (fun g=>?_) fun g=>?_
 ·have c:a % 8=1:=by
   have:=dU g;omega
  refine Ui 1 Z fun R b=>UA ([.int .i64 0,.int .i64 1,.int .i64 3]) U8<|UA ([.int .i64 1,.int .i64 2,.int .i64 3]) U8<|UF [[.int .i64 0,.int .i64 1,.int .i64 3],[.int .i64 1,.int .i64 2,.int .i64 3]] U12 fun M _ _ o=>C6 2 [2,3] b Z<|Uv (G.dropAll (UH U3 ?_));exact ⟨Z,by rw [c];exact ⟨_,_,Z,d.mono mup,o.mono mup⟩⟩
 have N:a % 8≠1:=by
  intro e;rw [e] at g;exact absurd g dc_
 refine Uh 2 [4,11,24] Z<|G.cd (fun h=>?_) fun h=>?_
 ·have c:a % 8=2:=by
   have:=dU h;omega
  refine Ui 1 Z fun R b=>UA ([.int .i64 2,.int .i64 1]) U8<|UF [[.int .i64 2,.int .i64 1]] U12 fun O _ _ p=>Wd Z Z Z Z Z Z Z Z Z Z d.m_ p.m_ (.inr dc_) (by simp only [QT,Re,maxLen];omega) dc_ fl_ fun Q _ _ q=>UA ([.int .i64 0,.int .i64 1,.int .i64 4]) U8<|UA ([.int .i64 1,.int .i64 2,.int .i64 4]) U8<|UA ([.int .i64 2,.int .i64 3,.int .i64 4]) U8<|UA ([.int .i64 3,.int .i64 0,.int .i64 4]) U8<|UF [[.int .i64 0,.int .i64 1,.int .i64 4],[.int .i64 1,.int .i64 2,.int .i64 4],[.int .i64 2,.int .i64 3,.int .i64 4],[.int .i64 3,.int .i64 0,.int .i64 4]] U12 fun S _ _ r=>C6 2 [2,3] b Z<|Uv (G.dropAll (UH U3 ?_));exact ⟨Z,by rw [c];exact ⟨_,_,Z,q.mono mup,r.mono mup⟩⟩
 have T:a % 8≠2:=by
  intro e;rw [e] at h;exact absurd h dc_
 refine Uh 2 [4,11,35] Z<|G.cd (fun i=>?_) fun i=>?_
 ·have c:a % 8=3:=by
   have:=dU i;omega
  refine Ul fun R b=>UA ([.int .i64 0,.int .i64 0]) U8<|UA ([.int .i64 6,.int .i64 0]) U8<|UA ([.int .i64 0,.int .i64 4]) U8<|UF [[.int .i64 0,.int .i64 0],[.int .i64 6,.int .i64 0],[.int .i64 0,.int .i64 4]] U12 fun U _ _ s=>UA ([.int .i64 2,.int .i64 0,.int .i64 1]) U8<|UF [[.int .i64 2,.int .i64 0,.int .i64 1]] U12 fun V _ _ t=>C6 2 [2,3] b Z<|Uv (G.dropAll (UH U3 ?_));exact ⟨Z,by rw [c];exact ⟨_,_,Z,s.mono mup,t.mono mup⟩⟩
 have W:a % 8≠3:=by
  intro e;rw [e] at i;exact absurd i dc_
 refine Uh 2 [4,11,43] Z<|G.cd (fun j=>?_) fun j=>?_
 ·have c:a % 8=4:=by
   have:=dU j;omega
  refine Ul fun R b=>UA ([.int .i64 0,.int .i64 0]) U8<|UA ([.int .i64 2,.int .i64 0]) U8<|UA ([.int .i64 4,.int .i64 0]) U8<|UA ([.int .i64 0,.int .i64 2]) U8<|UA ([.int .i64 2,.int .i64 2]) U8<|UA ([.int .i64 4,.int .i64 2]) U8<|UF [[.int .i64 0,.int .i64 0],[.int .i64 2,.int .i64 0],[.int .i64 4,.int .i64 0],[.int .i64 0,.int .i64 2],[.int .i64 2,.int .i64 2],[.int .i64 4,.int .i64 2]] U12 fun X _ _ v=>UA ([.int .i64 0,.int .i64 1,.int .i64 4]) U8<|UA ([.int .i64 0,.int .i64 4,.int .i64 3]) U8<|UA ([.int .i64 1,.int .i64 2,.int .i64 5]) U8<|UA ([.int .i64 1,.int .i64 5,.int .i64 4]) U8<|UF [[.int .i64 0,.int .i64 1,.int .i64 4],[.int .i64 0,.int .i64 4,.int .i64 3],[.int .i64 1,.int .i64 2,.int .i64 5],[.int .i64 1,.int .i64 5,.int .i64 4]] U12 fun Y _ _ w=>C6 2 [2,3] b Z<|Uv (G.dropAll (UH U3 ?_));exact ⟨Z,by rw [c];exact ⟨_,_,Z,v.mono mup,w.mono mup⟩⟩
 have aa:a % 8≠4:=by
  intro e;rw [e] at j;exact absurd j dc_
 refine Uh 2 [4,11,57] Z<|G.cd (fun k=>?_) fun k=>?_
 ·have c:a % 8=5:=by
   have:=dU k;omega
  refine Ul fun R b=>UA ([.int .i64 1,.int .i64 4]) U8<|UA ([.int .i64 5,.int .i64 3]) U8<|UA ([.int .i64 4,.int .i64 0]) U8<|UA ([.int .i64 0,.int .i64 0]) U8<|UF [[.int .i64 1,.int .i64 4],[.int .i64 5,.int .i64 3],[.int .i64 4,.int .i64 0],[.int .i64 0,.int .i64 0]] U12 fun ab _ _ x=>UA ([.int .i64 3,.int .i64 2,.int .i64 1]) U8<|UA ([.int .i64 3,.int .i64 1,.int .i64 0]) U8<|UF [[.int .i64 3,.int .i64 2,.int .i64 1],[.int .i64 3,.int .i64 1,.int .i64 0]] U12 fun ac _ _ y=>C6 2 [2,3] b Z<|Uv (G.dropAll (UH U3 ?_));exact ⟨Z,by rw [c];exact ⟨_,_,Z,x.mono mup,y.mono mup⟩⟩
 have ad:a % 8≠5:=by
  intro e;rw [e] at k;exact absurd k dc_
 refine Uh 2 [4,67] Z<|G.cd (fun l=>?_) fun l=>?_
 ·have c:a % 8=6:=by
   have:=dU l;omega
  refine Ui 1 Z fun R b=>UA ([.int .i64 2,.int .i64 0]) U8<|UF [[.int .i64 2,.int .i64 0]] U12 fun ae _ _ z=>Wd Z Z Z Z Z Z Z Z Z Z d.m_ z.m_ (.inr dc_) (by simp only [QT,Re,maxLen];omega) dc_ fl_ fun af _ _ A=>UA ([.int .i64 0,.int .i64 4,.int .i64 3]) U8<|UA ([.int .i64 4,.int .i64 2,.int .i64 3]) U8<|UA ([.int .i64 4,.int .i64 1,.int .i64 2]) U8<|UF [[.int .i64 0,.int .i64 4,.int .i64 3],[.int .i64 4,.int .i64 2,.int .i64 3],[.int .i64 4,.int .i64 1,.int .i64 2]] U12 fun ag _ _ B=>C6 2 [2,3] b Z<|Uv (G.dropAll (UH U3 ?_));exact ⟨Z,by rw [c];exact ⟨_,_,Z,A.mono mup,B.mono mup⟩⟩
 have ah:a % 8≠6:=by
  intro e;rw [e] at l;exact absurd l dc_
 refine Ul fun R b=>UA ([.int .i64 0,.int .i64 0]) U8<|UA ([.int .i64 6,.int .i64 0]) U8<|UA ([.int .i64 0,.int .i64 6]) U8<|UA ([.int .i64 2,.int .i64 2]) U8<|UF [[.int .i64 0,.int .i64 0],[.int .i64 6,.int .i64 0],[.int .i64 0,.int .i64 6],[.int .i64 2,.int .i64 2]] U12 fun ai _ _ E=>UA ([.int .i64 0,.int .i64 1,.int .i64 3]) U8<|UA ([.int .i64 1,.int .i64 2,.int .i64 3]) U8<|UA ([.int .i64 2,.int .i64 0,.int .i64 3]) U8<|UF [[.int .i64 0,.int .i64 1,.int .i64 3],[.int .i64 1,.int .i64 2,.int .i64 3],[.int .i64 2,.int .i64 0,.int .i64 3]] U12 fun aj _ _ F=>C6 2 [2,3] b Z<|Uv (G.dropAll (UH U3 ?_));exact ⟨Z,by rw [show a % 8=7 by omega];exact ⟨_,_,Z,E.mono mup,F.mono mup⟩⟩
theorem ER (a:-128<=n)(b:n<128):IntKind.i8.wrap n=n:=by
 simp [IntKind.wrap,IntKind.bits,IntKind.signed];omega
theorem Le:∀ m:Nat,∀ p∈shP m,0<=p.1/\p.1<=6/\0<=p.2/\p.2<=6
 | 0=>by decide
 | 1=>by decide
 | 2=>by decide
 | 3=>by decide
 | 4=>by decide
 | 5=>by decide
 | 6=>by decide
 | _+7=>by
  show ∀ p∈([(0,0),(6,0),(0,6),(2,2)]:List (Int × Int)),0<=p.1/\p.1<=6/\0<=p.2/\p.2<=6;decide
theorem Fu:∀ m:Nat,(shP m).length<=6
 | 0=>by decide
 | 1=>by decide
 | 2=>by decide
 | 3=>by decide
 | 4=>by decide
 | 5=>by decide
 | 6=>by decide
 | _+7=>by
  show ([(0,0),(6,0),(0,6),(2,2)]:List (Int × Int)).length<=6;decide
def cA (m:Nat)(a b:Int)(h:Bool):List Pt:=(shP m).map fun p=>dH a b h p.1 p.2 1
theorem hU (m:Nat)(a b:Int)(h:Bool):(cA m a b h).length<=6:=by rw [cA,ar];exact Fu m
theorem qM {w:Int}(c:w≠0)(a:z.natAbs<1000000000)(b:w.natAbs<1000000000):QB 1 (ld z w):=by
 unfold ld;refine ig om_ ?_ ?_
 ·show _<B9 ^ 1;split
  ·rw [TM];exact a
  exact a
 exact b
theorem BO {a b:Int}{h:Bool}{x y:Int}(g:0<n)(i:n<=4)(j:-128<=x/\x<=127)(k:-128<=y/\y<=127):QP 1 (dH a b h x y n):=by
 have c:=yJ a;have d:=yJ b;have hh:dV h=1∨dV h=2:=by cases h <;> simp [dV]
 have f:∀ z:Int, -8<z->z<8->-32<z*n/\z*n<32:=fun z h1 h2=>by
  rcases (by omega:n=1∨n=2∨n=3∨n=4) with e | e | e | e <;> subst e <;> omega
 have l:=f _ c.1 c.2;have m:=f _ d.1 d.2;have o:0<dV h*n/\dV h*n<=8:=by rcases hh with e | e <;> rw [e] <;> omega
 exact ⟨qM om_ om_ om_,qM om_ om_ om_⟩
theorem xq (C:Mem)(E:Tabs C)(d:Nat)(a b:Int)(h:Bool)(F:d<256):Pur cx.P 57 [Ld d a b h] C fun u D=>MeshIn D u (cA (d % 8) a b h) (shT (d % 8)):=by
 have H:=Le (d % 8);have ac:=Fu (d % 8);refine Ur func57 42 U3 fun w0=>Ul fun R e=>UC U6 fun I=>UB U5 fun f=>Un [1,2] e Z<|G.freeze 1 Z fun _ _ v=>Ui 1 Z fun R e=>Uj (bkT v 1) U8<|UR (Dr _ d F) U7 (fun ad _ _ J=>?_);obtain ⟨pv,tv,rfl,g,o⟩:=J;obtain ⟨K,L,rfl,M,ae,_⟩:=id g;obtain ⟨At,k,rfl,af,ah,_⟩:=id o;simp only [ar] at g o M ⊢;refine C6 5 [1,2,3,4] e Z<|Ui 1 Z fun R e=>UA [.slice none 0 0,.slice At (shT (d % 8)).length k] U8<|UB U5 fun l=>Us (j:=0) U12<|Un [1,2,3,5] e Z<|Uh 1 [1,2,3,5,6] Z<|G.nilArr 34 2<|G.perm (L':=[.obj l (.cells ⟨[.slice none 0 0,.slice At (shT (d % 8)).length k]⟩ 39 (0,0)),.arr (.slice none 0 0) 34 2 0 [],.obj f (.cells ⟨[.slice none 0 0,.slice none 0 0]⟩ 39 (0,0))]) (List.Perm.swap _ _ _)<|G.loop (fun fr C' q N=>∃ (i:Nat)(w:Value),(i<=(shP (d % 8)).length)/\fr=[(1,[],.pointer (some ⟨I,0,none⟩)),(2,[],.pointer (some ⟨f,0,none⟩)),(3,[],.slice K (shP (d % 8)).length L),(5,[],.pointer (some ⟨l,0,none⟩)),(6,[],.int .i64 i)]/\q=[.obj l (.cells ⟨[w,.slice At (shT (d % 8)).length k]⟩ 39 (0,0)),.arr w 34 2 ((cA (d % 8) a b h).take i).length (((cA (d % 8) a b h).take i).map gl).flatten,.obj f (.cells ⟨[.slice none 0 0,.slice none 0 0]⟩ 39 (0,0))]/\N=(shP (d % 8)).length-i) (hn_ [1,2,3,5,6] Z) ⟨0,.slice none 0 0,QH _,Z,Z,Z⟩ (fun fr ai ak m _ O=>?_);obtain ⟨i,w,hi,rfl,rfl,rfl⟩:=O;refine Uh 4 [1,2,3,5,6,18] Z<|G.cd (fun s=>?_) fun s=>?_
 ·have t:i<(shP (d % 8)).length:=by
   have:=PZ s;omega
  obtain ⟨p,n⟩:∃ p,(shP (d % 8))[i]?=some p:=⟨(shP (d % 8))[i],aj t⟩;obtain ⟨al,am,an,ao⟩:=H p (aX n);have Q:(cA (d % 8) a b h)[i]?=some (dH a b h p.1 p.2 1):=by unfold cA;rw [QD,n];rfl
  have S:(cA (d % 8) a b h).take (i+1)=(cA (d % 8) a b h).take i++[dH a b h p.1 p.2 1]:=by rw [Q4,Q];rfl
  have ap:((cA (d % 8) a b h).take i).length<=6:=by rw [QO];have:=hU (d % 8) a b h;omega
  refine UD [0,1,2,3,4,5,6,7,8,9,10,11,12,13,14,15,16,17,18,19,20] [(16,1),(8,0),(14,0)] Z kr_ fun R hB e=>Uk U6<|Uo ag U9<|Uj (bkT v 4) U8<|Um 2 Z<|Uy g.m_ U10 om_ (cq n) fl_ fun aq T=>VS U9 (fun _=>T) (fun _=>⟨by omega,om_⟩) fl_ Z (fun au U=>?_);have V:=U trivial;refine Uj V U8<|Vm (c:=p.1) U8 (ER om_ om_) U2<|Um 2 Z<|Uy g.m_ U10 om_ (cq n) fl_ fun av W=>VS U9 (fun _=>W) (fun _=>⟨by omega,om_⟩) fl_ Z (fun aw X=>?_);have Y:=X trivial;refine Uj Y U8<|Vm (c:=p.2) U8 (ER om_ om_) U2<|UA [.int .i8 p.1,.int .i8 p.2] U8<|UG (fun _=>(BQ _ E.m_ d a b h p.1 p.2 1 dc_ dc_ ⟨by omega,by omega⟩ ⟨by omega,by omega⟩)) U9<|UF [gl (dH a b h p.1 p.2 1)] U12 fun ay _ _ aa=>UP (j:=1) U11 aa.m_ Z ax (by simp only [QA];omega) fl_ fun x z A=>Uk U6<|Us (j:=1) U12<|Un [1,2,3,5,6] e Z<|Ui 1 Z fun R e=>Uq _ Z U6<|C6 1 [1,2,3,5,6] e Z<|Uz (L':=[.obj l (.cells ⟨[.slice x z A,.slice At (shT (d % 8)).length k]⟩ 39 (0,0)),.arr (.slice x z A) 34 2 ((cA (d % 8) a b h).take (i+1)).length (((cA (d % 8) a b h).take (i+1)).map gl).flatten,.obj f (.cells ⟨[.slice none 0 0,.slice none 0 0]⟩ 39 (0,0))]) (by rw [S,Rh,Ro,QG];rfl)<|Uw (m':=(shP (d % 8)).length-(i+1)) om_ mup (hn_ [1,2,3,5,6] Z) ⟨i+1,_,om_,Z,Z,Z⟩
 have t:i=(shP (d % 8)).length:=by
  have:=QF s;omega
 have ab:(cA (d % 8) a b h).take i=cA (d % 8) a b h:=Rf (by rw [t,cA,ar];exact Qz _);rw [ab];refine G.freezeArr 1 ((cA (d % 8) a b h).map gl) rfl rfl (by intro r hr;obtain ⟨y,_,rfl⟩:=QE.1 hr;rfl) (by rw [ar]) (fun Cg hg B=>?_);obtain ⟨Aw,cw,rfl,_⟩:=id B;refine Ul fun R e=>Uo ag U9<|Us (j:=1) U12<|Un [2] e Z<|Uv (Va ag U4 ?_);exact ⟨Z,_,_,Z,B,o.mono mup⟩
structure Hts where
 h0:Int
 h1:Int
 h2:Int
 h3:Int
 h4:Int
 h5:Int
 half:Bool
def Ix (H:Hts):List Int:=[H.h0,H.h1,H.h2,H.h3,H.h4,H.h5]
def Pp (H:Hts):List Value:=[.int .i8 H.h0,.int .i8 H.h1,.int .i8 H.h2,.int .i8 H.h3,.int .i8 H.h4,.int .i8 H.h5,.bool H.half]
def PY (H:Hts):Prop:=∀ z∈Ix H, -128<=z/\z<=127
def fsK (n:Nat)(H:Hts):List Rat:=(List.range n).map fun i=>ld (((Ix H).getD (i % 6) 0).tmod 20) (dV H.half)
theorem E8 (a:Int):-20<a.tmod 20/\a.tmod 20<20:=by
 have h:(a.tmod 20).natAbs=a.natAbs % 20:=Ti a 20;omega
theorem uS (h:Bool):dV h=1∨dV h=2:=by cases h <;> simp [dV]
theorem uW (n:Nat)(H:Hts):(fsK n H).length=n:=by simp [fsK]
theorem Hj (n:Nat)(H:Hts):∀ q∈fsK n H,QB 1 q:=by
 intro q a;unfold fsK at a;obtain ⟨i,_,rfl⟩:=QE.1 a;have h1:=E8 ((Ix H).getD (i % 6) 0);have h2:=uS H.half;exact qM om_ om_ om_
theorem Nx (H:Hts)(j:Nat)(a:j<6):((Pp H).drop j).take 1=[.int .i8 ((Ix H).getD j 0)]:=by
 rcases (by omega:j=0∨j=1∨j=2∨j=3∨j=4∨j=5) with rfl | rfl | rfl | rfl | rfl | rfl <;> rfl
theorem jm (C:Mem)(B:Tabs C)(o E:Value)(n:Nat)(F:Option Addr)(I:Nat)(H:Hts)(J:o=.slice F n I)(T:n<=400)(K:PY H):Pur cx.P 30 [.agg ⟨[o,E]⟩,.agg ⟨Pp H⟩] C fun u D=>Sl D 1 u ((fsK n H).map eM):=by
 subst J;obtain ⟨h0,h1,h2,h3,h4,h5,a⟩:=H;have U:maxLen<=9223372036854775807:=by simp [maxLen]
 refine Ur func30 31 U3 fun w0=>Ul fun R b=>UC U6 fun p=>UC U6 fun q=>C6 1 [2,3] b Z<|G.freeze 1 Z fun _ _ L=>G.freeze 0 Z fun _ _ s=>Ul fun R b=>Vq [] U12 fl_ fun t=>C6 1 [2,3,5] b Z<|Uh 1 [2,3,5,6] Z<|Ui 1 Z fun R b=>Uj (bkT s 1) U8<|Un [2,3,5,6,10] b Z<|G.cut (fun fr M d e=>(True)/\fr=[(2,[],.pointer (some ⟨p,0,none⟩)),(3,[],.pointer (some ⟨q,0,none⟩)),(5,[],.slice (some ⟨t,0,none⟩) 0 0),(6,[],.int .i64 (dV a))]/\d=[.arr (.slice (some ⟨t,0,none⟩) 0 0) 32 1 0 []]) ?_ (fun fr _ V e _ f=>?_)
 ·refine G.cd (fun g=>?_) fun g=>?_
  ·have h1:a=true:=g;subst h1;refine Uh 1 [2,3,5,6] Z<|Ux 0 (Mem.le.refl _) (hn_ [2,3,5,6] Z) ⟨trivial,Z,Z⟩
  have h1:a=false:=g;subst h1;refine Ux 0 (Mem.le.refl _) (hn_ [2,3,5,6] Z) ⟨trivial,Z,Z⟩
 obtain ⟨_,rfl,rfl⟩:=f;refine Uh 1 [2,3,5,6,7] Z<|G.loop (fun fr M d e=>∃ (i:Nat)(w:Value),(i<=n)/\fr=[(2,[],.pointer (some ⟨p,0,none⟩)),(3,[],.pointer (some ⟨q,0,none⟩)),(5,[],w),(6,[],.int .i64 (dV a)),(7,[],.int .i64 i)]/\d=[.arr w 32 1 ((fsK n ⟨h0,h1,h2,h3,h4,h5,a⟩).take i).length (((fsK n ⟨h0,h1,h2,h3,h4,h5,a⟩).take i).map eM).flatten]/\e=n-i) (hn_ [2,3,5,6,7] Z) ⟨0,_,QH _,Z,Z,Z⟩ (fun fr W X m _ f=>?_);obtain ⟨i,w,Y,rfl,rfl,rfl⟩:=f;refine Ui 2 Z fun R b=>Uj (bkT L 1) U8<|C6 2 [2,3,5,6,7,15] b Z<|G.cd (fun h=>?_) fun h=>?_
 ·have k:i<n:=by
   have:=PZ h;omega
  have v:i % 6<6:=Rj _ dc_;obtain ⟨z,l⟩:∃ z,(Ix ⟨h0,h1,h2,h3,h4,h5,a⟩).getD (i % 6) 0=z:=⟨_,rfl⟩;have x:=Nx ⟨h0,h1,h2,h3,h4,h5,a⟩ (i % 6) v;rw [l] at x;have N:z∈Ix ⟨h0,h1,h2,h3,h4,h5,a⟩:=by
   rw [<- l,am,aj (show i % 6<(Ix ⟨h0,h1,h2,h3,h4,h5,a⟩).length from v),RT];exact Rv _
  have aa:=K z N;have ab:=E8 z;have ac:=uS a;have O:(fsK n ⟨h0,h1,h2,h3,h4,h5,a⟩).take (i+1)=(fsK n ⟨h0,h1,h2,h3,h4,h5,a⟩).take i++[ld (z.tmod 20) (dV a)]:=by
   rw [Q4,show (fsK n ⟨h0,h1,h2,h3,h4,h5,a⟩)[i]?=some (ld (z.tmod 20) (dV a)) by unfold fsK;rw [QD,Rc k,<- l];rfl];rfl
  have ad:((fsK n ⟨h0,h1,h2,h3,h4,h5,a⟩).take i).length<=400:=by rw [QO,uW];omega
  refine Ui 2 Z fun R b=>Vc (i) (6) U6 om_ U2<|Uk U6<|UE ((i % 6)) U9 (fun _=>⟨by omega,by omega,(by show i % 6=0+(i % 6)*1;omega)⟩) U2<|Vw (PtrTo.blockT (Mem.get s mup) (i % 6) 1) U6 (show cI _ (((Pp ⟨h0,h1,h2,h3,h4,h5,a⟩).drop (i % 6)).take 1)=some (.int .i8 z) from by rw [x];rfl) Z<|UU (c:=z) U8 (wrap_i64 om_ om_) fl_<|Vo (z.tmod 20) U6 dc_ U3<|Uk U6<|Uu (Ph _ B.m_ (z.tmod 20) (dV a) om_ om_ om_) U7 fl_<|UF [eM (ld (z.tmod 20) (dV a))] U12 fun ae _ _ Q=>D.append (j:=0) U11 Q Z ax (by simp only [QA];omega) fl_ fun A=>C6 1 [2,3,5,6,7] b Z<|Ui 1 Z fun R b=>Uq _ Z U6<|C6 1 [2,3,5,6,7] b Z<|Uz (L':=[.arr A 32 1 ((fsK n ⟨h0,h1,h2,h3,h4,h5,a⟩).take (i+1)).length (((fsK n ⟨h0,h1,h2,h3,h4,h5,a⟩).take (i+1)).map eM).flatten]) (by rw [O,Rh,Ro,QG];rfl)<|Uw (m':=n-(i+1)) om_ mup (hn_ [2,3,5,6,7] Z) ⟨i+1,A,om_,Z,Z,Z⟩
 have k:i=n:=by
  have:=QF h;omega
 rw [show (fsK n ⟨h0,h1,h2,h3,h4,h5,a⟩).take i=fsK n ⟨h0,h1,h2,h3,h4,h5,a⟩ from Rf (by rw [k,uW];exact Qz _)];exact Uh 2 [4] Z<|G.freezeArr 0 ((fsK n ⟨h0,h1,h2,h3,h4,h5,a⟩).map eM) rfl rfl (by intro r hr;obtain ⟨y,_,rfl⟩:=QE.1 hr;rfl) (by rw [ar]) fun Cg hg S=>Up U2<|⟨Z,S⟩
structure Sgt where
 kind:Nat
 px:Int
 py:Int
 u0:Nat
 u1:Nat
 depth:Nat
 n0:Int
 n1:Int
 n2:Int
def Oi (s:Sgt):List Value:=[.int .u8 s.kind,.int .i8 s.px,.int .i8 s.py,.int .u8 s.u0,.int .u8 s.u1,.int .u8 s.depth,.int .i8 s.n0,.int .i8 s.n1,.int .i8 s.n2]
structure SgtR (s:Sgt):Prop where
 kind:s.kind<256
 px:-128<=s.px/\s.px<=127
 py:-128<=s.py/\s.py<=127
 u0:s.u0<256
 u1:s.u1<256
 depth:s.depth<256
 n0:-128<=s.n0/\s.n0<=127
 n1:-128<=s.n1/\s.n1<=127
 n2:-128<=s.n2/\s.n2<=127
structure Sht where
 kd:Nat
 a:Int
 b:Int
 h:Bool
def M5 (S:Sht)(H:Hts)(sv:Value):List Value:=[.int .u8 S.kd,.int .i8 S.a,.int .i8 S.b,.bool S.h,.int .i8 H.h0,.int .i8 H.h1,.int .i8 H.h2,.int .i8 H.h3,.int .i8 H.h4,.int .i8 H.h5,.bool H.half,sv]
def rE (i:Nat):Str:=[UInt8.ofNat (65+i)]
def lP (S:Sht)(s:Sgt):Pt :=
 if jU (cA (S.kd % 8) S.a S.b S.h) (shT (S.kd % 8)) (dH S.a S.b S.h s.px s.py 2)≠[] then dH S.a S.b S.h s.px s.py 2
 else (cA (S.kd % 8) S.a S.b S.h).getD (s.depth % (cA (S.kd % 8) S.a S.b S.h).length) (0,0)
def fj (z:Int):Int:=if z.tmod 5=0 then 1 else z.tmod 5
def loU (s:Sgt):Nat:=if s.u0 % 3=s.u1 % 3 then 0 else s.u0 % 3
def upU (s:Sgt):Nat:=if s.u0 % 3=s.u1 % 3 then 1+s.u1 % 3 % 2 else s.u1 % 3
def fL (S:Sht)(s:Sgt)(i:Nat):Obs :=
 if s.kind % 3=0 then ⟨1,[111,UInt8.ofNat (49+i)],qtx (lP S s).1,qtx (lP S s).2,[],rE (s.u1 % 3),[],[],[],[]⟩
 else if s.kind % 3=1 then ⟨2,[111,UInt8.ofNat (49+i)],qtx (lP S s).1,qtx (lP S s).2,qtx (ld (s.depth % 12:Nat) 2),rE (max (loU s) (upU s)),rE (min (loU s) (upU s)),[],[],[]⟩
 else ⟨3,[111,UInt8.ofNat (49+i)],qtx (lP S s).1,qtx (lP S s).2,[],rE (max (loU s) (upU s)),rE (min (loU s) (upU s)),qtx ((s.n0.tmod 5:Int):Rat),qtx ((s.n1.tmod 5:Int):Rat),qtx ((fj s.n2:Int):Rat)⟩
theorem wrap_u8 (a:0<=n)(b:n<256):IntKind.u8.wrap n=n:=by
 simp only [IntKind.wrap,IntKind.bits,IntKind.signed];simp;omega
theorem nn (i:Nat)(a:i<6):([[.int .u8 111],[.int .u8 (49+(i:Int))]]:List (List Value))=(([111,UInt8.ofNat (49+i)]:Str).map fun b=>[.int .u8 b.toNat]):=by
 rcases (by omega:i=0∨i=1∨i=2∨i=3∨i=4∨i=5) with rfl | rfl | rfl | rfl | rfl | rfl <;> rfl
theorem Ck (j:Nat)(a:j<3):(([af [65],af [66],af [67]]:List Value).drop j).take 1=[af (rE j)]:=by
 rcases (by omega:j=0∨j=1∨j=2) with rfl | rfl | rfl <;> rfl
theorem yT:∀ m:Nat,0<(shP m).length
 | 0=>by decide
 | 1=>by decide
 | 2=>by decide
 | 3=>by decide
 | 4=>by decide
 | 5=>by decide
 | 6=>by decide
 | _+7=>by
  show 0<([(0,0),(6,0),(0,6),(2,2)]:List (Int × Int)).length;decide
theorem nX (a:Int):-5<a.tmod 5/\a.tmod 5<5:=by
 have h:(a.tmod 5).natAbs=a.natAbs % 5:=Ti a 5;omega
theorem Nr (s:Sgt):loU s<=2:=by unfold loU;split <;> omega
theorem Mj (s:Sgt):upU s<=2:=by unfold upU;split <;> omega
theorem FT {p:Pt}(h:QP 1 p):QP 23 p/\PtR p:=⟨⟨h.1.le dc_,h.2.le dc_⟩,bi (h.1.le dc_),bi (h.2.le dc_)⟩
theorem rB (C:Mem)(r:Tabs C)(S:Sht)(s:Sgt)(H:Hts)(sv:Value)(i:Nat)(U:i<6)(hk:S.kd<256)(q:SgtR s)(hG:Good (cA (S.kd % 8) S.a S.b S.h) (shT (S.kd % 8))) :
  Pur cx.P 58 [.agg ⟨M5 S H sv⟩,.agg ⟨Oi s⟩,.int .i64 i] C fun u _D=>u=.agg ⟨rI (fL S s i)⟩:=by
 have aE:=q.kind;have aG:=q.u0;have aH:=q.u1;have aI:=q.depth;have aK:=nX s.n0;have aL:=nX s.n1;have aM:=nX s.n2;have an:=Nr s;have ao:=Mj s;have ap:QP 1 (dH S.a S.b S.h s.px s.py 2):=BO dc_ dc_ q.px q.py;obtain ⟨aq,au⟩:=FT ap;obtain ⟨lo,v⟩:∃ n,loU s=n:=⟨_,rfl⟩;obtain ⟨up,w⟩:∃ n,upU s=n:=⟨_,rfl⟩;obtain ⟨p,x⟩:∃ p,lP S s=p:=⟨_,rfl⟩;obtain ⟨t,E⟩:∃ z,fj s.n2=z:=⟨_,rfl⟩;have aN:-5<t/\t<5:=by rw [<- E];unfold fj;split <;> omega
 rw [v] at an;rw [w] at ao;have ai:0<(cA (S.kd % 8) S.a S.b S.h).length:=by rw [cA,ar];exact yT _
 have aO:=hU (S.kd % 8) S.a S.b S.h;refine Ur func58 129 U3 fun w0=>Ul fun R d=>UC U6 fun b3=>UC U6 fun y=>UB U5 fun g=>Un [2,3,4,6] d Z<|G.freeze 2 Z fun _ _ ak=>G.freeze 1 Z fun _ _ k=>Ui 1 Z fun R d=>Uj (bkT ak 4) U8<|UR (xq _ r.m_ S.kd S.a S.b S.h hk) U7 (fun aP _ _ V=>?_);obtain ⟨v1,v2,rfl,W,av⟩:=id V.ex;obtain ⟨A1,c1,rfl,aw,aQ,_⟩:=id W;obtain ⟨A2,c2,rfl,_,_,_⟩:=id av;simp only [ar] at W aw V ⊢;refine UB U5 fun b7=>Us (j:=0) U12<|Un [2,3,4,6,7] d Z<|G.freeze 0 Z fun _ _ X=>G.cut (fun fr F l m=>∃ (f:Nat),(True)/\fr=[(4,[],.pointer (some ⟨y,0,none⟩)),(6,[],.pointer (some ⟨g,0,none⟩)),(7,[],.pointer (some ⟨b7,0,none⟩)),(8,[],.pointer (some ⟨f,0,none⟩))]/\l=[.obj f (.cells ⟨[.int .i64 (1+((s.kind % 3:Nat):Int)),af [111,UInt8.ofNat (49+i)],af (qtx (dH S.a S.b S.h s.px s.py 2).1),af (qtx (dH S.a S.b S.h s.px s.py 2).2),af [],af [],af [],af [],af [],af []]⟩ 126 (0,0)),.obj g (.cells ⟨[.int .i64 0,af [],af [],af [],af [],af [],af [],af [],af [],af []]⟩ 126 (0,0))]) ?_ (fun fr aR aS m aT o=>?_)
 ·refine Vd (.cut [0,1,2,3,4,5,6,7,10,11,12,13,14] (.alt 8 (.cut [] (.alt 9 (.fin [15,16,17]) (.alt 16 (.fin [9,15,17]) .stop))) (.alt 16 (.fin [8,9,15,17]) .stop))) [(14,1),(3,0),(6,0)] Z Z kr_ fun R I d J=>Uk U6<|Uj (bkT k 1) U8<|Vc (s.kind) (3) U6 om_ U2<|Vm (c:=((s.kind % 3:Nat):Int)) U8 (wrap_i64 om_ om_) U2<|Uq _ Z U6<|Uk U6<|Vm (c:=(i:Int)) U8 (wrap_u8 om_ om_) U2<|D.int ((49+(i:Int))) U4 (wrap_u8 om_ om_) U2<|Uk U6<|Uj (bkT ak 4) U8<|Uk U6<|Uj (bkT k 2) U8<|UG (fun _=>(BQ _ r.m_ S.kd S.a S.b S.h s.px s.py 2 dc_ dc_ q.px q.py)) U9<|UT J Z ⟨?_, ?_,trivial⟩
  ·refine UF [[.int .u8 111],[.int .u8 (49+(i:Int))]] U12 fun ax ay _ K=>UT J Z ⟨?_, ?_,trivial⟩
   ·exact VG (show Sl _ 1 _ (([111,UInt8.ofNat (49+i)]:Str).map fun b=>[.int .u8 b.toNat]) from by rw [<- nn i U];exact K.mono mup) U11 fl_<|UA [.int .i64 (1+((s.kind % 3:Nat):Int)),af [111,UInt8.ofNat (49+i)],af (qtx (dH S.a S.b S.h s.px s.py 2).1),af (qtx (dH S.a S.b S.h s.px s.py 2).2),af [],af [],af [],af [],af [],af []] U8<|UB U5 fun f=>Us (j:=0) U12<|Un [4,6,7,8] d Z<|Ux 0 mup (hn_ [4,6,7,8] Z) ⟨f,trivial,Z,Z⟩
   exact UB U5 fun f=>VG (show Sl _ 1 _ (([111,UInt8.ofNat (49+i)]:Str).map fun b=>[.int .u8 b.toNat]) from by rw [<- nn i U];exact K.mono mup) U11 fl_<|UA [.int .i64 (1+((s.kind % 3:Nat):Int)),af [111,UInt8.ofNat (49+i)],af (qtx (dH S.a S.b S.h s.px s.py 2).1),af (qtx (dH S.a S.b S.h s.px s.py 2).2),af [],af [],af [],af [],af [],af []] U8<|Us (j:=0) U12<|Un [4,6,7,8] d Z<|Ux 0 mup (hn_ [4,6,7,8] Z) ⟨f,trivial,Z,Z⟩
  exact UB U5 fun f=>UF [[.int .u8 111],[.int .u8 (49+(i:Int))]] U12 fun ax ay _ K=>VG (show Sl _ 1 _ (([111,UInt8.ofNat (49+i)]:Str).map fun b=>[.int .u8 b.toNat]) from by rw [<- nn i U];exact K.mono mup) U11 fl_<|UA [.int .i64 (1+((s.kind % 3:Nat):Int)),af [111,UInt8.ofNat (49+i)],af (qtx (dH S.a S.b S.h s.px s.py 2).1),af (qtx (dH S.a S.b S.h s.px s.py 2).2),af [],af [],af [],af [],af [],af []] U8<|Us (j:=0) U12<|Un [4,6,7,8] d Z<|Ux 0 mup (hn_ [4,6,7,8] Z) ⟨f,trivial,Z,Z⟩
 obtain ⟨f,_,rfl,rfl⟩:=o;refine Ul fun R d=>Uj (bkT X 2) U8<|Uk U6<|Uo ag U9<|Ut (qR _ r.m_ _ _ _ (dH S.a S.b S.h s.px s.py 2) V.m_ hG aq au) U7<|C6 5 [4,6,7,8,9] d Z<|Uh 2 [4,6,7,8,42] Z<|G.cut (fun fr F l m=>(True)/\fr=[(4,[],.pointer (some ⟨y,0,none⟩)),(6,[],.pointer (some ⟨g,0,none⟩)),(8,[],.pointer (some ⟨f,0,none⟩))]/\l=[.obj f (.cells ⟨[.int .i64 (1+((s.kind % 3:Nat):Int)),af [111,UInt8.ofNat (49+i)],af (qtx p.1),af (qtx p.2),af [],af [],af [],af [],af [],af []]⟩ 126 (0,0)),.obj g (.cells ⟨[.int .i64 0,af [],af [],af [],af [],af [],af [],af [],af [],af []]⟩ 126 (0,0))]) ?_ (fun fr _ aU m _ o=>?_)
 ·refine G.cd (fun Y=>?_) fun Y=>?_
  ·have az:jU (cA (S.kd % 8) S.a S.b S.h) (shT (S.kd % 8)) (dH S.a S.b S.h s.px s.py 2)=[]:=by simpa using Y
   have al:s.depth % (cA (S.kd % 8) S.a S.b S.h).length<(cA (S.kd % 8) S.a S.b S.h).length:=Rj _ ai;have aa:p=(cA (S.kd % 8) S.a S.b S.h)[s.depth % (cA (S.kd % 8) S.a S.b S.h).length]:=by
    rw [<- x,lP,aF (by rw [az];simp),am,aj al,RT]
   have hp:(cA (S.kd % 8) S.a S.b S.h)[s.depth % (cA (S.kd % 8) S.a S.b S.h).length]?=some p:=by rw [aa];exact aj al
   refine UD [0,1,2,3,4,5,6,7,8,9,10,11,12] [(4,0)] Z kr_ fun R I d=>Uk U6<|Uj (bkT X 1) U8<|Uk U6<|Uj (bkT k 1) U8<|Vm (c:=(s.depth:Int)) U8 (wrap_i64 om_ om_) U2<|Uk U6<|Uj (bkT X 1) U8<|Uk U6<|Vc (s.depth) ((cA (S.kd % 8) S.a S.b S.h).length) U6 ai U2<|Uy W.m_ U10 om_ (cq hp) fl_ fun aV aA=>Uj aA U8<|Uk U6<|Us (j:=0) U12<|Un [4,6,8] d Z<|Ux 0 (Mem.le.refl _) (hn_ [4,6,8] Z) ⟨trivial,Z,Z⟩
  have aB:jU (cA (S.kd % 8) S.a S.b S.h) (shT (S.kd % 8)) (dH S.a S.b S.h s.px s.py 2)≠[]:=by simpa using Y
  have aa:p=dH S.a S.b S.h s.px s.py 2:=by rw [<- x,lP,aJ aB]
  subst aa;refine Ux 0 (Mem.le.refl _) (hn_ [4,6,8] Z) ⟨trivial,Z,Z⟩
 obtain ⟨_,rfl,rfl⟩:=o;refine Ul fun R d=>UA ([af [65],af [66],af [67]]) U8<|UB U5 fun aC=>Us (j:=0) U12<|Un [4,6,8,11] d Z<|G.freeze 0 Z fun _ _ L=>UD [0,1,2,3,4,5,6,7,8,9,10,11] [(4,0),(9,0)] Z kr_ fun R I d=>Uk U6<|UE (3) U9 ah U2<|Uj (bkT k 1) U8<|Vc (s.u0) (3) U6 om_ U2<|Vm (c:=((s.u0 % 3:Nat):Int)) U8 (wrap_i64 om_ om_) U2<|Uk U6<|UE (4) U9 ah U2<|Uj (bkT k 1) U8<|Vc (s.u1) (3) U6 om_ U2<|Vm (c:=((s.u1 % 3:Nat):Int)) U8 (wrap_i64 om_ om_) U2<|C6 2 [4,6,8,11,12,13] d Z<|Ui 1 Z fun R d=>Uo ag U9<|C6 1 [4,6,8,11,12,13,68] d Z<|G.cd (fun M=>?_) fun M=>?_
 ·have A:s.kind % 3=0:=by
   have:=dU M;omega
  refine Ui 1 Z fun R d=>UE ((s.u1 % 3)) U9 (fun _=>⟨by omega,by omega,(by show s.u1 % 3=0+(s.u1 % 3)*1;omega)⟩) U2<|Vw (PtrTo.blockT (Mem.get L mup) (s.u1 % 3) 1) U6 (show cI _ ((([af [65],af [66],af [67]]:List Value).drop (s.u1 % 3)).take 1)=some (af (rE (s.u1 % 3))) from by rw [Ck _ om_];rfl) Z<|Uk U6<|Us (j:=0) U12<|Un [6,8] d Z<|Ul fun R d=>Uo ag U9<|Us (j:=1) U12<|Un [6] d Z<|Uv (Va ag U4 ?_);exact ⟨Z,by unfold fL;rw [aJ A,x,A];rfl⟩
 have A:¬ s.kind % 3=0:=by
  intro e;rw [e] at M;exact absurd M dc_
 refine Uh 3 [4,6,8,11,12,13,76] Z<|G.cut (fun fr F l m=>(True)/\fr=[(4,[],.pointer (some ⟨y,0,none⟩)),(6,[],.pointer (some ⟨g,0,none⟩)),(8,[],.pointer (some ⟨f,0,none⟩)),(11,[],.pointer (some ⟨aC,0,none⟩)),(12,[],.int .i64 (lo:Nat)),(13,[],.int .i64 (up:Nat))]/\l=[.obj f (.cells ⟨[.int .i64 (1+((s.kind % 3:Nat):Int)),af [111,UInt8.ofNat (49+i)],af (qtx p.1),af (qtx p.2),af [],af [],af [],af [],af [],af []]⟩ 126 (0,0)),.obj g (.cells ⟨[.int .i64 0,af [],af [],af [],af [],af [],af [],af [],af [],af []]⟩ 126 (0,0))]) ?_ (fun fr _ aW m _ o=>?_)
 ·refine G.cd (fun N=>?_) fun N=>?_
  ·have B:s.u0 % 3=s.u1 % 3:=by
    have:=dU N;omega
   have ab:lo=0:=by rw [<- v,loU,aJ B]
   have ac:up=1+s.u1 % 3 % 2:=by rw [<- w,upU,aJ B]
   subst ab;subst ac;refine Ui 1 Z fun R d=>Vc ((s.u1 % 3)) (2) U6 om_ U2<|Uq _ Z U6<|C6 2 [4,6,8,11,12,13] d Z<|Ux 0 (Mem.le.refl _) (hn_ [4,6,8,11,12,13] Z) ⟨trivial,Z,Z⟩
  have B:¬ s.u0 % 3=s.u1 % 3:=by
   intro e;rw [e,beq_self_eq_true] at N;exact absurd N dc_
  have ab:lo=s.u0 % 3:=by rw [<- v,loU,aF B]
  have ac:up=s.u1 % 3:=by rw [<- w,upU,aF B]
  subst ab;subst ac;refine Ux 0 (Mem.le.refl _) (hn_ [4,6,8,11,12,13] Z) ⟨trivial,Z,Z⟩
 obtain ⟨_,rfl,rfl⟩:=o;refine G.cut (fun fr F l m=>(True)/\fr=[(4,[],.pointer (some ⟨y,0,none⟩)),(6,[],.pointer (some ⟨g,0,none⟩)),(8,[],.pointer (some ⟨f,0,none⟩))]/\l=[.obj f (.cells ⟨[.int .i64 (1+((s.kind % 3:Nat):Int)),af [111,UInt8.ofNat (49+i)],af (qtx p.1),af (qtx p.2),af [],af (rE (max lo up)),af (rE (min lo up)),af [],af [],af []]⟩ 126 (0,0)),.obj g (.cells ⟨[.int .i64 0,af [],af [],af [],af [],af [],af [],af [],af [],af []]⟩ 126 (0,0))]) ?_ (fun fr aX aY m aZ o=>?_)
 ·refine Vd (.cut [0,1,2,3,4,5,6,7,8,10] (.alt 9 (.fin [11,12,13]) (.alt 11 (.fin [9,12,13]) .stop))) [] Z Z kr_ fun R I d J=>Um 2 Z<|D.max (((max lo up:Nat):Int)) U6 om_ U2<|UE ((max lo up)) U9 (fun _=>⟨by omega,by omega,(by show max lo up=0+(max lo up)*1;omega)⟩) U2<|Vw (PtrTo.blockT (Mem.get L mup) (max lo up) 1) U6 (show cI _ ((([af [65],af [66],af [67]]:List Value).drop (max lo up)).take 1)=some (af (rE (max lo up))) from by rw [Ck _ om_];rfl) Z<|Um 2 Z<|D.min (((min lo up:Nat):Int)) U6 om_ U2<|UE ((min lo up)) U9 (fun _=>⟨by omega,by omega,(by show min lo up=0+(min lo up)*1;omega)⟩) U2<|Uk U6<|UT J Z ⟨?_, ?_,trivial⟩
  ·exact Vw (PtrTo.blockT (Mem.get L mup) (min lo up) 1) U6 (show cI _ ((([af [65],af [66],af [67]]:List Value).drop (min lo up)).take 1)=some (af (rE (min lo up))) from by rw [Ck _ om_];rfl) Z<|Us (j:=0) U12<|Uk U6<|Us (j:=0) U12<|Un [4,6,8] d Z<|Ux 0 mup (hn_ [4,6,8] Z) ⟨trivial,Z,Z⟩
  exact Us (j:=0) U12<|Vw (PtrTo.blockT (Mem.get L mup) (min lo up) 1) U6 (show cI _ ((([af [65],af [66],af [67]]:List Value).drop (min lo up)).take 1)=some (af (rE (min lo up))) from by rw [Ck _ om_];rfl) Z<|Uk U6<|Us (j:=0) U12<|Un [4,6,8] d Z<|Ux 0 mup (hn_ [4,6,8] Z) ⟨trivial,Z,Z⟩
 obtain ⟨_,rfl,rfl⟩:=o;refine Ui 1 Z fun R d=>Uo ag U9<|C6 1 [4,6,8,94] d Z<|G.cd (fun O=>?_) fun O=>?_
 ·have Q:s.kind % 3=1:=by
   have:=dU O;omega
  refine Ui 1 Z fun R d=>Uj (bkT k 1) U8<|Vc (s.depth) (12) U6 om_ U2<|UU (c:=((s.depth % 12:Nat):Int)) U8 (wrap_i64 om_ om_) fl_<|Uu (FL _ r.m_ ((s.depth % 12:Nat):Int) 2 om_ om_ om_) U7 fl_<|Um 4 Z<|Us (j:=0) U12<|Un [6,8] d Z<|Ul fun R d=>Uo ag U9<|Us (j:=1) U12<|Un [6] d Z<|Uv (Va ag U4 ?_);exact ⟨Z,by unfold fL;rw [aF A,aJ Q,x,v,w,Q];rfl⟩
 have Q:¬ s.kind % 3=1:=by
  intro e;rw [e] at O;exact absurd O dc_
 have aD:s.kind % 3=2:=by omega
 refine Ui 1 Z fun R d=>UE (8) U9 ah U2<|Uj (bkT k 1) U8<|Vo (s.n2.tmod 5) U6 dc_ U3<|UU (c:=(s.n2.tmod 5)) U8 (wrap_i64 om_ om_) fl_<|C6 1 [4,6,8,14] d Z<|Uh 2 [4,6,8,14,111] Z<|G.cut (fun fr F l m=>(True)/\fr=[(4,[],.pointer (some ⟨y,0,none⟩)),(6,[],.pointer (some ⟨g,0,none⟩)),(8,[],.pointer (some ⟨f,0,none⟩)),(14,[],.int .i64 t)]/\l=[.obj f (.cells ⟨[.int .i64 (1+((s.kind % 3:Nat):Int)),af [111,UInt8.ofNat (49+i)],af (qtx p.1),af (qtx p.2),af [],af (rE (max lo up)),af (rE (min lo up)),af [],af [],af []]⟩ 126 (0,0)),.obj g (.cells ⟨[.int .i64 0,af [],af [],af [],af [],af [],af [],af [],af [],af []]⟩ 126 (0,0))]) ?_ (fun fr _ a0 m _ o=>?_)
 ·refine G.cd (fun T=>?_) fun T=>?_
  ·have ad:s.n2.tmod 5=0:=dU T;have ae:t=1:=by rw [<- E,fj,aJ ad]
   subst ae;refine Uh 1 [4,6,8,14] Z<|Ux 0 (Mem.le.refl _) (hn_ [4,6,8,14] Z) ⟨trivial,Z,Z⟩
  have ad:¬ s.n2.tmod 5=0:=by
   intro e;rw [e] at T;exact absurd T dc_
  have ae:t=s.n2.tmod 5:=by rw [<- E,fj,aF ad]
  subst ae;refine Ux 0 (Mem.le.refl _) (hn_ [4,6,8,14] Z) ⟨trivial,Z,Z⟩
 obtain ⟨_,rfl,rfl⟩:=o;refine UD [0,1,2,3,4,5,6,7,8,9,10,11,12,13,14,15,16] [(5,1),(11,1),(13,1),(4,0),(10,0)] Z kr_ fun R I d=>Uk U6<|UE (6) U9 ah U2<|Uj (bkT k 1) U8<|Vo (s.n0.tmod 5) U6 dc_ U3<|Vm (c:=(s.n0.tmod 5)) U8 (wrap_i64 om_ om_) U2<|UG (fun _=>(tP _ r.m_ (s.n0.tmod 5) om_)) U9<|Uk U6<|UE (7) U9 ah U2<|Uj (bkT k 1) U8<|Vo (s.n1.tmod 5) U6 dc_ U3<|Vm (c:=(s.n1.tmod 5)) U8 (wrap_i64 om_ om_) U2<|UG (fun _=>(tP _ r.m_ (s.n1.tmod 5) om_)) U9<|Uk U6<|UG (fun _=>(tP _ r.m_ t om_)) U9<|UA [af (qtx ((s.n0.tmod 5:Int):Rat)),af (qtx ((s.n1.tmod 5:Int):Rat)),af (qtx ((t:Int):Rat))] U8<|Uk U6<|Us (j:=0) U12<|Un [6,8] d Z<|Ul fun R d=>Uo ag U9<|Us (j:=1) U12<|Un [6] d Z<|Uv (Va ag U4 ?_);exact ⟨Z,by unfold fL;rw [aF A,aF Q,x,v,w,E,aD];rfl⟩
def xn:Sgt:=⟨0,0,0,0,0,0,0,0,0⟩
def colK:List Lay:=[⟨[65],0,none⟩,⟨[66],0,some 5⟩,⟨[67],1,none⟩]
theorem Js:qtx 5=[53]:=by
 show qtx ((5:Int):Rat)=_;rw [nj];decide +kernel
theorem KG:colK.map xY=[[af [65],af [48],af []],[af [66],af [48],af [53]],[af [67],af [49],af []]]:=by
 simp only [colK,List.map,xY,vM,qtx_zero,dF,Js]
def rC (S:Sht)(l:List Sgt):List Obs:=(List.range (min l.length 6)).map fun i=>fL S (l.getD i xn) i
def dW (S:Sht)(H:Hts)(l:List Sgt):Bk:=⟨cA (S.kd % 8) S.a S.b S.h,shT (S.kd % 8),(fsK (cA (S.kd % 8) S.a S.b S.h).length H).map qtx,colK,rC S l⟩
theorem jP (S:Sht)(l:List Sgt):(rC S l).length=min l.length 6:=by simp [rC]
theorem Gp (S:Sht){l:List Sgt}{s:Sgt}(h:l[i]?=some s)(a:i<6):(rC S l)[i]?=some (fL S s i):=by
 have h1:=(aL.1 h).1;rw [rC,QD,Rc om_];show some (fL S (l.getD i xn) i)=_;rw [am,h];rfl
theorem GF (C:Mem)(q:Tabs C)(S:Sht)(H:Hts)(V:Value)(l:List Sgt)(W:S.kd<256)(A:PY H)(L:Sl C 9 V (l.map Oi))(hs:∀ s∈l,SgtR s)(hG:Good (cA (S.kd % 8) S.a S.b S.h) (shT (S.kd % 8))) :
  Pur cx.P 12 [.agg ⟨M5 S H V⟩] C fun u D=>BookIn D u (dW S H l):=by
 obtain ⟨As,cs,rfl,ai,av,_⟩:=id L;have aw:maxLen<=9223372036854775807:=by simp [maxLen]
 simp only [ar] at L ai ⊢;have ay:=hU (S.kd % 8) S.a S.b S.h;refine Ur func12 44 U3 fun w0=>Ul fun R f=>UC U6 fun X=>UB U5 fun v=>Un [1,2] f Z<|G.freeze 1 Z fun _ _ B=>Ui 1 Z fun R f=>Uj (bkT B 4) U8<|UR (xq _ q.m_ S.kd S.a S.b S.h W) U7 (fun v8 _ _ Y=>?_);obtain ⟨v1,v2,rfl,M,N⟩:=id Y.ex;obtain ⟨k,n,rfl,ak,az,_⟩:=id M;obtain ⟨A2,c2,rfl,_,_,_⟩:=id N;simp only [ar] at M N ak Y ⊢;refine UB U5 fun b3=>Us (j:=0) U12<|Un [1,2,3] f Z<|G.freeze 0 Z fun _ _ aa=>G.cut (fun fr O E Q=>∃ (c:Option Addr)(d:Nat)(x:Value)(g:Nat),(Sl O 1 (.slice c (fsK (cA (S.kd % 8) S.a S.b S.h).length H).length d) ((fsK (cA (S.kd % 8) S.a S.b S.h).length H).map eM)/\Sl O 3 x [[af [65],af [48],af []],[af [66],af [48],af [53]],[af [67],af [49],af []]])/\fr=[(1,[],.pointer (some ⟨X,0,none⟩)),(2,[],.pointer (some ⟨v,0,none⟩)),(4,[],.pointer (some ⟨g,0,none⟩))]/\E=[.obj g (.cells ⟨[.slice k (cA (S.kd % 8) S.a S.b S.h).length n,.slice A2 (shT (S.kd % 8)).length c2,.slice c (fsK (cA (S.kd % 8) S.a S.b S.h).length H).length d,x,.slice none 0 0]⟩ 45 (0,0)),.obj v (.cells ⟨[.slice none 0 0,.slice none 0 0,.slice none 0 0,.slice none 0 0,.slice none 0 0]⟩ 45 (0,0))]) ?_ (fun fr aA aB Q aC T=>?_)
 ·refine Vd (.cut [0,1,2,3,5,6,7] (.alt 4 (.cut [] (.alt 8 (.fin [9,10,11]) (.alt 10 (.fin [8,9,11]) .stop))) (.alt 8 (.cut [] (.alt 4 (.fin [9,10,11]) (.alt 10 (.fin [4,9,11]) .stop))) (.alt 10 (.cut [] (.alt 4 (.fin [8,9,11]) (.alt 8 (.fin [4,9,11]) .stop))) .stop)))) [] Z Z kr_ fun R hB f F=>Uj (bkT aa 2) U8<|Uj (bkT aa 2) U8<|Uk U6<|Uj (bkT B 7) U8<|UA ([af [65],af [48],af []]) U8<|UA ([af [66],af [48],af [53]]) U8<|UA ([af [67],af [49],af []]) U8<|UT F Z ⟨?_, ?_, ?_,trivial⟩
  ·refine UK (jm _ q.m_ _ _ (cA (S.kd % 8) S.a S.b S.h).length k n H Z om_ A) U7 fl_ fun I J _ e=>UT F Z ⟨?_, ?_,trivial⟩
   ·refine Ve [[af [65],af [48],af []],[af [66],af [48],af [53]],[af [67],af [49],af []]] U12 fl_ (fun o K _ p=>?_);obtain ⟨c,d,rfl,_,_,_⟩:=id e;simp only [ar] at e ⊢;exact UA [.slice k (cA (S.kd % 8) S.a S.b S.h).length n,.slice A2 (shT (S.kd % 8)).length c2,.slice c (fsK (cA (S.kd % 8) S.a S.b S.h).length H).length d,.slice (some ⟨o,0,none⟩) 3 3,.slice none 0 0] U8<|UB U5 fun g=>Us (j:=0) U12<|Un [1,2,4] f Z<|Ux 0 mup (hn_ [1,2,4] Z) ⟨c,d,_,g,⟨e.mono mup,p.mono mup⟩,Z,Z⟩
   refine UB U5 fun g=>Ve [[af [65],af [48],af []],[af [66],af [48],af [53]],[af [67],af [49],af []]] U12 fl_ (fun o K _ p=>?_);obtain ⟨c,d,rfl,_,_,_⟩:=id e;simp only [ar] at e ⊢;exact UA [.slice k (cA (S.kd % 8) S.a S.b S.h).length n,.slice A2 (shT (S.kd % 8)).length c2,.slice c (fsK (cA (S.kd % 8) S.a S.b S.h).length H).length d,.slice (some ⟨o,0,none⟩) 3 3,.slice none 0 0] U8<|Us (j:=0) U12<|Un [1,2,4] f Z<|Ux 0 mup (hn_ [1,2,4] Z) ⟨c,d,_,g,⟨e.mono mup,p.mono mup⟩,Z,Z⟩
  ·refine Ve [[af [65],af [48],af []],[af [66],af [48],af [53]],[af [67],af [49],af []]] U12 fl_ fun o K _ p=>UT F Z ⟨?_, ?_,trivial⟩
   ·refine UK (jm _ q.m_ _ _ (cA (S.kd % 8) S.a S.b S.h).length k n H Z om_ A) U7 fl_ (fun I J _ e=>?_);obtain ⟨c,d,rfl,_,_,_⟩:=id e;simp only [ar] at e ⊢;exact UA [.slice k (cA (S.kd % 8) S.a S.b S.h).length n,.slice A2 (shT (S.kd % 8)).length c2,.slice c (fsK (cA (S.kd % 8) S.a S.b S.h).length H).length d,.slice (some ⟨o,0,none⟩) 3 3,.slice none 0 0] U8<|UB U5 fun g=>Us (j:=0) U12<|Un [1,2,4] f Z<|Ux 0 mup (hn_ [1,2,4] Z) ⟨c,d,_,g,⟨e.mono mup,p.mono mup⟩,Z,Z⟩
   refine UB U5 fun g=>UK (jm _ q.m_ _ _ (cA (S.kd % 8) S.a S.b S.h).length k n H Z om_ A) U7 fl_ (fun I J _ e=>?_);obtain ⟨c,d,rfl,_,_,_⟩:=id e;simp only [ar] at e ⊢;exact UA [.slice k (cA (S.kd % 8) S.a S.b S.h).length n,.slice A2 (shT (S.kd % 8)).length c2,.slice c (fsK (cA (S.kd % 8) S.a S.b S.h).length H).length d,.slice (some ⟨o,0,none⟩) 3 3,.slice none 0 0] U8<|Us (j:=0) U12<|Un [1,2,4] f Z<|Ux 0 mup (hn_ [1,2,4] Z) ⟨c,d,_,g,⟨e.mono mup,p.mono mup⟩,Z,Z⟩
  refine UB U5 fun g=>UT F Z ⟨?_, ?_,trivial⟩
  ·refine UK (jm _ q.m_ _ _ (cA (S.kd % 8) S.a S.b S.h).length k n H Z om_ A) U7 fl_ fun I J _ e=>Ve [[af [65],af [48],af []],[af [66],af [48],af [53]],[af [67],af [49],af []]] U12 fl_ (fun o K _ p=>?_);obtain ⟨c,d,rfl,_,_,_⟩:=id e;simp only [ar] at e ⊢;exact UA [.slice k (cA (S.kd % 8) S.a S.b S.h).length n,.slice A2 (shT (S.kd % 8)).length c2,.slice c (fsK (cA (S.kd % 8) S.a S.b S.h).length H).length d,.slice (some ⟨o,0,none⟩) 3 3,.slice none 0 0] U8<|Us (j:=0) U12<|Un [1,2,4] f Z<|Ux 0 mup (hn_ [1,2,4] Z) ⟨c,d,_,g,⟨e.mono mup,p.mono mup⟩,Z,Z⟩
  refine Ve [[af [65],af [48],af []],[af [66],af [48],af [53]],[af [67],af [49],af []]] U12 fl_ fun o K _ p=>UK (jm _ q.m_ _ _ (cA (S.kd % 8) S.a S.b S.h).length k n H Z om_ A) U7 fl_ (fun I J _ e=>?_);obtain ⟨c,d,rfl,_,_,_⟩:=id e;simp only [ar] at e ⊢;exact UA [.slice k (cA (S.kd % 8) S.a S.b S.h).length n,.slice A2 (shT (S.kd % 8)).length c2,.slice c (fsK (cA (S.kd % 8) S.a S.b S.h).length H).length d,.slice (some ⟨o,0,none⟩) 3 3,.slice none 0 0] U8<|Us (j:=0) U12<|Un [1,2,4] f Z<|Ux 0 mup (hn_ [1,2,4] Z) ⟨c,d,_,g,⟨e.mono mup,p.mono mup⟩,Z,Z⟩
 obtain ⟨c,d,x,g,⟨am,ab⟩,rfl,rfl⟩:=T;refine Uh 1 [1,2,4,5] Z<|G.nilArr 126 10<|G.perm (L':=[.obj g (.cells ⟨[.slice k (cA (S.kd % 8) S.a S.b S.h).length n,.slice A2 (shT (S.kd % 8)).length c2,.slice c (fsK (cA (S.kd % 8) S.a S.b S.h).length H).length d,x,.slice none 0 0]⟩ 45 (0,0)),.arr (.slice none 0 0) 126 10 0 [],.obj v (.cells ⟨[.slice none 0 0,.slice none 0 0,.slice none 0 0,.slice none 0 0,.slice none 0 0]⟩ 45 (0,0))]) (List.Perm.swap _ _ _)<|G.loop (fun fr O E Q=>∃ (i:Nat)(w:Value),(i<=l.length/\i<=6)/\fr=[(1,[],.pointer (some ⟨X,0,none⟩)),(2,[],.pointer (some ⟨v,0,none⟩)),(4,[],.pointer (some ⟨g,0,none⟩)),(5,[],.int .i64 i)]/\E=[.obj g (.cells ⟨[.slice k (cA (S.kd % 8) S.a S.b S.h).length n,.slice A2 (shT (S.kd % 8)).length c2,.slice c (fsK (cA (S.kd % 8) S.a S.b S.h).length H).length d,x,w]⟩ 45 (0,0)),.arr w 126 10 ((rC S l).take i).length (((rC S l).take i).map rI).flatten,.obj v (.cells ⟨[.slice none 0 0,.slice none 0 0,.slice none 0 0,.slice none 0 0,.slice none 0 0]⟩ 45 (0,0))]/\Q=6-i) (hn_ [1,2,4,5] Z) ⟨0,.slice none 0 0,⟨QH _,QH _⟩,Z,Z,Z⟩ (fun fr aD aE m _ T=>?_);obtain ⟨i,w,⟨hi,aF⟩,rfl,rfl,rfl⟩:=T;refine Ui 2 Z fun R f=>Uj (bkT B 1) U8<|Um 5 Z<|UJ U8<|Un [1,2,4,5,27] f Z<|G.cd (fun t=>?_) fun t=>?_
 ·have z:i<l.length/\i<6:=by
   by_cases h1:((i:Nat):Int)<(l.length:Nat)
   ·rw [QV h1] at t;have h2:=PZ t;omega
   rw [Q6 h1] at t;exact absurd t al
  obtain ⟨s,U⟩:∃ s,l[i]?=some s:=⟨l[i]'z.1,aj z.1⟩;have an:(rC S l).take (i+1)=(rC S l).take i++[fL S s i]:=by rw [Q4,Gp S U z.2];rfl
  have aG:((rC S l).take i).length<=6:=by rw [QO,jP];omega
  refine UD [0,1,2,3,4,5,6,7,8,9,10,11,12,13] [] Z kr_ fun R hB f=>Uk U6<|Uo ag U9<|Uj (bkT B 12) U8<|Uk U6<|Uj (bkT B 1) U8<|Uk U6<|Uy L.m_ U10 om_ (cq U) fl_ fun aH ao=>Uj ao U8<|Uk U6<|UR (rB _ q.m_ S s H _ i z.2 W (hs s (aX U)) hG) U7 (fun aI _ _ ap=>?_);subst ap;refine UF [rI (fL S s i)] U12 fun aJ _ _ aq=>UP (j:=1) U11 aq.m_ Z ax (by simp only [QA];omega) fl_ fun ac ad ae=>Uk U6<|Us (j:=1) U12<|Un [1,2,4,5] f Z<|Ui 1 Z fun R f=>Uq _ Z U6<|C6 1 [1,2,4,5] f Z<|Uz (L':=[.obj g (.cells ⟨[.slice k (cA (S.kd % 8) S.a S.b S.h).length n,.slice A2 (shT (S.kd % 8)).length c2,.slice c (fsK (cA (S.kd % 8) S.a S.b S.h).length H).length d,x,.slice ac ad ae]⟩ 45 (0,0)),.arr (.slice ac ad ae) 126 10 ((rC S l).take (i+1)).length (((rC S l).take (i+1)).map rI).flatten,.obj v (.cells ⟨[.slice none 0 0,.slice none 0 0,.slice none 0 0,.slice none 0 0,.slice none 0 0]⟩ 45 (0,0))]) (by rw [an,Rh,Ro,QG];rfl)<|Uw (m':=6-(i+1)) om_ mup (hn_ [1,2,4,5] Z) ⟨i+1,_,⟨by omega,by omega⟩,Z,Z,Z⟩
 have z:i=min l.length 6:=by
  by_cases h1:((i:Nat):Int)<(l.length:Nat)
  ·rw [QV h1] at t;have h2:=QF t;omega
  omega
 have au:(rC S l).take i=rC S l:=Rf (by rw [z,jP];exact Qz _);rw [au];refine G.freezeArr 1 ((rC S l).map rI) rfl rfl (by intro r hr;obtain ⟨y,_,rfl⟩:=QE.1 hr;rfl) (by rw [ar]) (fun Cg hg ah=>?_);obtain ⟨Aw,cw,rfl,_⟩:=id ah;obtain ⟨Ap,cp,rfl,_⟩:=id ab;refine Ul fun R f=>Uo ag U9<|Us (j:=1) U12<|Un [2] f Z<|Uv (Va ag U4 ?_);exact ⟨Z,_,_,_,_,_,Z,M.mono mup,N.mono mup,(by rw [dW,<- iv];exact am.mono mup),(by rw [dW,KG];exact ab.mono mup),ah⟩
instance:DecidableEq RowQ:=fun a b=>decidable_of_iff (a.f=b.f/\a.b=b.b) (by cases a;cases b;simp)
instance (k:Nat) (q:Rat):Decidable (QB k q):=by unfold QB;infer_instance
instance (k:Nat) (p:Pt):Decidable (QP k p):=by unfold QP;infer_instance
instance (n:Nat) (t:Tri):Decidable (nD n t):=by unfold nD;infer_instance
theorem gY (h:txt z=s):qtx ((z:Int):Rat)=s:=by rw [nj,h]
theorem MT (q:Rat)(h:qtx q=s)(a:QB 22 q):di s=q:=by rw [<- h];exact cR (bi a)
theorem Mg (a:List Pt)(t:Tri)(p:Pt)(j:Nat):wgt a t p j=wgt a t p (j % 3):=by
 unfold wgt;rw [show (j+1) % 3=(j % 3+1) % 3 by omega,show (j+2) % 3=(j % 3+2) % 3 by omega]
theorem IL (t:Tri)(j:Nat):dw t j=dw t (min j 2):=by
 unfold dw;rcases (by omega:j=0∨j=1∨2<=j) with h | h | h
 ·subst h;rfl
 ·subst h;rfl
 rw [Nat.min_eq_right h,aF om_,aF om_];rfl
theorem q6:qtx 6=[54]:=by decide +kernel
def Jy (m:Nat)(u v:Int)(h:Bool):List Pt:=(shP m).map fun p=>(ld (p.1+u*1) (dV h*1),ld (p.2+v*1) (dV h*1))
theorem Pb (m:Nat)(a b:Int)(h:Bool):cA m a b h=Jy m (a.tmod 8) (b.tmod 8) h:=rfl
def qw (pts:List Pt)(tris:List Tri):Bool :=
 pts.all (fun p=>decide (QP 1 p)) && (decide pts.Nodup && (tris.all (fun t=>decide (nD pts.length t)) && (tris.all (fun t=>decide (0<cj (pts.getD t.1 (0,0)) (pts.getD t.2.1 (0,0)) (pts.getD t.2.2 (0,0)))) && (decide (bO tris).Nodup && (nH pts tris && pts.all fun p=>decide (jU pts tris p≠[]))))))
theorem all0:∀ i<15,∀ j<15,∀ h:Bool,qw (Jy 0 ((i:Nat)-7) ((j:Nat)-7) h) (shT 0)=true:=by decide +kernel
theorem sh1 {n:Str}(a:cY n=true)(b:cY u=true)(c:aW x=true)(d:aW y=true):dZ ⟨1,n,x,y,[],u,[],[],[],[]⟩=0:=by
 unfold dZ;rw [aF al,aF (by simp [kQ,a,b]),aF (by simp [lR,c,d]),aF (by simp [kX])]
theorem sh2 {n d l:Str}(a:cY n=true)(b:cY u=true)(c:cY l=true)(e:aW x=true)(f:aW y=true)(g:aW d=true):dZ ⟨2,n,x,y,d,u,l,[],[],[]⟩=0:=by
 unfold dZ;rw [aF al,aF (by simp [kQ,a,b,c]),aF (by simp [lR,e,f,g]),aF (by simp [kX])]
theorem sh3 {n l a b c:Str}(d:cY n=true)(e:cY u=true)(f:cY l=true)(g:aW x=true)(h:aW y=true)(i:aW a=true)(j:aW b=true)(k:aW c=true):dZ ⟨3,n,x,y,[],u,l,a,b,c⟩=0:=by
 unfold dZ;rw [aF al,aF (by simp [kQ,d,e,f]),aF (by simp [lR,g,h,i,j,k]),aF (by simp [kX])]
theorem qo (j:Nat)(a:j<3):kp (isU (rE j)) colK 0=(j:Int):=by
 rcases (by omega:j=0∨j=1∨j=2) with rfl | rfl | rfl <;> decide +kernel
theorem uM (j:Nat)(a:j<3):cY (rE j)=true:=by
 rcases (by omega:j=0∨j=1∨j=2) with rfl | rfl | rfl <;> decide +kernel
theorem Nj (i:Nat)(a:i<6):cY [111,UInt8.ofNat (49+i)]=true:=by
 rcases (by omega:i=0∨i=1∨i=2∨i=3∨i=4∨i=5) with rfl | rfl | rfl | rfl | rfl | rfl <;> decide +kernel
theorem Pj (c:i<6)(d:j<6)(h:([111,UInt8.ofNat (49+i)]:Str)=[111,UInt8.ofNat (49+j)]):i=j:=by
 have e:∀ a<6,∀ b<6,([111,UInt8.ofNat (49+a)]:Str)=[111,UInt8.ofNat (49+b)]->a=b:=by decide
 exact e i c j d h
theorem JZ (s:Sgt):min (loU s) (upU s)<max (loU s) (upU s):=by
 unfold loU upU;split <;> omega
theorem eh (z:Int)(h:z.natAbs<100):QB 1 ((z:Int):Rat):=by
 refine ⟨?_, ?_⟩
 ·show z.natAbs<B9 ^ 1;have:B9 ^ 1=1000000000:=by decide
  omega
 show 1<B9 ^ 1;decide
theorem uL (z:Int):fj z≠0:=by
 unfold fj;split
 ·decide
 assumption
theorem ow (z:Int):-5<fj z/\fj z<5:=by
 have:=nX z;unfold fj;split <;> omega
theorem ok1 (h:QB 1 q):aW (qtx q)=true:=bi (h.le dc_)
theorem ta (n:Nat):QB 1 (ld ((n % 12:Nat):Int) 2):=qM dc_ om_ dc_
theorem NP (n:Nat):¬ (ld ((n % 12:Nat):Int) 2<0):=by
 have a:∀ k<12,¬ (ld ((k:Nat):Int) 2<0):=by decide +kernel
 exact a _ (Rj _ dc_)
theorem JO (S:Sht)(s:Sgt)(i:Nat)(m:i<6)(j:QP 1 (lP S s))(n:jU (cA (S.kd % 8) S.a S.b S.h) (shT (S.kd % 8)) (lP S s)≠[]) :
  ia (cA (S.kd % 8) S.a S.b S.h) (shT (S.kd % 8)) colK (fL S s i)=0:=by
 have f:=Nj i m;have c:=ok1 j.1;have hy:=ok1 j.2;have q:=JZ s;have r:=Nr s;have t:=Mj s;have g:∀ o:Obs,o.x=qtx (lP S s).1->o.y=qtx (lP S s).2->KD (cA (S.kd % 8) S.a S.b S.h) (shT (S.kd % 8)) o=true:=by
  intro o h1 h2;unfold KD ptO;rw [h1,h2,cR c,cR hy];exact QV n
 have p:=qo (s.u1 % 3) om_;have d:=qo (max (loU s) (upU s)) om_;have e:=qo (min (loU s) (upU s)) om_;have n1:=uM (s.u1 % 3) om_;have n2:=uM (max (loU s) (upU s)) om_;have k:=uM (min (loU s) (upU s)) om_;unfold fL ia;split
 ·rw [aF (by rw [sh1 f n1 c hy];decide),aF (by rw [g _ rfl rfl];decide),aF (by simp [La,p] <;> omega),aF (by simp [ordB]),aF (by simp [depB]),aF (by simp [IB])]
 split
 ·have l:=ok1 (ta s.depth);rw [aF (by rw [sh2 f n2 k c hy l];decide),aF (by rw [g _ rfl rfl];decide),aF (by simp only [La,d,e];simp <;> omega),aF (by simp only [ordB,d,e];simp <;> omega),aF (by simp only [depB];rw [cR l,Q6 (NP s.depth)];decide),aF (by simp [IB])]
 have h0:=nX s.n0;have h1:=nX s.n1;have h2:=ow s.n2;rw [aF (by rw [sh3 f n2 k c hy (ok1 (eh _ om_)) (ok1 (eh _ om_)) (ok1 (eh _ om_))];decide),aF (by rw [g _ rfl rfl];decide),aF (by simp only [La,d,e];simp <;> omega),aF (by simp only [ordB,d,e];simp <;> omega),aF (by simp [depB]),aF ?_];intro h;simp only [IB,QR,QK] at h;have h3:=h.2;rw [<- qtx_zero] at h3;have h4:=lO h3;have h5:=uL s.n2;exact h5 (by exact_mod_cast h4)
theorem all1:∀ i<15,∀ j<15,∀ h:Bool,qw (Jy 1 ((i:Nat)-7) ((j:Nat)-7) h) (shT 1)=true:=by decide +kernel
theorem all2:∀ i<15,∀ j<15,∀ h:Bool,qw (Jy 2 ((i:Nat)-7) ((j:Nat)-7) h) (shT 2)=true:=by decide +kernel
theorem all3:∀ i<15,∀ j<15,∀ h:Bool,qw (Jy 3 ((i:Nat)-7) ((j:Nat)-7) h) (shT 3)=true:=by decide +kernel
theorem all4:∀ i<15,∀ j<15,∀ h:Bool,qw (Jy 4 ((i:Nat)-7) ((j:Nat)-7) h) (shT 4)=true:=by decide +kernel
theorem all5:∀ i<15,∀ j<15,∀ h:Bool,qw (Jy 5 ((i:Nat)-7) ((j:Nat)-7) h) (shT 5)=true:=by decide +kernel
theorem all6:∀ i<15,∀ j<15,∀ h:Bool,qw (Jy 6 ((i:Nat)-7) ((j:Nat)-7) h) (shT 6)=true:=by decide +kernel
theorem all7:∀ i<15,∀ j<15,∀ h:Bool,qw (Jy 7 ((i:Nat)-7) ((j:Nat)-7) h) (shT 7)=true:=by decide +kernel
theorem wd (a:Int):∃ i:Nat,i<15/\a.tmod 8=(i:Int)-7:=by
 have h:=yJ a;exact ⟨(a.tmod 8+7).toNat,by omega,by omega⟩
theorem yS (m:Nat)(g:m<8)(a b:Int)(h:Bool):qw (cA m a b h) (shT m)=true:=by
 obtain ⟨i,c,e⟩:=wd a;obtain ⟨j,d,f⟩:=wd b;rw [Pb,e,f];rcases (by omega:m=0∨m=1∨m=2∨m=3∨m=4∨m=5∨m=6∨m=7) with rfl | rfl | rfl | rfl | rfl | rfl | rfl | rfl
 ·exact all0 i c j d h
 ·exact all1 i c j d h
 ·exact all2 i c j d h
 ·exact all3 i c j d h
 ·exact all4 i c j d h
 ·exact all5 i c j d h
 ·exact all6 i c j d h
 exact all7 i c j d h
theorem Mw:∀ m:Nat,m<8->shT m≠[]/\(shT m).length<=800:=by decide
theorem G9 {a:List Pt}{b:List Tri}(h:qw a b=true)(c:b≠[])(d:b.length<=800)(e:a.length<=400):Good a b/\∀ p∈a,jU a b p≠[]:=by
 unfold qw at h;simp only [QR,QX,QK] at h;obtain ⟨f,g,i,j,k,l,m⟩:=h;exact ⟨⟨⟨f,g,i,j,k,d,e⟩,c,l⟩,m⟩
theorem gz (m:Nat)(c:m<8)(a b:Int)(h:Bool):Good (cA m a b h) (shT m)/\∀ p∈cA m a b h,jU (cA m a b h) (shT m) p≠[]:=by
 have d:=hU m a b h;obtain ⟨h0,h1⟩:=Mw m c;exact G9 (yS m c a b h) h0 h1 om_
theorem uq (S:Sht)(s:Sgt)(c:SgtR s):QP 1 (lP S s)/\jU (cA (S.kd % 8) S.a S.b S.h) (shT (S.kd % 8)) (lP S s)≠[]:=by
 obtain ⟨d,e⟩:=gz (S.kd % 8) (Rj _ dc_) S.a S.b S.h;have f:0<(cA (S.kd % 8) S.a S.b S.h).length:=by rw [cA,ar];exact yT _
 unfold lP;split
 ·rename_i h;exact ⟨BO dc_ dc_ c.px c.py,h⟩
 have g:s.depth % (cA (S.kd % 8) S.a S.b S.h).length<(cA (S.kd % 8) S.a S.b S.h).length:=Rj _ f;rw [am,aj g,RT];exact ⟨d.ok.q _ (Rv _),e _ (Rv _)⟩
theorem ik (h:QB 1 q):(qtx q).length<=999998:=wS (fs:=[q]) (k:=1) dc_ (by intro y hy;rw [QY] at hy;rw [hy];exact h) _ (QY.2 rfl)
theorem Qk (S:Sht)(s:Sgt)(i:Nat)(c:SgtR s):ObsR (fL S s i):=by
 have b:=(uq S s c).1;have a:=ik b.1;have hy:=ik b.2;have d:=ik (ta s.depth);have h0:=nX s.n0;have h1:=nX s.n1;have h2:=ow s.n2;have e:=ik (eh (s.n0.tmod 5) om_);have l1:=ik (eh (s.n1.tmod 5) om_);have l2:=ik (eh (fj s.n2) om_);unfold fL;split
 ·exact ⟨by simp,a,hy,by simp,by simp [rE],by simp,by simp,by simp,by simp⟩
 split
 ·exact ⟨by simp,a,hy,d,by simp [rE],by simp [rE],by simp,by simp,by simp⟩
 exact ⟨by simp,a,hy,by simp,by simp [rE],by simp [rE],e,l1,l2⟩
theorem xj (S:Sht)(s:Sgt)(i:Nat):(fL S s i).name=[111,UInt8.ofNat (49+i)]:=by
 unfold fL;split
 ·rfl
 split <;> rfl
theorem mL {S:Sht}{H:Hts}{l:List Sgt}{o:Obs}(h:(dW S H l).obs[i]?=some o):i<6/\∃ s,l[i]?=some s/\o=fL S s i:=by
 have h1:=(aL.1 h).1;have h2:i<(rC S l).length:=h1;rw [jP] at h2;have h3:=Gp S (aj (show i<l.length by omega)) (show i<6 by omega);have h4:(rC S l)[i]?=some o:=h;rw [h3] at h4;exact ⟨by omega,_,aj om_,(R6 h4).symm⟩
theorem Er (S:Sht)(H:Hts)(l:List Sgt)(e:∀ s∈l,SgtR s):iH (dW S H l)=0:=by
 have f:∀ n,n<=(dW S H l).obs.length->vN (dW S H l) n=0:=by
  intro n;induction n with
  | zero=>intro _;rfl
  | succ n g =>
   intro i;have h0:=g om_;have a:(dW S H l).obs[n]?=some (dW S H l).obs[n]:=aj i;rw [uA h0 a];obtain ⟨b,s,j,m⟩:=mL a;rw [m];have c:=uq S s (e s (aX j));unfold obZ;rw [aF (by
    have:=JO S s n b c.1 c.2;intro h;exact h this),aF]
   intro hm;obtain ⟨o,p,d⟩:=QE.1 hm;obtain ⟨k,x,r⟩:=List.mem_take_iff_getElem.1 p;have t:(dW S H l).obs[k]?=some o:=by rw [<- r];exact aj _
   obtain ⟨u,y,_,v⟩:=mL t;rw [v,xj,xj] at d;have:=Pj u b d;omega
 unfold iH;have z:(dW S H l).obs.length<=6:=by
  show (rC S l).length<=6;rw [jP];omega
 have h1:nR (dW S H l).pts.length (dW S H l).terr=0:=by
  unfold nR;rw [aJ (by show ((fsK _ H).map qtx).length=_;rw [ar,uW];rfl)];show oC (((fsK _ H).map qtx).all aW)=0;rw [yx (fun q w=>ok1 (Hj _ H q w))];rfl
 have h2:rK (dW S H l).col=0:=by
  show rK colK=0;decide +kernel
 rw [aF (by rw [h1];decide),aF (by rw [h2];decide),aF om_];exact f _ (Qz _)
theorem Qr:∀ x∈colK,On x:=by
 intro x a;simp only [colK,QQ,RJ,S5] at a;rcases a with rfl | rfl | rfl
 ·exact ⟨by decide +kernel,fun q h=>by simp at h,by decide⟩
 ·exact ⟨by decide +kernel,fun q h=>by simp at h;subst h;decide +kernel,by decide⟩
 exact ⟨by decide +kernel,fun q h=>by simp at h,by decide⟩
theorem N3 (S:Sht)(H:Hts)(l:List Sgt)(a:∀ s∈l,SgtR s):BookR (dW S H l):=by
 refine ⟨?_,Qr,(by show colK.length<=1000000;decide), ?_⟩
 ·intro s h;obtain ⟨q,b,rfl⟩:=QE.1 h;exact ik (Hj _ H q b)
 intro o c;obtain ⟨i,d⟩:=List.mem_iff_getElem?.1 c;obtain ⟨_,s,e,rfl⟩:=mL d;exact Qk S s i (a s (aX e))
theorem CS (S:Sht)(H:Hts)(l:List Sgt):bs (dW S H l)=2:=rfl
theorem KN (S:Sht)(H:Hts)(l:List Sgt):0<bp (dW S H l)/\bp (dW S H l)<=6:=by
 refine ⟨?_,hU _ _ _ _⟩;show 0<(cA (S.kd % 8) S.a S.b S.h).length;rw [cA,ar];exact yT _
def Ii (C:Mem)(pv:Value)(S:Sht)(H:Hts)(l:List Sgt):Prop:=∃ A c,pv=.agg ⟨M5 S H (.slice A l.length c)⟩/\Sl C 9 (.slice A l.length c) (l.map Oi)
structure PlanR (S:Sht)(H:Hts)(l:List Sgt):Prop where
 kd:S.kd<256
 h:PY H
 s:∀ s∈l,SgtR s
def K8 (s p:Nat)(a b:Int):Prop:=a<0∨(s:Int)<=a∨b<0∨(p:Int)<=b
instance (s p:Nat) (a b:Int):Decidable (K8 s p a b):=by unfold K8;infer_instance
def Lt (n:Nat)(x:Int):Prop:=x<0∨(n:Int)<=x
instance (n:Nat) (x:Int):Decidable (Lt n x):=by unfold Lt;infer_instance
open Go Go.Jog Go.ChangeShapes Go.WideShapes Go.ChangeAt Go.RowKit
set_option maxRecDepth 100000
theorem own:ownKnob Tryz.prog.godebug=none:=by kernel_rfl
section
variable {H:Type} {enc:TypeId × Value->H} {W:World} {spare:Nat->Bool} {held:Bool}
theorem Qb {n:Nat}{c:Value}{y:DataW H × List MemPlace}(h:DataW.trod enc Tryz.prog W 0 spare held n 5 [c]=some y):∃ b:UInt8,c=.int .u8 b.toNat:=by
 obtain ⟨m,h1,_,h3⟩:=DataW.trod_int Tryz.underlying5 h;simp only [Tf,T9] at h1;subst h1;have a:0<=m/\m<256:=by
  simp [Lit.wf,IntKind.min,IntKind.max,IntKind.signed,IntKind.bits] at h3;omega
 refine ⟨UInt8.ofNat m.toNat, ?_⟩;congr 1;simp only [UInt8.toNat_ofNat'];omega
theorem wa {n:Nat}{c:Value}{y:DataW H × List MemPlace}(h:DataW.trod enc Tryz.prog W 0 spare held n 5 [c]=some y):∃ m:Nat,c=.int .u8 m/\m<256:=by
 obtain ⟨b,rfl⟩:=Qb h;exact ⟨b.toNat,Z,b.toNat_lt⟩
theorem kU {n:Nat}{c:Value}{y:DataW H × List MemPlace}(h:DataW.trod enc Tryz.prog W 0 spare held n 22 [c]=some y):∃ m:Int,c=.int .i8 m/\-128<=m/\m<=127:=by
 obtain ⟨m,h1,_,h3⟩:=DataW.trod_int Tryz.underlying22 h;simp only [Tf,T9] at h1;refine ⟨m,h1, ?_⟩;simp [Lit.wf,IntKind.min,IntKind.max,IntKind.signed,IntKind.bits] at h3;omega
theorem H5 {n:Nat}{c:Value}{y:DataW H × List MemPlace}(h:DataW.trod enc Tryz.prog W 0 spare held n 4 [c]=some y):∃ b:Bool,c=.bool b:=by
 obtain ⟨b,h1,_⟩:=DataW.trod_bool Tryz.underlying4 h;simp only [Tf,T9] at h1;exact ⟨b,h1⟩
theorem tz {t e:TypeId}{k n:Nat}{a:List Value}{y:DataW H × List MemPlace}(b:Tryz.prog.underlying t=some (.array k e))(c:Tryz.prog.cellsOf e=1)(h:DataW.trod enc Tryz.prog W 0 spare held n t a=some y) :
  ∃ m,∀ i,i<k->∃ z,DataW.trod enc Tryz.prog W 0 spare held m e ((a.drop i).take 1)=some z:=by
 obtain ⟨xs,m,_,_,_,g,d⟩:=DataW.trod_array b h;refine ⟨m,fun i f=>?_⟩;have h1:=d i f;rw [c,RY] at h1;rw [h1,aj om_];exact ⟨_,Z⟩
theorem vy:Tryz.prog.cellsOf 5=1:=by kernel_rfl
theorem mJ:Tryz.prog.cellsOf 22=1:=by kernel_rfl
theorem tt:Tryz.prog.cellsOf 4=1:=by kernel_rfl
theorem qX:Tryz.prog.cellsOf 23=2:=by kernel_rfl
theorem HV:Tryz.prog.cellsOf 135=2:=by kernel_rfl
theorem KK:Tryz.prog.cellsOf 136=3:=by kernel_rfl
theorem KJ:Tryz.prog.cellsOf 26=6:=by kernel_rfl
theorem I7 {n:Nat}{c d e f:Value}{y:DataW H × List MemPlace}(h:DataW.trod enc Tryz.prog W 0 spare held n 25 [c,d,e,f]=some y):∃ S:Sht,[c,d,e,f]=([.int .u8 S.kd,.int .i8 S.a,.int .i8 S.b,.bool S.h]:List Value)/\S.kd<256:=by
 obtain ⟨y0,y1,y2,l,_,o,h0,h1,h2⟩:=Go.Deep.trod_struct3 Tryz.underlying25 h;simp only [vy,qX,tt] at h0 h1 h2;obtain ⟨kd,rfl,i⟩:=wa h0;obtain ⟨m,g⟩:=tz Tryz.underlying23 mJ h1;obtain ⟨p,j⟩:=g 0 dc_;obtain ⟨q,k⟩:=g 1 dc_;obtain ⟨a,rfl,_⟩:=kU j;obtain ⟨b,rfl,_⟩:=kU k;obtain ⟨hh,rfl⟩:=H5 h2;exact ⟨⟨kd,a,b,hh⟩,Z,i⟩
theorem DZ {n:Nat}{b c d e f g i:Value}{y:DataW H × List MemPlace}(h:DataW.trod enc Tryz.prog W 0 spare held n 28 [b,c,d,e,f,g,i]=some y):∃ G:Hts,[b,c,d,e,f,g,i]=Pp G/\PY G:=by
 obtain ⟨y0,y1,u,_,v,h0,h1⟩:=Go.ChangeShapes.trod_struct2 Tryz.underlying28 h;simp only [KJ,tt] at h0 h1;obtain ⟨m,a⟩:=tz Tryz.underlying26 mJ h0;obtain ⟨w,k⟩:=a 0 dc_;obtain ⟨x,l⟩:=a 1 dc_;obtain ⟨A,o⟩:=a 2 dc_;obtain ⟨B,p⟩:=a 3 dc_;obtain ⟨C,q⟩:=a 4 dc_;obtain ⟨D,r⟩:=a 5 dc_;obtain ⟨x0,rfl,g0⟩:=kU k;obtain ⟨x1,rfl,E⟩:=kU l;obtain ⟨x2,rfl,F⟩:=kU o;obtain ⟨x3,rfl,I⟩:=kU p;obtain ⟨s,rfl,J⟩:=kU q;obtain ⟨t,rfl,K⟩:=kU r;obtain ⟨hh,rfl⟩:=H5 h1;refine ⟨⟨x0,x1,x2,x3,s,t,hh⟩,Z, ?_⟩;intro z j;simp only [Ix,QQ,RJ,S5] at j;rcases j with rfl | rfl | rfl | rfl | rfl | rfl <;> assumption
theorem wb {P:Program}{t:TypeId}{b c d e f:Field}{j:Nat}{a:List Value}{x:DataW H × List MemPlace}(k:P.underlying t=some (.struct #[b,c,d,e,f]))(h:DataW.trod enc P W 0 spare held j t a=some x) :
  ∃ y0 y1 y2 y3 i n,DataW.trod enc P W 0 spare held n b.type ((a.drop b.offset).take (P.cellsOf b.type))=some y0/\DataW.trod enc P W 0 spare held n c.type ((a.drop c.offset).take (P.cellsOf c.type))=some y1/\DataW.trod enc P W 0 spare held n d.type ((a.drop d.offset).take (P.cellsOf d.type))=some y2 /\
   DataW.trod enc P W 0 spare held n e.type ((a.drop e.offset).take (P.cellsOf e.type))=some y3/\DataW.trod enc P W 0 spare held n f.type ((a.drop f.offset).take (P.cellsOf f.type))=some i:=by
 obtain ⟨xs,n,_,rfl,m,l,g⟩:=DataW.trod_struct k h
 match xs,l with
 | [y0,y1,y2,y3,i],_=>exact ⟨y0,y1,y2,y3,i,n,by simpa using g 0 b rfl,by simpa using g 1 c rfl,by simpa using g 2 d rfl,by simpa using g 3 e rfl,by simpa using g 4 f rfl⟩
theorem I3 {n:Nat}{a:List Value}{y:DataW H × List MemPlace}(e:a.length=9)(h:DataW.trod enc Tryz.prog W 0 spare held n 138 a=some y):∃ s:{s:Sgt // SgtR s},a=Oi s.1:=by
 obtain ⟨y0,y1,y2,y3,z,A,h0,h1,h2,h3,h4⟩:=wb Tryz.underlying138 h
 match a,e with
 | [c0,B,c2,C,D,E,F,G,I],_ =>
   simp only [vy,qX,HV,KK] at h0 h1 h2 h3 h4;obtain ⟨kd,rfl,f⟩:=wa h0;obtain ⟨J,c⟩:=tz Tryz.underlying23 mJ h1;obtain ⟨w0,g⟩:=c 0 dc_;obtain ⟨w1,i⟩:=c 1 dc_;obtain ⟨px,rfl,j⟩:=kU g;obtain ⟨py,rfl,k⟩:=kU i;obtain ⟨K,a2⟩:=tz Tryz.underlying135 vy h2;obtain ⟨L,l⟩:=a2 0 dc_;obtain ⟨M,m⟩:=a2 1 dc_;obtain ⟨u0,rfl,o⟩:=wa l;obtain ⟨u1,rfl,p⟩:=wa m;obtain ⟨d,rfl,q⟩:=wa h3;obtain ⟨N,b⟩:=tz Tryz.underlying136 mJ h4;obtain ⟨O,r⟩:=b 0 dc_;obtain ⟨P,t⟩:=b 1 dc_;obtain ⟨Q,u⟩:=b 2 dc_;obtain ⟨n0,rfl,v⟩:=kU r;obtain ⟨n1,rfl,w⟩:=kU t;obtain ⟨n2,rfl,x⟩:=kU u;exact ⟨⟨⟨kd,px,py,u0,u1,d,n0,n1,n2⟩,⟨f,j,k,o,p,q,v,w,x⟩⟩,Z⟩
theorem Ft {b:Nat}{v:Value}{x:DataW H × List MemPlace}(h:DataW.trod enc Tryz.prog W 0 spare held b 29 [v]=some x):∃ l:List Sgt,Sl (rD W) 9 v (l.map Oi)/\∀ s∈l,SgtR s:=by
 obtain ⟨l,a⟩:=Fs (fun s:{s:Sgt // SgtR s}=>Oi s.1) Tryz.underlying29 kr_ dc_ (fun n cs y a hy=>I3 a hy) h;refine ⟨l.map (·.1),by rw [RC];exact a,fun s hs=>?_⟩;obtain ⟨z,_,rfl⟩:=QE.1 hs;exact z.2
theorem M4 {n:Nat}{a:List Value}{y:DataW H × List MemPlace}(h:DataW.trod enc Tryz.prog W 0 spare held n 31 a=some y):∃ S G l,Ii (rD W) (.agg ⟨a⟩) S G l/\PlanR S G l:=by
 obtain ⟨y0,y1,y2,o,_,d,h0,h1,h2⟩:=Go.Deep.trod_struct3 Tryz.underlying31 h;have g:Tryz.prog.cellsOf 31=12:=by kernel_rfl
 have h4:Tryz.prog.cellsOf 25=4:=by kernel_rfl
 have i:Tryz.prog.cellsOf 28=7:=by kernel_rfl
 have hs:Tryz.prog.cellsOf 29=1:=by kernel_rfl
 rw [g] at d
 match a,d with
 | [c0,p,c2,q,r,s,t,u,v,w,x,z],_ =>
  simp only [h4,i,hs] at h0 h1 h2;obtain ⟨S,e,j⟩:=I7 h0;obtain ⟨G,f,k⟩:=DZ h1;obtain ⟨l,b,m⟩:=Ft h2;obtain ⟨A,c,rfl,_⟩:=id b;simp only [Tf,T9] at e;obtain ⟨rfl,rfl,rfl,rfl⟩:=e;simp only [Pp,Tf,T9] at f;obtain ⟨rfl,rfl,rfl,rfl,rfl,rfl,rfl⟩:=f;simp only [ar] at b ⊢;exact ⟨S,G,l,⟨A,c,Z,b⟩,j,k,m⟩
end
def mb (cs:Array Value):Obj->Obj
 | .cells _ t frozen=>.cells cs t frozen
 | o=>o
def HI:Array Value:=(Lib.deBruijn32tab.map fun z:Nat=>Value.int .u8 (z:Int)).toArray
def HH:Array Value:=(Lib.deBruijn64tab.map fun z:Nat=>Value.int .u8 (z:Int)).toArray
def DI:Array Value:=(Lib.pow10Tab.map fun z=>Value.int .u64 z).toArray
def FP:ByteArray:=⟨#[118,97,108,117,101,32,111,117,116,32,111,102,32,114,97,110,103,101]⟩
def Dj:ByteArray:=⟨#[105,110,118,97,108,105,100,32,115,121,110,116,97,120]⟩
noncomputable def low:Nat:=(World.holding Tryz.prog default ⟨#[],#[],[]⟩).heap.size
noncomputable def qm (os:Os):World :=
 let w0:=World.holding Tryz.prog os ⟨#[.cells #[.string FP] 416,.cells #[.string Dj] 416],#[],[]⟩
 { w0 with heap:=((((w0.heap.modify 4 (mb HI)).modify 5 (mb HH)).modify 3 (mb DI)).modify 2 (mb #[.iface 414 (.pointer (some ⟨low,0,none⟩))])).modify 1 (mb #[.iface 414 (.pointer (some ⟨low+1,0,none⟩))]) }
theorem Mn {W : World} (h : laidMet Tryz.prog [("math/bits.deBruijn32tab", Rows.laid_math_bits_deBruijn32tab), ("math/bits.deBruijn64tab", Rows.laid_math_bits_deBruijn64tab), ("internal/strconv.uint64pow10", Rows.laid_internal_strconv_uint64pow10), ("strconv.ErrRange", Rows.laid_strconv_ErrRange), ("strconv.ErrSyntax", Rows.laid_strconv_ErrSyntax)] W) : Tabs (rD W) := by
 have h1:=h.tail;have h2:=h1.tail;have b:(Rows.laid_math_bits_deBruijn64tab:DataW Unit)=Lib.tabData .u8 (Lib.deBruijn64tab.map fun z:Nat=>(z:Int)):=by rfl
 rw [b] at h1;have a:=Lib.tabIs_of_head (g:=5) (t:=418) (e:=5) (n:=64) kr_ kr_ Tryz.underlying418 Tryz.underlying5 kr_ kr_ h1;have c:(Rows.laid_internal_strconv_uint64pow10:DataW Unit)=Lib.tabData .u64 Lib.pow10Tab:=by rfl
 rw [c] at h2;have d:=Lib.tabIs_of_head (g:=3) (t:=412) (e:=285) (n:=20) kr_ kr_ Tryz.underlying412 Tryz.underlying285 kr_ kr_ h2;refine ⟨VarC.ofWorld d, ?_⟩;unfold Lib.TabIs at a;rw [RC] at a;exact VarC.ofWorld a
theorem Cj:laidOutB Tryz.prog=true:=by kernel_rfl
section
variable {H:Type} {enc:TypeId × Value->H} {W:World} {spare:Nat->Bool} {held:Bool}
theorem uz {P:Program}{w:World}{r:Reach}{a:Nat}{t e:TypeId}{k:Nat}{v:Value}(b:P.underlying t=some (.array k e))(h:Value.okWide P w r a t v):∃ cs,v=.agg cs/\cs.size=P.cellsOf t:=by
 simp only [Value.okWide,b] at h;obtain ⟨cs,h1,h2,_⟩:=h;exact ⟨cs,h1,h2⟩
end
end Go.Proofs.YtfjcldheldflbaaGreatDoor
namespace Go.Proofs.YtfjcldheldflbaaGreatDoor
open Go.Proofs.Tryz
open Go Go.Jog
set_option maxRecDepth 100000
variable {a b:Int}{fs:List Rat}{h:Bool}{i k:Nat}{k0 k1 k2:Int}{m n:Nat}{p:Pt}{pts:List Pt}{q:Rat}{t:Tri}{w x0 x1 x2 x3 y0 y1 y2 y3 z:Int}{α:Type}{l:List α}
/-! Small parts: numbers of quarters and of halves. -/
theorem BF (a:w≠0)(h:q*w=z):q=ld z w:=by
 have c:(w:Rat)≠0:=by simpa using a
 unfold ld;rw [Rat.mkRat_eq_div];have b:q=z / w:=by grind
 rw [b];split
 ·rename_i d;have:((w.natAbs:Nat):Int)=-w:=by omega
  rw [show ((w.natAbs:Nat):Rat)=(((w.natAbs:Nat):Int):Rat) from rfl,this];simp only [Rat.intCast_neg];grind
 have:((w.natAbs:Nat):Int)=w:=by omega
 rw [show ((w.natAbs:Nat):Rat)=(((w.natAbs:Nat):Int):Rat) from rfl,this]
theorem oz (a:w≠0):ld z w*w=z:=by
 have b:(w:Rat)≠0:=by simpa using a
 have h:=BF (q:=(z:Rat) / w) (z:=z) a (by grind);rw [<- h];grind
theorem pC (a:w≠0)(h:q*w=z)(b:z.natAbs<1000000000)(c:w.natAbs<1000000000):QB 1 q:=by
 rw [BF a h];exact qM a b c
def iA (x0 y0 x1 y1 x2 y2:Int):Int:=(x1-x0)*(y2-y0)-(y1-y0)*(x2-x0)
def At4 (p:Pt)(x y:Int):Prop:=p.1*4=x/\p.2*4=y
def Qtr (p:Pt):Prop:=∃ x y:Int,At4 p x y/\(-600<=x/\x<=600)/\(-600<=y/\y<=600)
def Hlf (z:Rat):Prop:=∃ k:Int,z*2=k/\(-38<=k/\k<=38)
theorem kg {a b c:Pt}(d:At4 a x0 y0)(e:At4 b x1 y1)(f:At4 c x2 y2):cj a b c*16=(iA x0 y0 x1 y1 x2 y2:Int):=by
 unfold iA cj;simp only [SX,Rx];rw [<- d.1,<- d.2,<- e.1,<- e.2,<- f.1,<- f.2];grind
theorem da {M K:Nat}(c:a.natAbs<=M)(d:b.natAbs<=K):(a*b).natAbs<=M*K:=by
 rw [R8];exact R0 c d
theorem xA (h:(-600<=x0/\x0<=600)/\(-600<=y0/\y0<=600)/\(-600<=x1/\x1<=600)/\(-600<=y1/\y1<=600)/\(-600<=x2/\x2<=600)/\(-600<=y2/\y2<=600)):(iA x0 y0 x1 y1 x2 y2).natAbs<=2880000:=by
 have h1:=da (a:=x1-x0) (b:=y2-y0) (M:=1200) (K:=1200) om_ om_;have h2:=da (a:=y1-y0) (b:=x2-x0) (M:=1200) (K:=1200) om_ om_;unfold iA;omega
theorem pA {n d:Rat}{N W:Int}(b:n*16=N)(c:d*16=W)(a:d≠0):W≠0/\n / d*W=N:=by
 constructor
 ·intro h;subst h;exact a (by grind)
 grind
theorem OD (a:∀ j,Qtr (cor pts t j))(b:cj (cor pts t 0) (cor pts t 1) (cor pts t 2)≠0)(c:Qtr p)(j:Nat):QB 1 (wgt pts t p j):=by
 obtain ⟨x0,y0,h0,d,e⟩:=a 0;obtain ⟨x1,y1,h1,f,g⟩:=a 1;obtain ⟨x2,y2,h2,h,i⟩:=a 2;obtain ⟨x3,y3,h3,k,l⟩:=a ((j+1) % 3);obtain ⟨m,n,h4,o,q⟩:=a ((j+2) % 3);obtain ⟨r,s,h5,u,v⟩:=c;obtain ⟨w,x⟩:=pA (kg h5 h3 h4) (kg h0 h1 h2) b;have k1:=xA (x0:=r) (y0:=s) (x1:=x3) (y1:=y3) (x2:=m) (y2:=n) ⟨u,v,k,l,o,q⟩;have k2:=xA (x0:=x0) (y0:=y0) (x1:=x1) (y1:=y1) (x2:=x2) (y2:=y2) ⟨d,e,f,g,h,i⟩;exact pC w x om_ om_
theorem iX {a b c:Pt}{e f g:Rat}(i:At4 a x0 y0)(j:At4 b x1 y1)(k:At4 c x2 y2)(n:e*2=k0)(o:f*2=k1)(p:g*2=k2)(l:cj a b c≠0) :
  iA x0 y0 x1 y1 x2 y2≠0/\(nL a b c e f g).1*(iA x0 y0 x1 y1 x2 y2:Int)=((2*((k1-k0)*(y2-y0)-(y1-y0)*(k2-k0)):Int):Rat)/\(nL a b c e f g).2*(iA x0 y0 x1 y1 x2 y2:Int)=((2*((x1-x0)*(k2-k0)-(k1-k0)*(x2-x0)):Int):Rat):=by
 have m:=kg i j k;have q:eD (b.1-a.1) (b.2-a.2) (c.1-a.1) (c.2-a.2)=cj a b c:=by unfold eD cj;grind
 refine ⟨fun h=>l (by rw [h] at m;grind), ?_, ?_⟩
 ·unfold nL;simp only;rw [q,<- m];unfold eD;simp only [SX,Rx];rw [<- i.2,<- j.2,<- k.2,<- n,<- o,<- p];generalize cj a b c=d at l;grind
 unfold nL;simp only;rw [q,<- m];unfold eD;simp only [SX,Rx];rw [<- i.1,<- j.1,<- k.1,<- n,<- o,<- p];generalize cj a b c=d at l;grind
theorem ka {c d:Int}(h:a.natAbs<=76/\b.natAbs<=1200/\c.natAbs<=1200/\d.natAbs<=76):(a*b-c*d).natAbs<=182400:=by
 have h1:=da h.1 h.2.1;have h2:=da h.2.2.1 h.2.2.2;omega
theorem IZ (e:∀ j,Qtr (cor pts t j))(h:cj (cor pts t 0) (cor pts t 1) (cor pts t 2)≠0)(f:∀ j,Hlf (fz fs t j)):QP 1 (dC pts fs t):=by
 obtain ⟨x0,y0,h0,i,k⟩:=e 0;obtain ⟨x1,y1,h1,l,m⟩:=e 1;obtain ⟨x2,y2,h2,n,o⟩:=e 2;obtain ⟨k0,p,v⟩:=f 0;obtain ⟨k1,q,w⟩:=f 1;obtain ⟨k2,r,x⟩:=f 2;obtain ⟨g,s,u⟩:=iX h0 h1 h2 p q r h;have y:=xA (x0:=x0) (y0:=y0) (x1:=x1) (y1:=y1) (x2:=x2) (y2:=y2) ⟨i,k,l,m,n,o⟩;have z:=ka (a:=k1-k0) (b:=y2-y0) (c:=y1-y0) (d:=k2-k0) ⟨by omega,by omega,by omega,by omega⟩;have A:=ka (a:=k1-k0) (b:=x2-x0) (c:=x1-x0) (d:=k2-k0) ⟨by omega,by omega,by omega,by omega⟩;unfold dC;exact ⟨pC g s om_ om_,pC g u om_ om_⟩
theorem Lu (c:At4 (cor pts t 0) x0 y0)(h:At4 (cor pts t 1) x1 y1)(i:At4 (cor pts t 2) x2 y2)(e:At4 p x3 y3)(d:fz fs t 0*2=k0)(j:fz fs t 1*2=k1)(k:fz fs t 2*2=k2)
  (l:cj (cor pts t 0) (cor pts t 1) (cor pts t 2)≠0):onQ pts fs t p*((2*iA x0 y0 x1 y1 x2 y2:Int):Rat)=((k0*iA x0 y0 x1 y1 x2 y2+((k1-k0)*(y2-y0)-(y1-y0)*(k2-k0))*(x3-x0)+((x1-x0)*(k2-k0)-(k1-k0)*(x2-x0))*(y3-y0):Int):Rat):=by
 obtain ⟨s,f,g⟩:=iX c h i d j k l;unfold onQ Fh;simp only [Tc,List.foldl_nil];have a:=f;have b:=g;unfold dC;generalize (nL (cor pts t 0) (cor pts t 1) (cor pts t 2) (fz fs t 0) (fz fs t 1) (fz fs t 2)).1=u at a ⊢;generalize (nL (cor pts t 0) (cor pts t 1) (cor pts t 2) (fz fs t 0) (fz fs t 1) (fz fs t 2)).2=v at b ⊢;clear f g;generalize ((k1-k0)*(y2-y0)-(y1-y0)*(k2-k0))=n1 at a ⊢;generalize ((x1-x0)*(k2-k0)-(k1-k0)*(x2-x0))=n2 at b ⊢;generalize iA x0 y0 x1 y1 x2 y2=w at a b ⊢;simp only [SX,Rx,Tu] at a b ⊢;have m:=c.1;have n:=c.2;have o:=e.1;have q:=e.2;generalize fz fs t 0=x at d ⊢;rw [<- m,<- n,<- o,<- q,<- d];have r:((2:Int):Rat)=2:=rfl;rw [r] at a b ⊢;grind
theorem Pf (b:(-600<=x0/\x0<=600)/\(-600<=y0/\y0<=600)/\(-600<=x1/\x1<=600)/\(-600<=y1/\y1<=600)/\(-600<=x2/\x2<=600)/\(-600<=y2/\y2<=600))(g:(-600<=x3/\x3<=600)/\(-600<=y3/\y3<=600))(h:(-38<=k0/\k0<=38)/\(-38<=k1/\k1<=38)/\(-38<=k2/\k2<=38)) :
  (k0*iA x0 y0 x1 y1 x2 y2+((k1-k0)*(y2-y0)-(y1-y0)*(k2-k0))*(x3-x0)+((x1-x0)*(k2-k0)-(k1-k0)*(x2-x0))*(y3-y0)).natAbs<=600000000:=by
 have e:=xA b;have f:=ka (a:=k1-k0) (b:=y2-y0) (c:=y1-y0) (d:=k2-k0) ⟨by omega,by omega,by omega,by omega⟩;have i:=ka (a:=k1-k0) (b:=x2-x0) (c:=x1-x0) (d:=k2-k0) ⟨by omega,by omega,by omega,by omega⟩;have j:=da (show k0.natAbs<=38 by omega) e;have k:=da f (show (x3-x0).natAbs<=1200 by omega);have l:=da (show ((x1-x0)*(k2-k0)-(k1-k0)*(x2-x0)).natAbs<=182400 by omega) (show (y3-y0).natAbs<=1200 by omega);omega
theorem Qg (a:∀ j,Qtr (cor pts t j))(c:cj (cor pts t 0) (cor pts t 1) (cor pts t 2)≠0)(b:∀ j,Hlf (fz fs t j))(n:Qtr p):QB 1 (onQ pts fs t p):=by
 obtain ⟨x0,y0,h0,d,e⟩:=a 0;obtain ⟨x1,y1,h1,f,g⟩:=a 1;obtain ⟨x2,y2,h2,h,i⟩:=a 2;obtain ⟨x3,y3,h3,o⟩:=n;obtain ⟨k0,k,q⟩:=b 0;obtain ⟨k1,l,r⟩:=b 1;obtain ⟨k2,m,s⟩:=b 2;have u:=(iX h0 h1 h2 k l m c).1;have v:=xA (x0:=x0) (y0:=y0) (x1:=x1) (y1:=y1) (x2:=x2) (y2:=y2) ⟨d,e,f,g,h,i⟩;have w:=Pf ⟨d,e,f,g,h,i⟩ o ⟨q,r,s⟩;exact pC om_ (Lu h0 h1 h2 h3 k l m c) om_ om_
theorem Cy (a:w=1∨w=2∨w=4)(e:-150<=z/\z<=150):∃ x:Int,ld z w*4=x/\(-600<=x/\x<=600):=by
 have h:=oz (z:=z) (w:=w) om_;have b:((1:Int):Rat)=1:=rfl;have c:((2:Int):Rat)=2:=rfl;have d:((4:Int):Rat)=4:=rfl;rcases a with rfl | rfl | rfl
 ·refine ⟨4*z, ?_,by omega⟩;rw [Rx,<- h,b,d];grind
 ·refine ⟨2*z, ?_,by omega⟩;rw [Rx,<- h,c];grind
 exact ⟨z,h,by omega⟩
theorem xa {x y n:Int}(c:n=1∨n=2)(k:-128<=x/\x<=127)(l:-128<=y/\y<=127):Qtr (dH a b h x y n):=by
 have m:=yJ a;have o:=yJ b;have hh:dV h=1∨dV h=2:=by cases h <;> simp [dV]
 have d:dV h*n=1∨dV h*n=2∨dV h*n=4:=by rcases hh with e | e <;> rcases c with f | f <;> rw [e,f] <;> omega
 obtain ⟨u,g,i⟩:=Cy (z:=x+a.tmod 8*n) d (by rcases c with f | f <;> subst f <;> omega);obtain ⟨v,j,bv⟩:=Cy (z:=y+b.tmod 8*n) d (by rcases c with f | f <;> subst f <;> omega);exact ⟨u,v,⟨g,j⟩,i,bv⟩
theorem uo :∀ p∈cA m a b h,Qtr p:=by
 intro p c;obtain ⟨x,d,rfl⟩:=QE.1 c;have:=Le m x d;exact xa (.inl Z) om_ om_
theorem AH:Qtr (0,0):=⟨0,0,⟨by decide +kernel,by decide +kernel⟩,by decide,by decide⟩
theorem mh {P:α->Prop}{d:α}(h:∀ x∈l,P x)(a:P d):P (l.getD i d):=by
 rw [am];cases h1:l[i]? with
 | none=>exact a
 | some x=>exact h x (aX h1)
theorem qQ (j:Nat):Qtr (cor (cA m a b h) t j):=mh uo AH
theorem ND (n:Nat)(H:Hts):∀ q∈fsK n H,Hlf q:=by
 intro q a;obtain ⟨i,_,rfl⟩:=QE.1 a;have b:=E8 ((Ix H).getD (i % 6) 0);generalize ((Ix H).getD (i % 6) 0).tmod 20=z at b ⊢;have c:((1:Int):Rat)=1:=rfl;have d:((2:Int):Rat)=2:=rfl;rcases uS H.half with e | e
 ·have h:=oz (z:=z) (w:=1) dc_;rw [e];refine ⟨2*z, ?_,by omega⟩;rw [Rx,<- h,c,d];grind
 rw [e];exact ⟨z,oz dc_,by omega⟩
theorem oa:Hlf 0:=⟨0,by decide +kernel,by decide⟩
theorem Nb:Hlf 1:=⟨2,by decide +kernel,by decide⟩
theorem Hh {H:Hts}(j:Nat):Hlf (fz (fsK n H) t j):=mh (ND n H) oa
theorem AV (j:Nat):Hlf (fz (nW n k) t j):=mh (fun q a=>by
 rcases AW q a with rfl | rfl
 ·exact oa
 exact Nb) oa
theorem BJ (S:Sht)(s:Sgt)(a:SgtR s):Qtr (lP S s):=by
 unfold lP;split
 ·exact xa (.inr Z) a.px a.py
 exact mh uo AH
theorem uf {P:Rat->Prop}{m:List (Nat × Rat)}(a:P 0)(h:∀ x∈m,P x.2):∀ q∈rZ n m,P q:=by
 intro q b;obtain ⟨j,_,rfl⟩:=QE.1 b;cases h1:dY m j with
 | none=>exact a
 | some v =>
  exact h _ (gk h1)
theorem pr {s p:Nat}{a:List (Nat × Rat)}{b c:Rat}(e:∀ x∈a,QB 1 x.2)(f:QB 3 b)(d:QB 1 c):Ol (gV s p k a b c):=by
 refine ⟨uf (QB_zero.le dc_) ?_,(jx d f).le dc_⟩;intro x g;obtain ⟨y,hy,rfl⟩:=QE.1 g;exact (jx d (e y hy)).le dc_
theorem Jh {B:Bk}{o:Obs}{z:Rat}(c:∀ j,QB 1 (wgt B.pts t p j))(a:∀ j,QP 1 (slf B.pts t j))(d:QB 3 (lk o z))(f:o.kind≠1->o.kind≠2->QB 3 (qL o)/\QB 3 (jh o)):∀ r∈rowsO B o p t z,Ol r:=by
 have e:∀ x∈atT t (wgt B.pts t p),QB 1 x.2:=gr (c 0) (c 1) (c 2);have g:∀ x∈atT t (fun j=>(slf B.pts t j).1),QB 1 x.2:=gr (a 0).1 (a 1).1 (a 2).1;have i:∀ x∈atT t (fun j=>(slf B.pts t j).2),QB 1 x.2:=gr (a 0).2 (a 1).2 (a 2).2;intro r hr;unfold rowsO at hr;split at hr
 ·rcases QS.1 hr with h | h
  ·split at h
   ·rw [QY.1 h];exact pr e d QB_one
   simp at h
  split at h
  ·rw [QY.1 h];exact pr e d nl
  simp at h
 rename_i h1;split at hr
 ·obtain ⟨k,_,h⟩:=List.mem_flatMap.1 hr;obtain ⟨sg,b,rfl⟩:=QE.1 h;exact pr e d (rU sg b)
 rename_i h2;obtain ⟨l,m⟩:=f h1 h2;obtain ⟨k,_,h⟩:=List.mem_flatMap.1 hr;rcases QS.1 h with h | h
 ·obtain ⟨sg,b,rfl⟩:=QE.1 h;exact pr g l (rU sg b)
 obtain ⟨sg,b,rfl⟩:=QE.1 h;exact pr i m (rU sg b)
def tiK (S:Sht)(s:Sgt):Nat:=(jU (cA (S.kd % 8) S.a S.b S.h) (shT (S.kd % 8)) (lP S s)).headD 0
def tK (S:Sht)(s:Sgt):Tri:=(shT (S.kd % 8)).getD (tiK S s) (0,0,0)
def zK (S:Sht)(H:Hts)(s:Sgt):Rat:=onQ (cA (S.kd % 8) S.a S.b S.h) (fsK (cA (S.kd % 8) S.a S.b S.h).length H) (tK S s) (lP S s)
noncomputable def roK (S:Sht)(H:Hts)(l:List Sgt)(i:Nat):List RowQ:=rowsO (dW S H l) (fL S (l.getD i xn) i) (lP S (l.getD i xn)) (tK S (l.getD i xn)) (zK S H (l.getD i xn))
theorem Ng (S:Sht)(s:Sgt)(i:Nat)(b:SgtR s):ObsAt (fL S s i) (lP S s):=by
 have a:=(uq S s b).1;refine ⟨?_, ?_,(FT a).1,(FT a).2, ?_⟩
 ·unfold fL;split
  ·rfl
  split <;> rfl
 ·unfold fL;split
  ·rfl
  split <;> rfl
 unfold fL;split
 ·intro h;exact absurd (show (1:Int)=2 from h) dc_
 split
 ·intro _;exact ok1 (ta s.depth)
 intro h;exact absurd (show (3:Int)=2 from h) dc_
theorem Nf (S:Sht)(s:Sgt)(i:Nat):0<=kp (isU (fL S s i).upper) colK 0:=by
 have c:=Nr s;have d:=Mj s;have a:=qo (s.u1 % 3) om_;have b:=qo (max (loU s) (upU s)) om_;unfold fL;split
 ·simp only;rw [a];omega
 split <;> (simp only;rw [b];omega)
theorem Gq (S:Sht)(s:Sgt)(i:Nat):(fL S s i).kind≠1->(fL S s i).kind≠2->(aW (fL S s i).nx=true/\aW (fL S s i).ny=true/\aW (fL S s i).nz=true)/\QB 1 (di (fL S s i).nx)/\QB 1 (di (fL S s i).ny)/\QB 1 (di (fL S s i).nz)/\di (fL S s i).nz≠0:=by
 have h0:=nX s.n0;have h1:=nX s.n1;have h2:=ow s.n2;have a:=eh (s.n0.tmod 5) om_;have l1:=eh (s.n1.tmod 5) om_;have l2:=eh (fj s.n2) om_;have b:=uL s.n2;unfold fL;split
 ·intro h;exact absurd rfl h
 split
 ·intro _ h;exact absurd rfl h
 intro _ _;simp only;rw [cR (ok1 a),cR (ok1 l1),cR (ok1 l2)];exact ⟨⟨ok1 a,ok1 l1,ok1 l2⟩,a,l1,l2,by simpa using b⟩
theorem BX (S:Sht)(s:Sgt)(i:Nat):(fL S s i).kind=2->(fL S s i).depth=qtx (ld ((s.depth % 12:Nat):Int) 2):=by
 unfold fL;split
 ·intro h;exact absurd (show (1:Int)=2 from h) dc_
 split
 ·intro _;rfl
 intro h;exact absurd (show (3:Int)=2 from h) dc_
theorem JP (S:Sht)(s:Sgt)(i:Nat){z:Rat}(a:QB 1 z):QB 3 (lk (fL S s i) z):=by
 unfold lk;split
 ·rename_i h;rw [BX S s i h,cR (ok1 (ta s.depth))];have h:=fk a (ta s.depth);exact h.le dc_
 exact a.le dc_
theorem Gr (S:Sht)(s:Sgt)(i:Nat)(b:(fL S s i).kind≠1)(c:(fL S s i).kind≠2):QB 3 (qL (fL S s i))/\QB 3 (jh (fL S s i)):=by
 obtain ⟨_,d,l1,l2,a⟩:=Gq S s i b c;exact ⟨(jy (eR d) l2 a).le dc_,(jy (eR l1) l2 a).le dc_⟩
theorem locK (S:Sht)(s:Sgt)(c:SgtR s):(∃ r,jU (cA (S.kd % 8) S.a S.b S.h) (shT (S.kd % 8)) (lP S s)=tiK S s::r)/\(shT (S.kd % 8))[tiK S s]?=some (tK S s):=by
 have d:=(uq S s c).2;unfold tK tiK;cases h:jU (cA (S.kd % 8) S.a S.b S.h) (shT (S.kd % 8)) (lP S s) with
 | nil=>exact absurd h d
 | cons i r =>
  have hm:i∈jU (cA (S.kd % 8) S.a S.b S.h) (shT (S.kd % 8)) (lP S s):=by rw [h];exact QC
  unfold jU at hm;have e:=QU.1 (R7.1 hm).1;refine ⟨⟨r,Z⟩, ?_⟩;simp only [List.headD_cons];rw [am,aj e];rfl
theorem Qo (S:Sht)(H:Hts)(l:List Sgt)(s:Sgt)(i:Nat)(c:SgtR s) :
  Fine (dW S H l) (fsK (cA (S.kd % 8) S.a S.b S.h).length H) (fL S s i) (lP S s) (tiK S s) (tK S s) (zK S H s):=by
 obtain ⟨n,_⟩:=gz (S.kd % 8) (Rj _ dc_) S.a S.b S.h;obtain ⟨⟨r,hr⟩,f⟩:=locK S s c;have d:=ip n.ok (aX f);have g:=BJ S s c;have k:∀ j,QB 1 (wgt (cA (S.kd % 8) S.a S.b S.h) (tK S s) (lP S s) j):=OD (fun j=>qQ j) d g;have m:∀ j,QP 1 (slf (cA (S.kd % 8) S.a S.b S.h) (tK S s) j):=fun j=>IZ (fun j=>qQ j) d (fun j=>AV j);have e:QB 1 (zK S H s):=Qg (fun j=>qQ j) d (fun j=>Hh j) g;have hh:=JP S s i e;refine ⟨Ng S s i c,⟨r,hr⟩,f, ?_,e.le dc_,hh.le dc_,fun j=>(k j).le dc_,Nf S s i,fun j=>(m j).le dc_, ?_, ?_⟩
 ·show AS (cA (S.kd % 8) S.a S.b S.h) (shT (S.kd % 8)) _ _=_;unfold AS;rw [hr];show zh (zK S H s)=_;unfold zh;rw [aJ (ok1 e)]
 ·intro h1 h2;obtain ⟨h0,o,l1,l2,p⟩:=Gq S s i h1 h2;exact ⟨h0,o.le dc_,l1.le dc_,l2.le dc_,p⟩
 exact Jh k m hh (Gr S s i)
theorem Et (S:Sht)(H:Hts)(l:List Sgt)(c:∀ s∈l,SgtR s):Rich (dW S H l) (fsK (cA (S.kd % 8) S.a S.b S.h).length H) (roK S H l):=by
 refine ⟨(gz (S.kd % 8) (Rj _ dc_) S.a S.b S.h).1,N3 S H l c,Er S H l c,⟨Z,uW _ _,fun q e=>(Hj _ H q e).le dc_⟩, ?_, ?_⟩
 ·have:=(KN S H l).2;rw [CS];omega
 intro i o f;obtain ⟨g,s,d,rfl⟩:=mL f;refine ⟨_,_,_,_,Qo S H l s i (c s (aX d)), ?_⟩;unfold roK;rw [am,d];rfl
theorem DJ (x y:Nat)(a:x<18446744073709551616)(b:y<18446744073709551616)(C:Mem):Gives cx.P 128 [.int .u64 x,.int .u64 y] C (.tuple #[.int .u64 ((x*y / 18446744073709551616:Nat):Int),.int .u64 ((x*y % 18446744073709551616:Nat):Int)]) :=
 Gives.ofCalls kr_ (fun w=>Any.bits_Mul Tryz.mul x y a b w) C
theorem F3 {a:Value}{b:List Value}(_d:k+m<=n)(c:m<=k)(_e:b.length=n-k) :
  aD (List.replicate k a++b) ((List.replicate k a++b).take m) k=List.replicate (k+m) a++b.drop m:=by
 have h1:(List.replicate k a++b).take m=List.replicate m a:=by
  rw [List.take_append_of_le_length (by simpa using c),List.take_replicate,RD c]
 have h2:(List.replicate k a++b).take k=List.replicate k a:=by
  rw [List.take_append_of_le_length al,List.take_replicate,Nat.min_self]
 have h3:(List.replicate k a++b).drop (k+m)=b.drop m:=by
  rw [Tq,Rb,Ss al,SK];congr 1;omega
 unfold aD;rw [h1,h2,Rb,h3,List.replicate_append_replicate]
theorem FX (a:Value)(n:Nat):kG [a] n=List.replicate n a:=by
 rw [fa];induction n with
 | zero=>rfl
 | succ n b=>rw [RP,RU,b,RP];rfl
theorem JD (n:Nat)(a:n<18446744073709551616)(C:Mem):Gives cx.P 128 [.int .u64 (1:Int),.int .u64 n] C (.tuple #[.int .u64 0,.int .u64 n]):=by
 have h:=DJ 1 n om_ a C;have b:1*n / 18446744073709551616=0:=by omega
 have c:1*n % 18446744073709551616=n:=by omega
 rw [b,c] at h;exact h
theorem DG (C:Mem)(v:Value)(n:Nat)(s:Str)(g:Sl C 1 v [[af s]])(y:n<=1000000):Jog.Fn cx.P 64 [v,.int .i64 n] C [] fun u _z e=>∃ b,u=.slice (some ⟨b,0,none⟩) n n/\e=[.arr u 32 1 n (List.replicate n (af s))]:=by
 have p:=g;obtain ⟨A,c,rfl,_⟩:=p;refine Ur func64 48 U3 fun w0=>Uh 1 [0,1] Z<|Uh 2 [0,1,10] Z<|G.cd (fun h=>?_) fun h=>?_
 ·simp at h;omega
 refine Ui 2 Z fun R d=>UU (c:=1) U8 Z fl_<|Uk U6<|UU (c:=(n:Int)) U8 (by rw [IntKind.wrap_u64];omega) fl_<|Uu (JD n om_ _) U7 fl_<|C6 5 [0,5,6] d Z<|Ui 5 Z fun R d=>UN U8<|Un [0,6,26] d Z<|G.cd (fun i=>?_) fun i=>?_
 ·simp at i;omega
 refine Ui 1 Z fun R d=>UU (c:=(n:Int)) U8 (by rw [IntKind.wrap_i64];omega) fl_<|Vl U9 (Qz _) (by show 16*n<=281474976710656;omega) (by simp only [maxLen];omega) fl_ fun a=>C6 1 [0,7] d Z<|Ui 2 Z fun R d=>VR (j:=0) (q:=min 1 n) U12 g U2 (by rw [cV];show 0+min 1 n*1<=n*1;omega) fl_<|C6 1 [7,8] d Z ?_;have r:aD (kG [af []] n) (([[af s]]:List (List Value)).take (min 1 n)).flatten 0=List.replicate (min 1 n) (af s)++List.replicate (n-min 1 n) (af []):=by
  rw [FX];cases n with
  | zero=>rfl
  | succ n=>rw [show min 1 (n+1)=1 by omega,RP];rfl
 refine Uz (L':=[.arr (.slice (some ⟨a,0,none⟩) n n) 32 1 n (List.replicate (min 1 n) (af s)++List.replicate (n-min 1 n) (af []))]) (by rw [<- r];rfl)<|G.loop (fun fr B e t=>∃ (k:Nat),(k<=n/\min 1 n<=k)/\fr=[(7,[],.slice (some ⟨a,0,none⟩) n n),(8,[],.int .i64 k)]/\e=[.arr (.slice (some ⟨a,0,none⟩) n n) 32 1 n (List.replicate k (af s)++List.replicate (n-k) (af []))]/\t=n-k) (hn_ [7,8] Z) ⟨min 1 n,⟨Nat.min_le_right _ _,Qz _⟩,Z,Z,Z⟩ (fun fr D E m w x=>?_);obtain ⟨k,⟨l,F⟩,rfl,rfl,rfl⟩:=x;refine Uh 4 [7,8,37] Z<|G.cd (fun f=>?_) fun f=>?_
 ·simp only [QK] at f;have o:k<n:=by omega
  have H:1<=k:=by omega
  refine UD [0,1,2,3,4,5,6,7,8,9] [] Z kr_ fun R I d=>Um 3 Z<|Vg k n n U12 (fun _=>⟨.inr ⟨_,Z⟩,.inl ⟨Z,Z⟩,.inl ⟨Z,Z⟩,l,Qz _,Qz _⟩) U2<|Um 2 Z<|Vg 0 k n U12 (fun _=>⟨.inl ⟨Z,Z⟩,.inr ⟨_,Z⟩,.inl ⟨Z,Z⟩,QH _,l,Qz _⟩) U2 ?_;refine VQ (j:=0) (off:=k) (g0:=a) (dl:=n-k) (dc:=n-k) (sl:=k-0) (sc:=n-0) (q:=min k (n-k)) U8 (by show some (Value.slice (if n=k then some (⟨a,0,none⟩:Addr) else (some (⟨a,0,none⟩:Addr)).map (·.add (k*1))) (n-k) (n-k))=_;rw [aF om_];simp [Addr.add_lit]) (by show some (Value.slice (if n=0 then some (⟨a,0,none⟩:Addr) else (some (⟨a,0,none⟩:Addr)).map (·.add (0*1))) (k-0) (n-0))=_;split <;> simp [Addr.add_lit]) U2 (by simp [lQ,af]) ap fl_ ?_;refine UQ (((k+min k (n-k):Nat):Int)) U4 om_ om_ om_ U2<|C6 1 [7,8] d Z<|Uz (L':=[.arr (.slice (some ⟨a,0,none⟩) n n) 32 1 n (List.replicate (k+min k (n-k)) (af s)++List.replicate (n-(k+min k (n-k))) (af []))]) (by rw [F3 (n:=n) om_ (Nat.min_le_left _ _) al,List.drop_replicate,Nat.sub_sub];rfl)<|Uw (m':=n-(k+min k (n-k))) om_ w (hn_ [7,8] Z) ⟨k+min k (n-k),⟨by omega,by omega⟩,Z,Z,Z⟩
 simp only [Q7] at f;have o:k=n:=by omega
 subst o;refine Uh 2 [4] Z<|Uv (UV Z Z ?_);exact ⟨a,Z,by simp⟩
theorem jb (C:Mem)(n:Nat)(a:n<=1000000):Jog.Fn cx.P 99 [.int .i64 n] C [] fun u _g c=>∃ b,u=.slice (some ⟨b,0,none⟩) n n/\c=[.arr u 32 1 n (List.replicate n (af [48]))]:=by
 refine Ur func99 6 U3 fun w0=>Uh 1 [0] Z<|UI [(2,3)] Z fun R d=>UF [[af [48]]] U12 fun h _ _ e=>Uk U6<|D.call (DG _ _ n [48] e.m_ a) Z (.inr dc_) U6 (QI _) fl_ fun i _ j _ f=>C6 1 [2] d Z ?_;obtain ⟨b,rfl,rfl⟩:=f;refine Uv (UV Z Z ?_);exact ⟨b,Z,Z⟩
theorem kN {f:α->List Value}{x:α}(h:l[i]?=some x):(l.map f)[i]?=some (f x):=by rw [QD,h];rfl
def zI (s:Str):List Value:=[af s]
def aQ (q:Rat):List Value:=[af (qtx q)]
theorem xV (l:List Rat):l.map aQ=(l.map qtx).map zI:=by rw [RC];rfl
def JE {α:Type}(p:α->Bool):List α->Nat->Int
 | [],_=>-1
 | x::l,k=>if p x then (k:Nat) else JE p l (k+1)
theorem uw {a:Type}{p:a->Bool}:∀ {l:List a}{i k:Nat}{x:a},l[i]?=some x->p x=true->(∀ y∈l.take i,p y=false)->JE p l k=((k+i:Nat):Int)
 | y::l,0,k,x,h,b,_=>by
  simp only [List.getElem?_cons_zero,Rk] at h;subst h;simp [JE,b]
 | y::l,i+1,k,x,h,b,c=>by
  simp only [So] at h;have hy:p y=false:=c y al;have:=uw (k:=k+1) h b (fun z d=>c z (by simp [d]));simp only [JE,hy,Rz,R4,this];omega
theorem pI {a:Type}{p:a->Bool}:∀ {l:List a}{k:Nat},(∀ y∈l,p y=false)->JE p l k=-1
 | [],_,_=>rfl
 | y::l,k,h=>by
  simp only [JE,h y QC,Rz,R4];exact pI fun z b=>h z (QL _ b)
theorem DK (p:α->Bool)(l:List α):(JE p l 0=-1/\∀ y∈l,p y=false)∨∃ (i:Nat)(x:α),JE p l 0=(i:Nat)/\l[i]?=some x/\p x=true/\∀ y∈l.take i,p y=false:=by
 by_cases h:∀ y∈l,p y=false
 ·exact .inl ⟨pI h,h⟩
 right;have d:∀ (l:List α),(¬ ∀ y∈l,p y=false)->∃ (i:Nat)(x:α),l[i]?=some x/\p x=true/\∀ y∈l.take i,p y=false:=by
  intro l;induction l with
  | nil=>intro h;exact absurd (fun y hy=>(by cases hy)) h
  | cons a l e =>
   intro h;by_cases b:p a=true
   ·exact ⟨0,a,Z,b,by simp⟩
   have c:p a=false:=by simpa using b
   obtain ⟨i,x,h1,h2,h3⟩:=e (fun h2=>h (fun y hy=>by
    rcases QQ.1 hy with rfl | hy
    ·exact c
    exact h2 y hy))
   refine ⟨i+1,x,by simpa using h1,h2,fun y hy=>?_⟩;rw [List.take_succ_cons] at hy;rcases QQ.1 hy with rfl | hy
   ·exact c
   exact h3 y hy
 obtain ⟨i,x,h1,h2,h3⟩:=d l h;exact ⟨i,x,by rw [uw h1 h2 h3,RK],h1,h2,h3⟩
theorem F9 (C:Mem)(v:Value)(l:List Str)(g:Nat)(d:List Value)(a:Str->Bool)(e:Sl C 1 v (l.map zI))(_A:Jog.Enters cx.P g=true)
  (n:∀ x∈l,∀ D:Mem,C.le D->Gives cx.P g (af x::d) D (.bool (a x))) :
  Gives cx.P 91 [v,.func (.func g) #[] ⟨d⟩] C (.int .i64 (JE a l 0)):=by
 obtain ⟨o,c0,rfl,p,B,_⟩:=id e;have E:maxLen<=9223372036854775807:=by simp [maxLen]
 simp only [ar] at e p ⊢;refine Ur func91 19 U3 fun w0=>Uh 1 [0,1] Z<|Uh 3 [0,1,7,8] Z<|G.loop (fun fr F q r=>∃ (i:Nat),(i<=l.length/\∀ y∈l.take i,a y=false)/\fr=[(0,[],.slice o l.length c0),(1,[],.func (.func g) #[] ⟨d⟩),(7,[],.int .i64 l.length),(8,[],.int .i64 i)]/\q=[]/\r=l.length-i) (hn_ [0,1,7,8] Z) ⟨0,⟨QH _,by simp⟩,Z,Z,Z⟩ (fun fr H I m s t=>?_);obtain ⟨i,⟨J,b⟩,rfl,rfl,rfl⟩:=t;refine Uh 1 [0,1,7,8,9] Z<|G.cd (fun f=>?_) fun f=>?_
 ·have h:i<l.length:=by simpa using f
  obtain ⟨x,c⟩:∃ x,l[i]?=some x:=⟨l[i],aj h⟩;refine Uh 2 [0,1,5,7,8] Z<|Ui 3 Z fun R j=>Uy e.m_ U10 om_ (kN c) fl_ fun K u=>Uj u U8<|Ut (n x (aX c) _ mup) U7<|Un [0,1,5,7,8,16] j Z<|G.cd (fun k=>?_) fun k=>?_
  ·have w:a x=true:=k;exact Uh 2 [4] Z<|Up U2<|⟨by rw [uw c w b,RK],Z⟩
  have z:a x=false:=k;refine Ul fun R j=>Uq _ Z U6<|C6 1 [0,1,7,8] j Z<|Uw (m':=l.length-(i+1)) om_ s (hn_ [0,1,7,8] Z) ⟨i+1,⟨by omega,fun y hy=>by
   rw [Q4,c] at hy;rcases QS.1 hy with hy | hy
   ·exact b y hy
   simp only [R5,QY] at hy;subst hy;exact z⟩,Z,Z,Z⟩
 have h:i=l.length:=by
  have:¬ i<l.length:=by simpa using f
  omega
 exact Uh 1 [4] Z<|Up U2<|⟨by rw [h,QM] at b;rw [pI b],Z⟩
theorem Gf (C:Mem)(v:Value)(l:List Str)(g:Nat)(b:List Value)(a:Str->Bool)(c:Sl C 1 v (l.map zI))(d:Jog.Enters cx.P g=true)
  (e:∀ x∈l,∀ D:Mem,C.le D->Gives cx.P g (af x::b) D (.bool (a x))) :
  Gives cx.P 33 [v,.func (.func g) #[] ⟨b⟩] C (.bool (l.any a)):=by
 refine Ur func33 9 U3 fun w0=>Uh 1 [0,1] Z<|Ui 2 Z fun R f=>Ut (F9 _ v l g b a c.m_ d (fun x h D j=>e x h D (Mem.le.trans mup j))) U7<|C6 2 [4] f Z<|Up U2<|⟨?_,Z⟩;congr 1;rcases DK a l with ⟨h1,h2⟩ | ⟨i,x,h1,h2,h3,_⟩
 ·rw [h1,List.any_eq_false.2 (fun y hy=>by rw [h2 y hy];decide)];rfl
 rw [h1,Tz.2 ⟨x,aX h2,h3⟩];exact QV om_
theorem pD (C:Mem)(a:Tabs C)(s:Str)(b:s.length<=999998):Gives cx.P 102 [af s] C (.bool (!aW s)):=by
 refine Ur func102 6 U3 fun w0=>Uh 1 [0] Z<|Ui 1 Z fun R c=>Ut (dE _ a.m_ s b) U7<|C6 2 [2] c Z<|Up U2 ?_;exact ⟨by cases aW s <;> rfl,Z⟩
def jn (n:Int)(l:List Str):Int:=if (l.length:Int)=n then oC (l.all aW) else 5
theorem BM (C:Mem)(e:Tabs C)(v:Value)(n:Int)(l:List Str)(a:Sl C 1 v (l.map zI))(b:∀ s∈l,s.length<=999998):Gives cx.P 135 [v,.int .i64 n] C (.int .i64 (jn n l)):=by
 obtain ⟨o,c0,rfl,f,p,_⟩:=id a;have q:maxLen<=9223372036854775807:=by simp [maxLen]
 simp only [ar] at a f ⊢;refine Ur func135 13 U3 fun w0=>Uh 1 [0,1] Z<|Uh 5 [0,5] Z<|G.cd (fun h5=>?_) fun h5=>?_
 ·have g:¬ (l.length:Int)=n:=by simpa using h5
  exact Uh 1 [4] Z<|Up U2<|⟨by unfold jn;rw [aF g],Z⟩
 have d:(l.length:Int)=n:=by simpa using h5
 refine Ui 1 Z fun R h=>Ut (Gf _ _ l _ [] (fun s=>!aW s) a.m_ Z (fun s i D j=>pD D (e.mono (Mem.le.trans mup j)) s (b s i))) U7<|C6 1 [10] h Z<|G.cd (fun c=>?_) fun c=>?_
 ·have k:l.all aW=false:=by
   obtain ⟨s,h1,h2⟩:=Tz.1 (show (l.any fun s=>!aW s)=true from c);exact Tn.2 ⟨s,h1,by simpa using h2⟩
  exact Uh 1 [4] Z<|Up U2<|⟨by unfold jn;rw [aJ d,k];rfl,Z⟩
 have m:l.all aW=true:=by
  have h1:=List.any_eq_false.1 (show (l.any fun s=>!aW s)=false from c);exact QX.2 fun s b=>by simpa using h1 s b
 exact Uh 1 [4] Z<|Up U2<|⟨by unfold jn;rw [aJ d,m];rfl,Z⟩
end Go.Proofs.YtfjcldheldflbaaGreatDoor
