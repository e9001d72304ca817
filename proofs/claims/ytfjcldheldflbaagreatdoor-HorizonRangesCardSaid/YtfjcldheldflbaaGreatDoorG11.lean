/- Laws that the proofs of this seat share, part 11. -/
import Derived.Test.YtfjcldheldflbaaGreatDoorG10
import Derived.Test.YtfjcldheldflbaaGreatDoorShelf
import Derived.Test.YtfjcldheldflbaaGreatDoorCards
import Derived.Test.YtfjcldheldflbaaGreatDoorTie
import Derived.Stop.LaidErr
import Derived.Lib.LaidTab
import Derived.Carry
import Derived.Deep.Strs
import Derived.Laws.IdiomArrays
set_option maxHeartbeats 4000000
namespace Go.Proofs.YtfjcldheldflbaaGreatDoor
open Go.Proofs.Tryz
open Go Go.Jog
set_option maxRecDepth 100000
variable {i:Nat}{n:Int}{q:Rat}{s u x y:Str}{z:Int}
def FieldsIn (C:Mem)(v:Value)(ls:List (List Str)):Prop:=∃ vs:List Value,vs.length=ls.length/\(∀ (i:Nat)(w:Value)(l:List Str),vs[i]?=some w->ls[i]?=some l->Sl C 1 w (l.map kc))/\Sl C 1 v (vs.map fun w=>[w])
theorem FieldsIn.mono {C D:Mem}{v:Value}{a:List (List Str)}(h:FieldsIn C v a)(b:C.le D):FieldsIn D v a:=by
 obtain ⟨vs,h1,h2,h3⟩:=h;exact ⟨vs,h1,fun i w l h4 h5=>(h2 i w l h4 h5).mono b,h3.mono b⟩
theorem FieldsIn.m_ {C D:Mem}{v:Value}{a:List (List Str)}(h:FieldsIn C v a)(b:C.le D:=by exact mup):FieldsIn D v a:=FieldsIn.mono h b
def qY (s p:Nat)(l:List Str):Int:=if l.length=s*p then nX (l.all aS) else 5
def Ha (p:Nat)(l:List Str)(j:Nat):List Str:=(l.take ((j+1)*p)).drop (j*p)
def chunks (s p:Nat)(l:List Str):List (List Str):=(List.range s).map (Ha p l)
theorem LO {l:List Str}(h:l.all aS=true):l=(l.map da).map qtx:=by
 rw [QC];symm;have e:∀ s∈l,(qtx ∘ da) s=id s:=fun s hs=>(dw (PY.1 h s hs)).1.symm;rw [List.map_congr_left e,List.map_id]
theorem xe (C:Mem)(hT:Tabs C)(E v:Value)(B:Bk)(l:List Str)(hB:BookIn C E B)(F:BookZ C E B 0)(aa:bs B*bp B<=60)(f:Sl C 1 v (l.map kc))(hs:∀ x∈l,x.length<=999998)(_au:l.length<=100000) :
  Pur cx.P 81 [E,v] C fun u D=>∃ w,u=.tuple #[w,.int .i64 (qY (bs B) (bp B) l)]/\FieldsIn D w (if qY (bs B) (bp B) l=0 then chunks (bs B) (bp B) l else []):=by
 have av:=F.lc;have ax:=F.lp;have ay:bs B<=1000:=by unfold bs;omega
 have az:bp B<=400:=by unfold bp;omega
 obtain ⟨v1,v2,tv,cv,ov,rfl,h1,h2,h3,h4,h5⟩:=id hB.ex;obtain ⟨c,c0,rfl,ab,aA,_⟩:=id f;have aB:maxLen<=9223372036854775807:=by simp [maxLen]
 simp only [al] at f ab ⊢;refine Tr func81 60 U3 fun w0=>Tl fun R a=>TC U6 fun b2=>C6 2 [1,2] a Z<|Tl fun R a=>To ag U9<|Tt (Oh _ _ B F.m_ aa) U7<|Tm 3 Z<|TB U5 fun N=>Ts (j:=0) U12<|C6 1 [1,6,7] a Z<|Th 2 [1,6,7,19] Z<|G.cd (fun O=>?_) fun O=>?_
 ·exact absurd O dc_
 refine G.freeze 0 Z fun _ _ g=>Ti 2 Z fun R a=>Tj (bkT g 2) U8<|Tw (iJ _ (bs B) (bp B) om_) U7 fl_<|C6 1 [1,6,25] a Z<|G.cd (fun k=>?_) fun k=>?_
 ·have ac:l.length≠bs B*bp B:=by
   intro e;rw [e] at k;simp at k
  have b:qY (bs B) (bp B) l=5:=by unfold qY;rw [aG ac]
  refine Th 2 [4,5] Z<|Tu (G.dropAll (TM U3 ?_));exact ⟨Z,.slice none 0 0,by rw [b],by rw [b];exact ⟨[],Z,fun i w l h1 _=>by simp at h1,Sl.nil _ _⟩⟩
 have Q:l.length=bs B*bp B:=by
  have h:((l.length:Nat):Int)=((bs B*bp B:Nat):Int):=by simpa using k
  omega
 refine Th 3 [1,6,26,27,28] Z<|G.dropAll<|G.loop (fun fr S n H=>∃ (i:Nat),(i<=l.length/\(l.take i).all aS=true)/\fr=[(1,[],.slice c l.length c0),(6,[],.pointer (some ⟨N,0,none⟩)),(26,[],.slice c l.length c0),(27,[],.int .i64 l.length),(28,[],.int .i64 i)]/\n=[]/\H=l.length-i) (hn_ [1,6,26,27,28] Z) ⟨0,⟨PL _,by simp⟩,Z,Z,Z⟩ (fun fr aC aD m ad I=>?_);obtain ⟨i,⟨o,p⟩,rfl,rfl,rfl⟩:=I;refine Th 1 [1,6,26,27,28,29] Z<|G.cd (fun J=>?_) fun J=>?_
 ·have K:i<l.length:=by
   have:=aY J;omega
  obtain ⟨s,t⟩:∃ s,l[i]?=some s:=⟨l[i],aj K⟩;refine Tl fun R a=>Ty f.m_ U10 om_ (co t) fl_ fun aE ae=>Tj ae U8<|C6 1 [1,6,9,26,27,28] a Z<|Ti 1 Z fun R a=>Tt (dD _ hT.m_ s (hs s (O0 t))) U7<|C6 1 [1,6,10,26,27,28] a Z<|Th 2 [1,6,10,26,27,28,35] Z<|G.cd (fun d=>?_) fun d=>?_
  ·have T:aS s=false:=by
    rcases eZ (aS s) with ⟨h1,h2⟩ | ⟨h1,h2⟩
    ·rw [h1] at d;exact absurd d dc_
    exact h2
   have b:qY (bs B) (bp B) l=2:=by
    unfold qY;rw [aK Q,show l.all aS=false from Sa.2 ⟨s,O0 t,by rw [T];decide⟩];rfl
   refine Th 3 [4,5] Z<|Tu (G.dropAll (TM U3 ?_));exact ⟨Z,.slice none 0 0,by rw [b,T];rfl,by rw [b];exact ⟨[],Z,fun i w l h1 _=>by simp at h1,Sl.nil _ _⟩⟩
  have af:aS s=true:=by
   rcases eZ (aS s) with ⟨h1,h2⟩ | ⟨h1,h2⟩
   ·exact h2
   rw [h1] at d;exact absurd d dc_
  refine Tl fun R a=>Tq _ Z U6<|C6 1 [1,6,26,27,28] a Z<|Tv (m':=l.length-(i+1)) om_ ad (hn_ [1,6,26,27,28] Z) ⟨i+1,⟨by omega,by rw [P6,t,S7,p];simp [af]⟩,Z,Z,Z⟩
 have K:i=l.length:=by
  have:=PJ J;omega
 subst K;rw [PT] at p;have b:qY (bs B) (bp B) l=0:=by unfold qY;rw [aK Q,p];rfl
 have ah:=LO p;refine Th 1 [1,6,11] Z<|Ti 1 Z fun R a=>Tj (bkT g 1) U8<|C6 1 [1,6,11,39,40] a Z<|G.nilArr 41 1<|G.loop (fun fr S n H=>∃ (j:Nat)(vs:List Value)(w:Value),(j<=bs B/\vs.length=j/\(∀ (i:Nat)(w:Value),vs[i]?=some w->Sl S 1 w ((Ha (bp B) l i).map kc)))/\fr=[(1,[],.slice c l.length c0),(6,[],.pointer (some ⟨N,0,none⟩)),(11,[],w),(39,[],.int .i64 (bs B:Nat)),(40,[],.int .i64 j)]/\n=[.arr w 41 1 vs.length (vs.map fun w=>[w]).flatten]/\H=bs B-j) (hn_ [1,6,11,39,40] Z) ⟨0,[],_,⟨PL _,Z,fun i w h=>by simp at h⟩,Z,Z,Z⟩ (fun fr aF aH m _ I=>?_);obtain ⟨j,vs,w,⟨hj,U,V⟩,rfl,rfl,rfl⟩:=I;refine Th 1 [1,6,11,39,40,41] Z<|G.cd (fun L=>?_) fun L=>?_
 ·have M:j<bs B:=by
   have:=aY L;omega
  have aI:(j+1)*bp B<=bs B*bp B:=Qt _ M;have aL:(j+1)*bp B=j*bp B+bp B:=Nat.succ_mul _ _;have ai:=Sl.sub f (l:=j*bp B) (h:=(j+1)*bp B) (m:=c0) om_ ap om_ (PE _);have W:Ha (bp B) l j=(((l.map da).take ((j+1)*bp B)).drop (j*bp B)).map qtx:=by
   unfold Ha
   conv=>lhs;rw [ah]
   rw [List.map_drop,RW]
  have ak:Sl C 1 (.slice (if c0=j*bp B then c else c.map (·.add (j*bp B*1))) ((j+1)*bp B-j*bp B) (c0-j*bp B)) ((((l.map da).take ((j+1)*bp B)).drop (j*bp B)).map ec):=by
   rw [jg,<- W];unfold Ha;rw [List.map_drop,RW];exact ai
  refine Th 2 [1,6,11,12,39,40] Z<|TH [(12,3)] Z fun R a=>Tm 4 Z<|Tj (bkT g 1) U8<|Tq (((j*bp B:Nat):Int)) (Qa _ _) U6<|Tk U6<|TS (((j+1:Nat):Int)) U4 om_ om_ om_ U2<|Tk U6<|Tj (bkT g 1) U8<|Tq ((((j+1)*bp B:Nat):Int)) (Qa _ _) U6<|Um (j*bp B) ((j+1)*bp B) c0 U12 (fun _=>⟨.inr ⟨_,Z⟩,.inr ⟨_,Z⟩,.inl ⟨Z,Z⟩,by omega,by omega,by omega⟩) U2<|D.call (G8 _ _ _ ak.m_ ap) Z (.inr dc_) U6 (PI _) fl_ (fun aM _ aN _ an=>?_);obtain ⟨z,A,cc,rfl,rfl⟩:=an;refine TF [[.slice z A cc]] U12 fun aO _ _ ao=>D.append (j:=1) U11 ao Z aw (by simp only [PD];omega) fl_ fun X=>C6 1 [1,6,11,39,40] a Z<|Tl fun R a=>Tq _ Z U6<|C6 1 [1,6,11,39,40] a Z<|G.freezeArr 1 ((((l.map da).take ((j+1)*bp B)).drop (j*bp B)).map ec) rfl rfl (by intro r hr;obtain ⟨y,_,rfl⟩:=PK.1 hr;rfl) (by rw [al]) (fun Cz b Y=>?_);rw [jg,<- W] at Y;refine Tz (L':=[.arr X 41 1 (vs++[Value.slice z A cc]).length ((vs++[Value.slice z A cc]).map fun w=>[w]).flatten]) am<|Tv (m':=bs B-(j+1)) om_ mup (hn_ [1,6,11,39,40] Z) ⟨j+1,vs++[.slice z A cc],X,⟨by omega,by simp [U],fun i w h=>by
   rcases P8 i vs.length with h1 | h1
   ·rw [Qm h1] at h;exact (V i w h).mono mup
   rw [P4 h1] at h;cases o:i-vs.length with
   | zero =>
    rw [o] at h;simp at h;subst h;rw [show i=j by omega];exact Y
   | succ q=>rw [o] at h;simp at h⟩,rfl,rfl,rfl⟩
 have M:j=bs B:=by
  have:=PJ L;omega
 have aq:(chunks (bs B) (bp B) l).length=bs B:=by simp [chunks]
 refine Th 3 [4,5] Z<|G.freezeArr 0 (vs.map fun w=>[w]) rfl rfl (by intro r hr;obtain ⟨y,_,rfl⟩:=PK.1 hr;rfl) (by rw [al]) fun Cg hg ar=>Tu (G.dropAll (TM U3 ?_));refine ⟨Z,_,by rw [b], ?_⟩;rw [aK b];refine ⟨vs,by rw [aq,U,M],fun i w l2 h1 h2=>?_,ar⟩;unfold chunks at h2;rw [PH] at h2;have o:=(aJ.1 h1).1;rw [Qi om_] at h2;simp only [Ra,Qh] at h2;subst h2;exact (V i w h1).mono mup
def dotV (f x:List Rat):Nat->Rat
 | 0=>0
 | n+1=>dotV f x n+f.getD n 0*x.getD n 0
structure DotOk (r:RowQ)(x:List Rat):Prop where
 f:∀ q∈r.f,QB 22 q
 b:QB 22 r.b
 len:r.f.length=x.length
 s:∀ n,QB 2000 (dotV r.f x n)
def sqP:List (Int × Int):=[(0,0),(4,0),(4,4),(0,4)]
def shP:Nat->List (Int × Int)
 | 0=>sqP
 | 1=>sqP
 | 2=>sqP++[(2,1)]
 | 3=>[(0,0),(6,0),(0,4)]
 | 4=>[(0,0),(2,0),(4,0),(0,2),(2,2),(4,2)]
 | 5=>[(1,4),(5,3),(4,0),(0,0)]
 | 6=>sqP++[(2,0)]
 | _=>[(0,0),(6,0),(0,6),(2,2)]
def shT:Nat->List Tri
 | 0=>[(0,1,2),(0,2,3)]
 | 1=>[(0,1,3),(1,2,3)]
 | 2=>[(0,1,4),(1,2,4),(2,3,4),(3,0,4)]
 | 3=>[(2,0,1)]
 | 4=>[(0,1,4),(0,4,3),(1,2,5),(1,5,4)]
 | 5=>[(3,2,1),(3,1,0)]
 | 6=>[(0,4,3),(4,2,3),(4,1,2)]
 | _=>[(0,1,3),(1,2,3),(2,0,3)]
def Pq (p:Int × Int):List Value:=[.int .i64 p.1,.int .i64 p.2]
def ShIn (u:Value)(D:Mem)(m:Nat):Prop:=∃ pv tv,u=.tuple #[pv,tv]/\Sl D 2 pv ((shP m).map Pq)/\Sl D 3 tv ((shT m).map fU)
theorem CH (C:Mem)(a:Nat)(_H:a<256):Pur cx.P 115 [.int .u8 a] C fun u D=>ShIn u D (a % 8):=by
 have I:a % 8<8:=Qj _ dc_;obtain ⟨m,hm⟩:∃ m,a % 8=m:=⟨_,rfl⟩;refine Tr func115 86 U3 fun w0=>Th 2 [0] Z<|Tl fun R b=>TA ([.int .i64 0,.int .i64 0]) U8<|TA ([.int .i64 4,.int .i64 0]) U8<|TA ([.int .i64 4,.int .i64 4]) U8<|TA ([.int .i64 0,.int .i64 4]) U8<|Ug [[.int .i64 0,.int .i64 0],[.int .i64 4,.int .i64 0],[.int .i64 4,.int .i64 4],[.int .i64 0,.int .i64 4]] U12 fl_ fun J _ _ d=>C6 1 [0,4] b Z<|Ti 1 Z fun R b=>Uj (a) (8) U6 om_ U2<|Tn [4,11] b Z<|Th 2 [4,11,12] Z<|G.cd (fun f=>?_) fun f=>?_
 ·have c:a % 8=0:=by
   have:=dP f;omega
  refine Ti 1 Z fun R b=>TA ([.int .i64 0,.int .i64 1,.int .i64 2]) U8<|TA ([.int .i64 0,.int .i64 2,.int .i64 3]) U8<|TF [[.int .i64 0,.int .i64 1,.int .i64 2],[.int .i64 0,.int .i64 2,.int .i64 3]] U12 fun K _ _ n=>C6 2 [2,3] b Z<|Tu (G.dropAll (TM U3 ?_));exact ⟨Z,by rw [c];exact ⟨_,_,Z,d.mono mup,n.mono mup⟩⟩
 have L:a % 8≠0:=by
  intro e;rw [e] at f;exact absurd f dc_
 refine Th 2 [4,11,18] Z<|G.cd (fun g=>?_) fun g=>?_
 ·have c:a % 8=1:=by
   have:=dP g;omega
  refine Ti 1 Z fun R b=>TA ([.int .i64 0,.int .i64 1,.int .i64 3]) U8<|TA ([.int .i64 1,.int .i64 2,.int .i64 3]) U8<|TF [[.int .i64 0,.int .i64 1,.int .i64 3],[.int .i64 1,.int .i64 2,.int .i64 3]] U12 fun M _ _ o=>C6 2 [2,3] b Z<|Tu (G.dropAll (TM U3 ?_));exact ⟨Z,by rw [c];exact ⟨_,_,Z,d.mono mup,o.mono mup⟩⟩
 have N:a % 8≠1:=by
  intro e;rw [e] at g;exact absurd g dc_
 refine Th 2 [4,11,24] Z<|G.cd (fun h=>?_) fun h=>?_
 ·have c:a % 8=2:=by
   have:=dP h;omega
  refine Ti 1 Z fun R b=>TA ([.int .i64 2,.int .i64 1]) U8<|TF [[.int .i64 2,.int .i64 1]] U12 fun O _ _ p=>Vp Z Z Z Z Z Z Z Z Z Z d.m_ p.m_ (.inr dc_) (by simp only [PW,Qf,maxLen];omega) dc_ fl_ fun Q _ _ q=>TA ([.int .i64 0,.int .i64 1,.int .i64 4]) U8<|TA ([.int .i64 1,.int .i64 2,.int .i64 4]) U8<|TA ([.int .i64 2,.int .i64 3,.int .i64 4]) U8<|TA ([.int .i64 3,.int .i64 0,.int .i64 4]) U8<|TF [[.int .i64 0,.int .i64 1,.int .i64 4],[.int .i64 1,.int .i64 2,.int .i64 4],[.int .i64 2,.int .i64 3,.int .i64 4],[.int .i64 3,.int .i64 0,.int .i64 4]] U12 fun S _ _ r=>C6 2 [2,3] b Z<|Tu (G.dropAll (TM U3 ?_));exact ⟨Z,by rw [c];exact ⟨_,_,Z,q.mono mup,r.mono mup⟩⟩
 have T:a % 8≠2:=by
  intro e;rw [e] at h;exact absurd h dc_
 refine Th 2 [4,11,35] Z<|G.cd (fun i=>?_) fun i=>?_
 ·have c:a % 8=3:=by
   have:=dP i;omega
  refine Tl fun R b=>TA ([.int .i64 0,.int .i64 0]) U8<|TA ([.int .i64 6,.int .i64 0]) U8<|TA ([.int .i64 0,.int .i64 4]) U8<|TF [[.int .i64 0,.int .i64 0],[.int .i64 6,.int .i64 0],[.int .i64 0,.int .i64 4]] U12 fun U _ _ s=>TA ([.int .i64 2,.int .i64 0,.int .i64 1]) U8<|TF [[.int .i64 2,.int .i64 0,.int .i64 1]] U12 fun V _ _ t=>C6 2 [2,3] b Z<|Tu (G.dropAll (TM U3 ?_));exact ⟨Z,by rw [c];exact ⟨_,_,Z,s.mono mup,t.mono mup⟩⟩
 have W:a % 8≠3:=by
  intro e;rw [e] at i;exact absurd i dc_
 refine Th 2 [4,11,43] Z<|G.cd (fun j=>?_) fun j=>?_
 ·have c:a % 8=4:=by
   have:=dP j;omega
  refine Tl fun R b=>TA ([.int .i64 0,.int .i64 0]) U8<|TA ([.int .i64 2,.int .i64 0]) U8<|TA ([.int .i64 4,.int .i64 0]) U8<|TA ([.int .i64 0,.int .i64 2]) U8<|TA ([.int .i64 2,.int .i64 2]) U8<|TA ([.int .i64 4,.int .i64 2]) U8<|TF [[.int .i64 0,.int .i64 0],[.int .i64 2,.int .i64 0],[.int .i64 4,.int .i64 0],[.int .i64 0,.int .i64 2],[.int .i64 2,.int .i64 2],[.int .i64 4,.int .i64 2]] U12 fun X _ _ v=>TA ([.int .i64 0,.int .i64 1,.int .i64 4]) U8<|TA ([.int .i64 0,.int .i64 4,.int .i64 3]) U8<|TA ([.int .i64 1,.int .i64 2,.int .i64 5]) U8<|TA ([.int .i64 1,.int .i64 5,.int .i64 4]) U8<|TF [[.int .i64 0,.int .i64 1,.int .i64 4],[.int .i64 0,.int .i64 4,.int .i64 3],[.int .i64 1,.int .i64 2,.int .i64 5],[.int .i64 1,.int .i64 5,.int .i64 4]] U12 fun Y _ _ w=>C6 2 [2,3] b Z<|Tu (G.dropAll (TM U3 ?_));exact ⟨Z,by rw [c];exact ⟨_,_,Z,v.mono mup,w.mono mup⟩⟩
 have aa:a % 8≠4:=by
  intro e;rw [e] at j;exact absurd j dc_
 refine Th 2 [4,11,57] Z<|G.cd (fun k=>?_) fun k=>?_
 ·have c:a % 8=5:=by
   have:=dP k;omega
  refine Tl fun R b=>TA ([.int .i64 1,.int .i64 4]) U8<|TA ([.int .i64 5,.int .i64 3]) U8<|TA ([.int .i64 4,.int .i64 0]) U8<|TA ([.int .i64 0,.int .i64 0]) U8<|TF [[.int .i64 1,.int .i64 4],[.int .i64 5,.int .i64 3],[.int .i64 4,.int .i64 0],[.int .i64 0,.int .i64 0]] U12 fun ab _ _ x=>TA ([.int .i64 3,.int .i64 2,.int .i64 1]) U8<|TA ([.int .i64 3,.int .i64 1,.int .i64 0]) U8<|TF [[.int .i64 3,.int .i64 2,.int .i64 1],[.int .i64 3,.int .i64 1,.int .i64 0]] U12 fun ac _ _ y=>C6 2 [2,3] b Z<|Tu (G.dropAll (TM U3 ?_));exact ⟨Z,by rw [c];exact ⟨_,_,Z,x.mono mup,y.mono mup⟩⟩
 have ad:a % 8≠5:=by
  intro e;rw [e] at k;exact absurd k dc_
 refine Th 2 [4,67] Z<|G.cd (fun l=>?_) fun l=>?_
 ·have c:a % 8=6:=by
   have:=dP l;omega
  refine Ti 1 Z fun R b=>TA ([.int .i64 2,.int .i64 0]) U8<|TF [[.int .i64 2,.int .i64 0]] U12 fun ae _ _ z=>Vp Z Z Z Z Z Z Z Z Z Z d.m_ z.m_ (.inr dc_) (by simp only [PW,Qf,maxLen];omega) dc_ fl_ fun af _ _ A=>TA ([.int .i64 0,.int .i64 4,.int .i64 3]) U8<|TA ([.int .i64 4,.int .i64 2,.int .i64 3]) U8<|TA ([.int .i64 4,.int .i64 1,.int .i64 2]) U8<|TF [[.int .i64 0,.int .i64 4,.int .i64 3],[.int .i64 4,.int .i64 2,.int .i64 3],[.int .i64 4,.int .i64 1,.int .i64 2]] U12 fun ag _ _ B=>C6 2 [2,3] b Z<|Tu (G.dropAll (TM U3 ?_));exact ⟨Z,by rw [c];exact ⟨_,_,Z,A.mono mup,B.mono mup⟩⟩
 have ah:a % 8≠6:=by
  intro e;rw [e] at l;exact absurd l dc_
 refine Tl fun R b=>TA ([.int .i64 0,.int .i64 0]) U8<|TA ([.int .i64 6,.int .i64 0]) U8<|TA ([.int .i64 0,.int .i64 6]) U8<|TA ([.int .i64 2,.int .i64 2]) U8<|TF [[.int .i64 0,.int .i64 0],[.int .i64 6,.int .i64 0],[.int .i64 0,.int .i64 6],[.int .i64 2,.int .i64 2]] U12 fun ai _ _ E=>TA ([.int .i64 0,.int .i64 1,.int .i64 3]) U8<|TA ([.int .i64 1,.int .i64 2,.int .i64 3]) U8<|TA ([.int .i64 2,.int .i64 0,.int .i64 3]) U8<|TF [[.int .i64 0,.int .i64 1,.int .i64 3],[.int .i64 1,.int .i64 2,.int .i64 3],[.int .i64 2,.int .i64 0,.int .i64 3]] U12 fun aj _ _ F=>C6 2 [2,3] b Z<|Tu (G.dropAll (TM U3 ?_));exact ⟨Z,by rw [show a % 8=7 by omega];exact ⟨_,_,Z,E.mono mup,F.mono mup⟩⟩
theorem D7 (a:-128<=n)(b:n<128):IntKind.i8.wrap n=n:=by
 simp [IntKind.wrap,IntKind.bits,IntKind.signed];omega
theorem Ko:∀ m:Nat,∀ p∈shP m,0<=p.1/\p.1<=6/\0<=p.2/\p.2<=6
 | 0=>by decide
 | 1=>by decide
 | 2=>by decide
 | 3=>by decide
 | 4=>by decide
 | 5=>by decide
 | 6=>by decide
 | _+7=>by
  show ∀ p∈([(0,0),(6,0),(0,6),(2,2)]:List (Int × Int)),0<=p.1/\p.1<=6/\0<=p.2/\p.2<=6;decide
theorem EJ:∀ m:Nat,(shP m).length<=6
 | 0=>by decide
 | 1=>by decide
 | 2=>by decide
 | 3=>by decide
 | 4=>by decide
 | 5=>by decide
 | 6=>by decide
 | _+7=>by
  show ([(0,0),(6,0),(0,6),(2,2)]:List (Int × Int)).length<=6;decide
def cC (m:Nat)(a b:Int)(h:Bool):List Pt:=(shP m).map fun p=>dG a b h p.1 p.2 1
theorem jF (m:Nat)(a b:Int)(h:Bool):(cC m a b h).length<=6:=by rw [cC,al];exact EJ m
theorem pZ {w:Int}(c:w≠0)(a:z.natAbs<1000000000)(b:w.natAbs<1000000000):QB 1 (kQ z w):=by
 unfold kQ;refine gW om_ ?_ ?_
 ·show _<B9 ^ 1;split
  ·rw [SG];exact a
  exact a
 exact b
theorem Bd {a b:Int}{h:Bool}{x y:Int}(g:0<n)(i:n<=4)(j:-128<=x/\x<=127)(k:-128<=y/\y<=127):QP 1 (dG a b h x y n):=by
 have c:=xZ a;have d:=xZ b;have hh:dQ h=1∨dQ h=2:=by cases h <;> simp [dQ]
 have f:∀ z:Int, -8<z->z<8->-32<z*n/\z*n<32:=fun z h1 h2=>by
  rcases (by omega:n=1∨n=2∨n=3∨n=4) with e | e | e | e <;> subst e <;> omega
 have l:=f _ c.1 c.2;have m:=f _ d.1 d.2;have o:0<dQ h*n/\dQ h*n<=8:=by rcases hh with e | e <;> rw [e] <;> omega
 exact ⟨pZ om_ om_ om_,pZ om_ om_ om_⟩
theorem wE (C:Mem)(E:Tabs C)(d:Nat)(a b:Int)(h:Bool)(F:d<256):Pur cx.P 57 [Kn d a b h] C fun u D=>MeshIn D u (cC (d % 8) a b h) (shT (d % 8)):=by
 have H:=Ko (d % 8);have ac:=EJ (d % 8);refine Tr func57 42 U3 fun w0=>Tl fun R e=>TC U6 fun I=>TB U5 fun f=>Tn [1,2] e Z<|G.freeze 1 Z fun _ _ v=>Ti 1 Z fun R e=>Tj (bkT v 1) U8<|TT (CH _ d F) U7 (fun ad _ _ J=>?_);obtain ⟨pv,tv,rfl,g,o⟩:=J;obtain ⟨K,L,rfl,M,ae,_⟩:=id g;obtain ⟨At,k,rfl,af,ah,_⟩:=id o;simp only [al] at g o M ⊢;refine C6 5 [1,2,3,4] e Z<|Ti 1 Z fun R e=>TA [.slice none 0 0,.slice At (shT (d % 8)).length k] U8<|TB U5 fun l=>Ts (j:=0) U12<|Tn [1,2,3,5] e Z<|Th 1 [1,2,3,5,6] Z<|G.nilArr 34 2<|G.perm (L':=[.obj l (.cells ⟨[.slice none 0 0,.slice At (shT (d % 8)).length k]⟩ 39 (0,0)),.arr (.slice none 0 0) 34 2 0 [],.obj f (.cells ⟨[.slice none 0 0,.slice none 0 0]⟩ 39 (0,0))]) (List.Perm.swap _ _ _)<|G.loop (fun fr C' q N=>∃ (i:Nat)(w:Value),(i<=(shP (d % 8)).length)/\fr=[(1,[],.pointer (some ⟨I,0,none⟩)),(2,[],.pointer (some ⟨f,0,none⟩)),(3,[],.slice K (shP (d % 8)).length L),(5,[],.pointer (some ⟨l,0,none⟩)),(6,[],.int .i64 i)]/\q=[.obj l (.cells ⟨[w,.slice At (shT (d % 8)).length k]⟩ 39 (0,0)),.arr w 34 2 ((cC (d % 8) a b h).take i).length (((cC (d % 8) a b h).take i).map gi).flatten,.obj f (.cells ⟨[.slice none 0 0,.slice none 0 0]⟩ 39 (0,0))]/\N=(shP (d % 8)).length-i) (hn_ [1,2,3,5,6] Z) ⟨0,.slice none 0 0,PL _,Z,Z,Z⟩ (fun fr ai ak m _ O=>?_);obtain ⟨i,w,hi,rfl,rfl,rfl⟩:=O;refine Th 4 [1,2,3,5,6,18] Z<|G.cd (fun s=>?_) fun s=>?_
 ·have t:i<(shP (d % 8)).length:=by
   have:=aY s;omega
  obtain ⟨p,n⟩:∃ p,(shP (d % 8))[i]?=some p:=⟨(shP (d % 8))[i],aj t⟩;obtain ⟨am,an,ao,ap⟩:=H p (O0 n);have Q:(cC (d % 8) a b h)[i]?=some (dG a b h p.1 p.2 1):=by unfold cC;rw [PH,n];rfl
  have S:(cC (d % 8) a b h).take (i+1)=(cC (d % 8) a b h).take i++[dG a b h p.1 p.2 1]:=by rw [P6,Q];rfl
  have aq:((cC (d % 8) a b h).take i).length<=6:=by rw [PS];have:=jF (d % 8) a b h;omega
  refine TD [0,1,2,3,4,5,6,7,8,9,10,11,12,13,14,15,16,17,18,19,20] [(16,1),(8,0),(14,0)] Z kr_ fun R hB e=>Tk U6<|To ag U9<|Tj (bkT v 4) U8<|Tm 2 Z<|Ty g.m_ U10 om_ (co n) fl_ fun ar T=>UU U9 (fun _=>T) (fun _=>⟨by omega,om_⟩) fl_ Z (fun au U=>?_);have V:=U trivial;refine Tj V U8<|Us (c:=p.1) U8 (D7 om_ om_) U2<|Tm 2 Z<|Ty g.m_ U10 om_ (co n) fl_ fun av W=>UU U9 (fun _=>W) (fun _=>⟨by omega,om_⟩) fl_ Z (fun ax X=>?_);have Y:=X trivial;refine Tj Y U8<|Us (c:=p.2) U8 (D7 om_ om_) U2<|TA [.int .i8 p.1,.int .i8 p.2] U8<|TG (fun _=>(Be _ E.m_ d a b h p.1 p.2 1 dc_ dc_ ⟨by omega,by omega⟩ ⟨by omega,by omega⟩)) U9<|TF [gi (dG a b h p.1 p.2 1)] U12 fun ay _ _ aa=>TR (j:=1) U11 aa.m_ Z aw (by simp only [PD];omega) fl_ fun x z A=>Tk U6<|Ts (j:=1) U12<|Tn [1,2,3,5,6] e Z<|Ti 1 Z fun R e=>Tq _ Z U6<|C6 1 [1,2,3,5,6] e Z<|Tz (L':=[.obj l (.cells ⟨[.slice x z A,.slice At (shT (d % 8)).length k]⟩ 39 (0,0)),.arr (.slice x z A) 34 2 ((cC (d % 8) a b h).take (i+1)).length (((cC (d % 8) a b h).take (i+1)).map gi).flatten,.obj f (.cells ⟨[.slice none 0 0,.slice none 0 0]⟩ 39 (0,0))]) (by rw [S,Qg,Ql,PM];rfl)<|Tv (m':=(shP (d % 8)).length-(i+1)) om_ mup (hn_ [1,2,3,5,6] Z) ⟨i+1,_,om_,Z,Z,Z⟩
 have t:i=(shP (d % 8)).length:=by
  have:=PJ s;omega
 have ab:(cC (d % 8) a b h).take i=cC (d % 8) a b h:=Qk (by rw [t,cC,al];exact PE _);rw [ab];refine G.freezeArr 1 ((cC (d % 8) a b h).map gi) rfl rfl (by intro r hr;obtain ⟨y,_,rfl⟩:=PK.1 hr;rfl) (by rw [al]) (fun Cg hg B=>?_);obtain ⟨Aw,cw,rfl,_⟩:=id B;refine Tl fun R e=>To ag U9<|Ts (j:=1) U12<|Tn [2] e Z<|Tu (Uc ag U4 ?_);exact ⟨Z,_,_,Z,B,o.mono mup⟩
structure Hts where
 h0:Int
 h1:Int
 h2:Int
 h3:Int
 h4:Int
 h5:Int
 half:Bool
def HH (H:Hts):List Int:=[H.h0,H.h1,H.h2,H.h3,H.h4,H.h5]
def Ou (H:Hts):List Value:=[.int .i8 H.h0,.int .i8 H.h1,.int .i8 H.h2,.int .i8 H.h3,.int .i8 H.h4,.int .i8 H.h5,.bool H.half]
def OZ (H:Hts):Prop:=∀ z∈HH H, -128<=z/\z<=127
def fsK (n:Nat)(H:Hts):List Rat:=(List.range n).map fun i=>kQ (((HH H).getD (i % 6) 0).tmod 20) (dQ H.half)
theorem Em (a:Int):-20<a.tmod 20/\a.tmod 20<20:=by
 have h:(a.tmod 20).natAbs=a.natAbs % 20:=Sk a 20;omega
theorem uk (h:Bool):dQ h=1∨dQ h=2:=by cases h <;> simp [dQ]
theorem uq (n:Nat)(H:Hts):(fsK n H).length=n:=by simp [fsK]
theorem Gx (n:Nat)(H:Hts):∀ q∈fsK n H,QB 1 q:=by
 intro q a;unfold fsK at a;obtain ⟨i,_,rfl⟩:=PK.1 a;have h1:=Em ((HH H).getD (i % 6) 0);have h2:=uk H.half;exact pZ om_ om_ om_
theorem MB (H:Hts)(j:Nat)(a:j<6):((Ou H).drop j).take 1=[.int .i8 ((HH H).getD j 0)]:=by
 rcases (by omega:j=0∨j=1∨j=2∨j=3∨j=4∨j=5) with rfl | rfl | rfl | rfl | rfl | rfl <;> rfl
theorem iW (C:Mem)(B:Tabs C)(o E:Value)(n:Nat)(F:Option Addr)(I:Nat)(H:Hts)(J:o=.slice F n I)(T:n<=400)(K:OZ H):Pur cx.P 30 [.agg ⟨[o,E]⟩,.agg ⟨Ou H⟩] C fun u D=>Sl D 1 u ((fsK n H).map ec):=by
 subst J;obtain ⟨h0,h1,h2,h3,h4,h5,a⟩:=H;have U:maxLen<=9223372036854775807:=by simp [maxLen]
 refine Tr func30 31 U3 fun w0=>Tl fun R b=>TC U6 fun p=>TC U6 fun q=>C6 1 [2,3] b Z<|G.freeze 1 Z fun _ _ L=>G.freeze 0 Z fun _ _ s=>Tl fun R b=>Uu [] U12 fl_ fun t=>C6 1 [2,3,5] b Z<|Th 1 [2,3,5,6] Z<|Ti 1 Z fun R b=>Tj (bkT s 1) U8<|Tn [2,3,5,6,10] b Z<|G.cut (fun fr M d e=>(True)/\fr=[(2,[],.pointer (some ⟨p,0,none⟩)),(3,[],.pointer (some ⟨q,0,none⟩)),(5,[],.slice (some ⟨t,0,none⟩) 0 0),(6,[],.int .i64 (dQ a))]/\d=[.arr (.slice (some ⟨t,0,none⟩) 0 0) 32 1 0 []]) ?_ (fun fr _ V e _ f=>?_)
 ·refine G.cd (fun g=>?_) fun g=>?_
  ·have h1:a=true:=g;subst h1;refine Th 1 [2,3,5,6] Z<|Tx 0 (Mem.le.refl _) (hn_ [2,3,5,6] Z) ⟨trivial,Z,Z⟩
  have h1:a=false:=g;subst h1;refine Tx 0 (Mem.le.refl _) (hn_ [2,3,5,6] Z) ⟨trivial,Z,Z⟩
 obtain ⟨_,rfl,rfl⟩:=f;refine Th 1 [2,3,5,6,7] Z<|G.loop (fun fr M d e=>∃ (i:Nat)(w:Value),(i<=n)/\fr=[(2,[],.pointer (some ⟨p,0,none⟩)),(3,[],.pointer (some ⟨q,0,none⟩)),(5,[],w),(6,[],.int .i64 (dQ a)),(7,[],.int .i64 i)]/\d=[.arr w 32 1 ((fsK n ⟨h0,h1,h2,h3,h4,h5,a⟩).take i).length (((fsK n ⟨h0,h1,h2,h3,h4,h5,a⟩).take i).map ec).flatten]/\e=n-i) (hn_ [2,3,5,6,7] Z) ⟨0,_,PL _,Z,Z,Z⟩ (fun fr W X m _ f=>?_);obtain ⟨i,w,Y,rfl,rfl,rfl⟩:=f;refine Ti 2 Z fun R b=>Tj (bkT L 1) U8<|C6 2 [2,3,5,6,7,15] b Z<|G.cd (fun h=>?_) fun h=>?_
 ·have k:i<n:=by
   have:=aY h;omega
  have v:i % 6<6:=Qj _ dc_;obtain ⟨z,l⟩:∃ z,(HH ⟨h0,h1,h2,h3,h4,h5,a⟩).getD (i % 6) 0=z:=⟨_,rfl⟩;have x:=MB ⟨h0,h1,h2,h3,h4,h5,a⟩ (i % 6) v;rw [l] at x;have N:z∈HH ⟨h0,h1,h2,h3,h4,h5,a⟩:=by
   rw [<- l,ax,aj (show i % 6<(HH ⟨h0,h1,h2,h3,h4,h5,a⟩).length from v),QW];exact Qx _
  have aa:=K z N;have ab:=Em z;have ac:=uk a;have O:(fsK n ⟨h0,h1,h2,h3,h4,h5,a⟩).take (i+1)=(fsK n ⟨h0,h1,h2,h3,h4,h5,a⟩).take i++[kQ (z.tmod 20) (dQ a)]:=by
   rw [P6,show (fsK n ⟨h0,h1,h2,h3,h4,h5,a⟩)[i]?=some (kQ (z.tmod 20) (dQ a)) by unfold fsK;rw [PH,Qi k,<- l];rfl];rfl
  have ad:((fsK n ⟨h0,h1,h2,h3,h4,h5,a⟩).take i).length<=400:=by rw [PS,uq];omega
  refine Ti 2 Z fun R b=>Uj (i) (6) U6 om_ U2<|Tk U6<|TE ((i % 6)) U9 (fun _=>⟨by omega,by omega,(by show i % 6=0+(i % 6)*1;omega)⟩) U2<|UA (PtrTo.blockT (Mem.get s mup) (i % 6) 1) U6 (show cI _ (((Ou ⟨h0,h1,h2,h3,h4,h5,a⟩).drop (i % 6)).take 1)=some (.int .i8 z) from by rw [x];rfl) Z<|TX (c:=z) U8 (wrap_i64 om_ om_) fl_<|Uq (z.tmod 20) U6 dc_ U3<|Tk U6<|Tw (Oj _ B.m_ (z.tmod 20) (dQ a) om_ om_ om_) U7 fl_<|TF [ec (kQ (z.tmod 20) (dQ a))] U12 fun ae _ _ Q=>D.append (j:=0) U11 Q Z aw (by simp only [PD];omega) fl_ fun A=>C6 1 [2,3,5,6,7] b Z<|Ti 1 Z fun R b=>Tq _ Z U6<|C6 1 [2,3,5,6,7] b Z<|Tz (L':=[.arr A 32 1 ((fsK n ⟨h0,h1,h2,h3,h4,h5,a⟩).take (i+1)).length (((fsK n ⟨h0,h1,h2,h3,h4,h5,a⟩).take (i+1)).map ec).flatten]) (by rw [O,Qg,Ql,PM];rfl)<|Tv (m':=n-(i+1)) om_ mup (hn_ [2,3,5,6,7] Z) ⟨i+1,A,om_,Z,Z,Z⟩
 have k:i=n:=by
  have:=PJ h;omega
 rw [show (fsK n ⟨h0,h1,h2,h3,h4,h5,a⟩).take i=fsK n ⟨h0,h1,h2,h3,h4,h5,a⟩ from Qk (by rw [k,uq];exact PE _)];exact Th 2 [4] Z<|G.freezeArr 0 ((fsK n ⟨h0,h1,h2,h3,h4,h5,a⟩).map ec) rfl rfl (by intro r hr;obtain ⟨y,_,rfl⟩:=PK.1 hr;rfl) (by rw [al]) fun Cg hg S=>Tp U2<|⟨Z,S⟩
structure Sgt where
 kind:Nat
 px:Int
 py:Int
 u0:Nat
 u1:Nat
 depth:Nat
 n0:Int
 n1:Int
 n2:Int
def Nk (s:Sgt):List Value:=[.int .u8 s.kind,.int .i8 s.px,.int .i8 s.py,.int .u8 s.u0,.int .u8 s.u1,.int .u8 s.depth,.int .i8 s.n0,.int .i8 s.n1,.int .i8 s.n2]
structure SgtR (s:Sgt):Prop where
 kind:s.kind<256
 px:-128<=s.px/\s.px<=127
 py:-128<=s.py/\s.py<=127
 u0:s.u0<256
 u1:s.u1<256
 depth:s.depth<256
 n0:-128<=s.n0/\s.n0<=127
 n1:-128<=s.n1/\s.n1<=127
 n2:-128<=s.n2/\s.n2<=127
structure Sht where
 kd:Nat
 a:Int
 b:Int
 h:Bool
def Mc (S:Sht)(H:Hts)(sv:Value):List Value:=[.int .u8 S.kd,.int .i8 S.a,.int .i8 S.b,.bool S.h,.int .i8 H.h0,.int .i8 H.h1,.int .i8 H.h2,.int .i8 H.h3,.int .i8 H.h4,.int .i8 H.h5,.bool H.half,sv]
def qV (i:Nat):Str:=[UInt8.ofNat (65+i)]
def lA (S:Sht)(s:Sgt):Pt :=
 if jL (cC (S.kd % 8) S.a S.b S.h) (shT (S.kd % 8)) (dG S.a S.b S.h s.px s.py 2)≠[] then dG S.a S.b S.h s.px s.py 2
 else (cC (S.kd % 8) S.a S.b S.h).getD (s.depth % (cC (S.kd % 8) S.a S.b S.h).length) (0,0)
def ff (z:Int):Int:=if z.tmod 5=0 then 1 else z.tmod 5
def loU (s:Sgt):Nat:=if s.u0 % 3=s.u1 % 3 then 0 else s.u0 % 3
def upU (s:Sgt):Nat:=if s.u0 % 3=s.u1 % 3 then 1+s.u1 % 3 % 2 else s.u1 % 3
def fK (S:Sht)(s:Sgt)(i:Nat):Obs :=
 if s.kind % 3=0 then ⟨1,[111,UInt8.ofNat (49+i)],qtx (lA S s).1,qtx (lA S s).2,[],qV (s.u1 % 3),[],[],[],[]⟩
 else if s.kind % 3=1 then ⟨2,[111,UInt8.ofNat (49+i)],qtx (lA S s).1,qtx (lA S s).2,qtx (kQ (s.depth % 12:Nat) 2),qV (max (loU s) (upU s)),qV (min (loU s) (upU s)),[],[],[]⟩
 else ⟨3,[111,UInt8.ofNat (49+i)],qtx (lA S s).1,qtx (lA S s).2,[],qV (max (loU s) (upU s)),qV (min (loU s) (upU s)),qtx ((s.n0.tmod 5:Int):Rat),qtx ((s.n1.tmod 5:Int):Rat),qtx ((ff s.n2:Int):Rat)⟩
theorem wrap_u8 (a:0<=n)(b:n<256):IntKind.u8.wrap n=n:=by
 simp only [IntKind.wrap,IntKind.bits,IntKind.signed];simp;omega
theorem mL (i:Nat)(a:i<6):([[.int .u8 111],[.int .u8 (49+(i:Int))]]:List (List Value))=(([111,UInt8.ofNat (49+i)]:Str).map fun b=>[.int .u8 b.toNat]):=by
 rcases (by omega:i=0∨i=1∨i=2∨i=3∨i=4∨i=5) with rfl | rfl | rfl | rfl | rfl | rfl <;> rfl
theorem BB (j:Nat)(a:j<3):(([af [65],af [66],af [67]]:List Value).drop j).take 1=[af (qV j)]:=by
 rcases (by omega:j=0∨j=1∨j=2) with rfl | rfl | rfl <;> rfl
theorem yl:∀ m:Nat,0<(shP m).length
 | 0=>by decide
 | 1=>by decide
 | 2=>by decide
 | 3=>by decide
 | 4=>by decide
 | 5=>by decide
 | 6=>by decide
 | _+7=>by
  show 0<([(0,0),(6,0),(0,6),(2,2)]:List (Int × Int)).length;decide
theorem nA (a:Int):-5<a.tmod 5/\a.tmod 5<5:=by
 have h:(a.tmod 5).natAbs=a.natAbs % 5:=Sk a 5;omega
theorem Mv (s:Sgt):loU s<=2:=by unfold loU;split <;> omega
theorem Le (s:Sgt):upU s<=2:=by unfold upU;split <;> omega
theorem E8 {p:Pt}(h:QP 1 p):QP 23 p/\PtR p:=⟨⟨h.1.le dc_,h.2.le dc_⟩,bB (h.1.le dc_),bB (h.2.le dc_)⟩
theorem qS (C:Mem)(r:Tabs C)(S:Sht)(s:Sgt)(H:Hts)(sv:Value)(i:Nat)(U:i<6)(hk:S.kd<256)(q:SgtR s)(hG:Good (cC (S.kd % 8) S.a S.b S.h) (shT (S.kd % 8))) :
  Pur cx.P 58 [.agg ⟨Mc S H sv⟩,.agg ⟨Nk s⟩,.int .i64 i] C fun u _D=>u=.agg ⟨rb (fK S s i)⟩:=by
 have aE:=q.kind;have aF:=q.u0;have aH:=q.u1;have aI:=q.depth;have aJ:=nA s.n0;have aL:=nA s.n1;have aM:=nA s.n2;have an:=Mv s;have ao:=Le s;have ap:QP 1 (dG S.a S.b S.h s.px s.py 2):=Bd dc_ dc_ q.px q.py;obtain ⟨aq,ar⟩:=E8 ap;obtain ⟨lo,v⟩:∃ n,loU s=n:=⟨_,rfl⟩;obtain ⟨up,w⟩:∃ n,upU s=n:=⟨_,rfl⟩;obtain ⟨p,x⟩:∃ p,lA S s=p:=⟨_,rfl⟩;obtain ⟨t,E⟩:∃ z,ff s.n2=z:=⟨_,rfl⟩;have aN:-5<t/\t<5:=by rw [<- E];unfold ff;split <;> omega
 rw [v] at an;rw [w] at ao;have ai:0<(cC (S.kd % 8) S.a S.b S.h).length:=by rw [cC,al];exact yl _
 have aO:=jF (S.kd % 8) S.a S.b S.h;refine Tr func58 129 U3 fun w0=>Tl fun R d=>TC U6 fun b3=>TC U6 fun y=>TB U5 fun g=>Tn [2,3,4,6] d Z<|G.freeze 2 Z fun _ _ ak=>G.freeze 1 Z fun _ _ k=>Ti 1 Z fun R d=>Tj (bkT ak 4) U8<|TT (wE _ r.m_ S.kd S.a S.b S.h hk) U7 (fun aP _ _ V=>?_);obtain ⟨v1,v2,rfl,W,au⟩:=id V.ex;obtain ⟨A1,c1,rfl,av,aQ,_⟩:=id W;obtain ⟨A2,c2,rfl,_,_,_⟩:=id au;simp only [al] at W av V ⊢;refine TB U5 fun b7=>Ts (j:=0) U12<|Tn [2,3,4,6,7] d Z<|G.freeze 0 Z fun _ _ X=>G.cut (fun fr F l m=>∃ (f:Nat),(True)/\fr=[(4,[],.pointer (some ⟨y,0,none⟩)),(6,[],.pointer (some ⟨g,0,none⟩)),(7,[],.pointer (some ⟨b7,0,none⟩)),(8,[],.pointer (some ⟨f,0,none⟩))]/\l=[.obj f (.cells ⟨[.int .i64 (1+((s.kind % 3:Nat):Int)),af [111,UInt8.ofNat (49+i)],af (qtx (dG S.a S.b S.h s.px s.py 2).1),af (qtx (dG S.a S.b S.h s.px s.py 2).2),af [],af [],af [],af [],af [],af []]⟩ 126 (0,0)),.obj g (.cells ⟨[.int .i64 0,af [],af [],af [],af [],af [],af [],af [],af [],af []]⟩ 126 (0,0))]) ?_ (fun fr aR aS m aT o=>?_)
 ·refine Uf (.cut [0,1,2,3,4,5,6,7,10,11,12,13,14] (.alt 8 (.cut [] (.alt 9 (.fin [15,16,17]) (.alt 16 (.fin [9,15,17]) .stop))) (.alt 16 (.fin [8,9,15,17]) .stop))) [(14,1),(3,0),(6,0)] Z Z kr_ fun R I d J=>Tk U6<|Tj (bkT k 1) U8<|Uj (s.kind) (3) U6 om_ U2<|Us (c:=((s.kind % 3:Nat):Int)) U8 (wrap_i64 om_ om_) U2<|Tq _ Z U6<|Tk U6<|Us (c:=(i:Int)) U8 (wrap_u8 om_ om_) U2<|D.int ((49+(i:Int))) U4 (wrap_u8 om_ om_) U2<|Tk U6<|Tj (bkT ak 4) U8<|Tk U6<|Tj (bkT k 2) U8<|TG (fun _=>(Be _ r.m_ S.kd S.a S.b S.h s.px s.py 2 dc_ dc_ q.px q.py)) U9<|TV J Z ⟨?_, ?_,trivial⟩
  ·refine TF [[.int .u8 111],[.int .u8 (49+(i:Int))]] U12 fun aw ay _ K=>TV J Z ⟨?_, ?_,trivial⟩
   ·exact UK (show Sl _ 1 _ (([111,UInt8.ofNat (49+i)]:Str).map fun b=>[.int .u8 b.toNat]) from by rw [<- mL i U];exact K.mono mup) U11 fl_<|TA [.int .i64 (1+((s.kind % 3:Nat):Int)),af [111,UInt8.ofNat (49+i)],af (qtx (dG S.a S.b S.h s.px s.py 2).1),af (qtx (dG S.a S.b S.h s.px s.py 2).2),af [],af [],af [],af [],af [],af []] U8<|TB U5 fun f=>Ts (j:=0) U12<|Tn [4,6,7,8] d Z<|Tx 0 mup (hn_ [4,6,7,8] Z) ⟨f,trivial,Z,Z⟩
   exact TB U5 fun f=>UK (show Sl _ 1 _ (([111,UInt8.ofNat (49+i)]:Str).map fun b=>[.int .u8 b.toNat]) from by rw [<- mL i U];exact K.mono mup) U11 fl_<|TA [.int .i64 (1+((s.kind % 3:Nat):Int)),af [111,UInt8.ofNat (49+i)],af (qtx (dG S.a S.b S.h s.px s.py 2).1),af (qtx (dG S.a S.b S.h s.px s.py 2).2),af [],af [],af [],af [],af [],af []] U8<|Ts (j:=0) U12<|Tn [4,6,7,8] d Z<|Tx 0 mup (hn_ [4,6,7,8] Z) ⟨f,trivial,Z,Z⟩
  exact TB U5 fun f=>TF [[.int .u8 111],[.int .u8 (49+(i:Int))]] U12 fun aw ay _ K=>UK (show Sl _ 1 _ (([111,UInt8.ofNat (49+i)]:Str).map fun b=>[.int .u8 b.toNat]) from by rw [<- mL i U];exact K.mono mup) U11 fl_<|TA [.int .i64 (1+((s.kind % 3:Nat):Int)),af [111,UInt8.ofNat (49+i)],af (qtx (dG S.a S.b S.h s.px s.py 2).1),af (qtx (dG S.a S.b S.h s.px s.py 2).2),af [],af [],af [],af [],af [],af []] U8<|Ts (j:=0) U12<|Tn [4,6,7,8] d Z<|Tx 0 mup (hn_ [4,6,7,8] Z) ⟨f,trivial,Z,Z⟩
 obtain ⟨f,_,rfl,rfl⟩:=o;refine Tl fun R d=>Tj (bkT X 2) U8<|Tk U6<|To ag U9<|Tt (qo _ r.m_ _ _ _ (dG S.a S.b S.h s.px s.py 2) V.m_ hG aq ar) U7<|C6 5 [4,6,7,8,9] d Z<|Th 2 [4,6,7,8,42] Z<|G.cut (fun fr F l m=>(True)/\fr=[(4,[],.pointer (some ⟨y,0,none⟩)),(6,[],.pointer (some ⟨g,0,none⟩)),(8,[],.pointer (some ⟨f,0,none⟩))]/\l=[.obj f (.cells ⟨[.int .i64 (1+((s.kind % 3:Nat):Int)),af [111,UInt8.ofNat (49+i)],af (qtx p.1),af (qtx p.2),af [],af [],af [],af [],af [],af []]⟩ 126 (0,0)),.obj g (.cells ⟨[.int .i64 0,af [],af [],af [],af [],af [],af [],af [],af [],af []]⟩ 126 (0,0))]) ?_ (fun fr _ aU m _ o=>?_)
 ·refine G.cd (fun Y=>?_) fun Y=>?_
  ·have az:jL (cC (S.kd % 8) S.a S.b S.h) (shT (S.kd % 8)) (dG S.a S.b S.h s.px s.py 2)=[]:=by simpa using Y
   have am:s.depth % (cC (S.kd % 8) S.a S.b S.h).length<(cC (S.kd % 8) S.a S.b S.h).length:=Qj _ ai;have aa:p=(cC (S.kd % 8) S.a S.b S.h)[s.depth % (cC (S.kd % 8) S.a S.b S.h).length]:=by
    rw [<- x,lA,aG (by rw [az];simp),ax,aj am,QW]
   have hp:(cC (S.kd % 8) S.a S.b S.h)[s.depth % (cC (S.kd % 8) S.a S.b S.h).length]?=some p:=by rw [aa];exact aj am
   refine TD [0,1,2,3,4,5,6,7,8,9,10,11,12] [(4,0)] Z kr_ fun R I d=>Tk U6<|Tj (bkT X 1) U8<|Tk U6<|Tj (bkT k 1) U8<|Us (c:=(s.depth:Int)) U8 (wrap_i64 om_ om_) U2<|Tk U6<|Tj (bkT X 1) U8<|Tk U6<|Uj (s.depth) ((cC (S.kd % 8) S.a S.b S.h).length) U6 ai U2<|Ty W.m_ U10 om_ (co hp) fl_ fun aV aA=>Tj aA U8<|Tk U6<|Ts (j:=0) U12<|Tn [4,6,8] d Z<|Tx 0 (Mem.le.refl _) (hn_ [4,6,8] Z) ⟨trivial,Z,Z⟩
  have aB:jL (cC (S.kd % 8) S.a S.b S.h) (shT (S.kd % 8)) (dG S.a S.b S.h s.px s.py 2)≠[]:=by simpa using Y
  have aa:p=dG S.a S.b S.h s.px s.py 2:=by rw [<- x,lA,aK aB]
  subst aa;refine Tx 0 (Mem.le.refl _) (hn_ [4,6,8] Z) ⟨trivial,Z,Z⟩
 obtain ⟨_,rfl,rfl⟩:=o;refine Tl fun R d=>TA ([af [65],af [66],af [67]]) U8<|TB U5 fun aC=>Ts (j:=0) U12<|Tn [4,6,8,11] d Z<|G.freeze 0 Z fun _ _ L=>TD [0,1,2,3,4,5,6,7,8,9,10,11] [(4,0),(9,0)] Z kr_ fun R I d=>Tk U6<|TE (3) U9 ah U2<|Tj (bkT k 1) U8<|Uj (s.u0) (3) U6 om_ U2<|Us (c:=((s.u0 % 3:Nat):Int)) U8 (wrap_i64 om_ om_) U2<|Tk U6<|TE (4) U9 ah U2<|Tj (bkT k 1) U8<|Uj (s.u1) (3) U6 om_ U2<|Us (c:=((s.u1 % 3:Nat):Int)) U8 (wrap_i64 om_ om_) U2<|C6 2 [4,6,8,11,12,13] d Z<|Ti 1 Z fun R d=>To ag U9<|C6 1 [4,6,8,11,12,13,68] d Z<|G.cd (fun M=>?_) fun M=>?_
 ·have A:s.kind % 3=0:=by
   have:=dP M;omega
  refine Ti 1 Z fun R d=>TE ((s.u1 % 3)) U9 (fun _=>⟨by omega,by omega,(by show s.u1 % 3=0+(s.u1 % 3)*1;omega)⟩) U2<|UA (PtrTo.blockT (Mem.get L mup) (s.u1 % 3) 1) U6 (show cI _ ((([af [65],af [66],af [67]]:List Value).drop (s.u1 % 3)).take 1)=some (af (qV (s.u1 % 3))) from by rw [BB _ om_];rfl) Z<|Tk U6<|Ts (j:=0) U12<|Tn [6,8] d Z<|Tl fun R d=>To ag U9<|Ts (j:=1) U12<|Tn [6] d Z<|Tu (Uc ag U4 ?_);exact ⟨Z,by unfold fK;rw [aK A,x,A];rfl⟩
 have A:¬ s.kind % 3=0:=by
  intro e;rw [e] at M;exact absurd M dc_
 refine Th 3 [4,6,8,11,12,13,76] Z<|G.cut (fun fr F l m=>(True)/\fr=[(4,[],.pointer (some ⟨y,0,none⟩)),(6,[],.pointer (some ⟨g,0,none⟩)),(8,[],.pointer (some ⟨f,0,none⟩)),(11,[],.pointer (some ⟨aC,0,none⟩)),(12,[],.int .i64 (lo:Nat)),(13,[],.int .i64 (up:Nat))]/\l=[.obj f (.cells ⟨[.int .i64 (1+((s.kind % 3:Nat):Int)),af [111,UInt8.ofNat (49+i)],af (qtx p.1),af (qtx p.2),af [],af [],af [],af [],af [],af []]⟩ 126 (0,0)),.obj g (.cells ⟨[.int .i64 0,af [],af [],af [],af [],af [],af [],af [],af [],af []]⟩ 126 (0,0))]) ?_ (fun fr _ aW m _ o=>?_)
 ·refine G.cd (fun N=>?_) fun N=>?_
  ·have B:s.u0 % 3=s.u1 % 3:=by
    have:=dP N;omega
   have ab:lo=0:=by rw [<- v,loU,aK B]
   have ac:up=1+s.u1 % 3 % 2:=by rw [<- w,upU,aK B]
   subst ab;subst ac;refine Ti 1 Z fun R d=>Uj ((s.u1 % 3)) (2) U6 om_ U2<|Tq _ Z U6<|C6 2 [4,6,8,11,12,13] d Z<|Tx 0 (Mem.le.refl _) (hn_ [4,6,8,11,12,13] Z) ⟨trivial,Z,Z⟩
  have B:¬ s.u0 % 3=s.u1 % 3:=by
   intro e;rw [e,beq_self_eq_true] at N;exact absurd N dc_
  have ab:lo=s.u0 % 3:=by rw [<- v,loU,aG B]
  have ac:up=s.u1 % 3:=by rw [<- w,upU,aG B]
  subst ab;subst ac;refine Tx 0 (Mem.le.refl _) (hn_ [4,6,8,11,12,13] Z) ⟨trivial,Z,Z⟩
 obtain ⟨_,rfl,rfl⟩:=o;refine G.cut (fun fr F l m=>(True)/\fr=[(4,[],.pointer (some ⟨y,0,none⟩)),(6,[],.pointer (some ⟨g,0,none⟩)),(8,[],.pointer (some ⟨f,0,none⟩))]/\l=[.obj f (.cells ⟨[.int .i64 (1+((s.kind % 3:Nat):Int)),af [111,UInt8.ofNat (49+i)],af (qtx p.1),af (qtx p.2),af [],af (qV (max lo up)),af (qV (min lo up)),af [],af [],af []]⟩ 126 (0,0)),.obj g (.cells ⟨[.int .i64 0,af [],af [],af [],af [],af [],af [],af [],af [],af []]⟩ 126 (0,0))]) ?_ (fun fr aX aY m aZ o=>?_)
 ·refine Uf (.cut [0,1,2,3,4,5,6,7,8,10] (.alt 9 (.fin [11,12,13]) (.alt 11 (.fin [9,12,13]) .stop))) [] Z Z kr_ fun R I d J=>Tm 2 Z<|D.max (((max lo up:Nat):Int)) U6 om_ U2<|TE ((max lo up)) U9 (fun _=>⟨by omega,by omega,(by show max lo up=0+(max lo up)*1;omega)⟩) U2<|UA (PtrTo.blockT (Mem.get L mup) (max lo up) 1) U6 (show cI _ ((([af [65],af [66],af [67]]:List Value).drop (max lo up)).take 1)=some (af (qV (max lo up))) from by rw [BB _ om_];rfl) Z<|Tm 2 Z<|D.min (((min lo up:Nat):Int)) U6 om_ U2<|TE ((min lo up)) U9 (fun _=>⟨by omega,by omega,(by show min lo up=0+(min lo up)*1;omega)⟩) U2<|Tk U6<|TV J Z ⟨?_, ?_,trivial⟩
  ·exact UA (PtrTo.blockT (Mem.get L mup) (min lo up) 1) U6 (show cI _ ((([af [65],af [66],af [67]]:List Value).drop (min lo up)).take 1)=some (af (qV (min lo up))) from by rw [BB _ om_];rfl) Z<|Ts (j:=0) U12<|Tk U6<|Ts (j:=0) U12<|Tn [4,6,8] d Z<|Tx 0 mup (hn_ [4,6,8] Z) ⟨trivial,Z,Z⟩
  exact Ts (j:=0) U12<|UA (PtrTo.blockT (Mem.get L mup) (min lo up) 1) U6 (show cI _ ((([af [65],af [66],af [67]]:List Value).drop (min lo up)).take 1)=some (af (qV (min lo up))) from by rw [BB _ om_];rfl) Z<|Tk U6<|Ts (j:=0) U12<|Tn [4,6,8] d Z<|Tx 0 mup (hn_ [4,6,8] Z) ⟨trivial,Z,Z⟩
 obtain ⟨_,rfl,rfl⟩:=o;refine Ti 1 Z fun R d=>To ag U9<|C6 1 [4,6,8,94] d Z<|G.cd (fun O=>?_) fun O=>?_
 ·have Q:s.kind % 3=1:=by
   have:=dP O;omega
  refine Ti 1 Z fun R d=>Tj (bkT k 1) U8<|Uj (s.depth) (12) U6 om_ U2<|TX (c:=((s.depth % 12:Nat):Int)) U8 (wrap_i64 om_ om_) fl_<|Tw (EV _ r.m_ ((s.depth % 12:Nat):Int) 2 om_ om_ om_) U7 fl_<|Tm 4 Z<|Ts (j:=0) U12<|Tn [6,8] d Z<|Tl fun R d=>To ag U9<|Ts (j:=1) U12<|Tn [6] d Z<|Tu (Uc ag U4 ?_);exact ⟨Z,by unfold fK;rw [aG A,aK Q,x,v,w,Q];rfl⟩
 have Q:¬ s.kind % 3=1:=by
  intro e;rw [e] at O;exact absurd O dc_
 have aD:s.kind % 3=2:=by omega
 refine Ti 1 Z fun R d=>TE (8) U9 ah U2<|Tj (bkT k 1) U8<|Uq (s.n2.tmod 5) U6 dc_ U3<|TX (c:=(s.n2.tmod 5)) U8 (wrap_i64 om_ om_) fl_<|C6 1 [4,6,8,14] d Z<|Th 2 [4,6,8,14,111] Z<|G.cut (fun fr F l m=>(True)/\fr=[(4,[],.pointer (some ⟨y,0,none⟩)),(6,[],.pointer (some ⟨g,0,none⟩)),(8,[],.pointer (some ⟨f,0,none⟩)),(14,[],.int .i64 t)]/\l=[.obj f (.cells ⟨[.int .i64 (1+((s.kind % 3:Nat):Int)),af [111,UInt8.ofNat (49+i)],af (qtx p.1),af (qtx p.2),af [],af (qV (max lo up)),af (qV (min lo up)),af [],af [],af []]⟩ 126 (0,0)),.obj g (.cells ⟨[.int .i64 0,af [],af [],af [],af [],af [],af [],af [],af [],af []]⟩ 126 (0,0))]) ?_ (fun fr _ a0 m _ o=>?_)
 ·refine G.cd (fun T=>?_) fun T=>?_
  ·have ad:s.n2.tmod 5=0:=dP T;have ae:t=1:=by rw [<- E,ff,aK ad]
   subst ae;refine Th 1 [4,6,8,14] Z<|Tx 0 (Mem.le.refl _) (hn_ [4,6,8,14] Z) ⟨trivial,Z,Z⟩
  have ad:¬ s.n2.tmod 5=0:=by
   intro e;rw [e] at T;exact absurd T dc_
  have ae:t=s.n2.tmod 5:=by rw [<- E,ff,aG ad]
  subst ae;refine Tx 0 (Mem.le.refl _) (hn_ [4,6,8,14] Z) ⟨trivial,Z,Z⟩
 obtain ⟨_,rfl,rfl⟩:=o;refine TD [0,1,2,3,4,5,6,7,8,9,10,11,12,13,14,15,16] [(5,1),(11,1),(13,1),(4,0),(10,0)] Z kr_ fun R I d=>Tk U6<|TE (6) U9 ah U2<|Tj (bkT k 1) U8<|Uq (s.n0.tmod 5) U6 dc_ U3<|Us (c:=(s.n0.tmod 5)) U8 (wrap_i64 om_ om_) U2<|TG (fun _=>(tg _ r.m_ (s.n0.tmod 5) om_)) U9<|Tk U6<|TE (7) U9 ah U2<|Tj (bkT k 1) U8<|Uq (s.n1.tmod 5) U6 dc_ U3<|Us (c:=(s.n1.tmod 5)) U8 (wrap_i64 om_ om_) U2<|TG (fun _=>(tg _ r.m_ (s.n1.tmod 5) om_)) U9<|Tk U6<|TG (fun _=>(tg _ r.m_ t om_)) U9<|TA [af (qtx ((s.n0.tmod 5:Int):Rat)),af (qtx ((s.n1.tmod 5:Int):Rat)),af (qtx ((t:Int):Rat))] U8<|Tk U6<|Ts (j:=0) U12<|Tn [6,8] d Z<|Tl fun R d=>To ag U9<|Ts (j:=1) U12<|Tn [6] d Z<|Tu (Uc ag U4 ?_);exact ⟨Z,by unfold fK;rw [aG A,aG Q,x,v,w,E,aD];rfl⟩
def CZ:Sgt:=⟨0,0,0,0,0,0,0,0,0⟩
def colK:List Lay:=[⟨[65],0,none⟩,⟨[66],0,some 5⟩,⟨[67],1,none⟩]
theorem Iy:qtx 5=[53]:=by
 show qtx ((5:Int):Rat)=_;rw [mI];decide +kernel
theorem JQ:colK.map sj=[[af [65],af [48],af []],[af [66],af [48],af [53]],[af [67],af [49],af []]]:=by
 simp only [colK,List.map,sj,ve,qtx_zero,dE,Iy]
def vf (S:Sht)(l:List Sgt):List Obs:=(List.range (min l.length 6)).map fun i=>fK S (l.getD i CZ) i
def ef (S:Sht)(H:Hts)(l:List Sgt):Bk:=⟨cC (S.kd % 8) S.a S.b S.h,shT (S.kd % 8),(fsK (cC (S.kd % 8) S.a S.b S.h).length H).map qtx,colK,vf S l⟩
theorem lC (S:Sht)(l:List Sgt):(vf S l).length=min l.length 6:=by simp [vf]
theorem FE (S:Sht){l:List Sgt}{s:Sgt}(h:l[i]?=some s)(a:i<6):(vf S l)[i]?=some (fK S s i):=by
 have h1:=(aJ.1 h).1;rw [vf,PH,Qi om_];show some (fK S (l.getD i CZ) i)=_;rw [ax,h];rfl
theorem FU (C:Mem)(q:Tabs C)(S:Sht)(H:Hts)(V:Value)(l:List Sgt)(W:S.kd<256)(A:OZ H)(L:Sl C 9 V (l.map Nk))(hs:∀ s∈l,SgtR s)(hG:Good (cC (S.kd % 8) S.a S.b S.h) (shT (S.kd % 8))) :
  Pur cx.P 12 [.agg ⟨Mc S H V⟩] C fun u D=>BookIn D u (ef S H l):=by
 obtain ⟨As,cs,rfl,ai,av,_⟩:=id L;have ax:maxLen<=9223372036854775807:=by simp [maxLen]
 simp only [al] at L ai ⊢;have ay:=jF (S.kd % 8) S.a S.b S.h;refine Tr func12 44 U3 fun w0=>Tl fun R f=>TC U6 fun X=>TB U5 fun v=>Tn [1,2] f Z<|G.freeze 1 Z fun _ _ B=>Ti 1 Z fun R f=>Tj (bkT B 4) U8<|TT (wE _ q.m_ S.kd S.a S.b S.h W) U7 (fun v8 _ _ Y=>?_);obtain ⟨v1,v2,rfl,M,N⟩:=id Y.ex;obtain ⟨k,n,rfl,ak,az,_⟩:=id M;obtain ⟨A2,c2,rfl,_,_,_⟩:=id N;simp only [al] at M N ak Y ⊢;refine TB U5 fun b3=>Ts (j:=0) U12<|Tn [1,2,3] f Z<|G.freeze 0 Z fun _ _ aa=>G.cut (fun fr O E Q=>∃ (c:Option Addr)(d:Nat)(x:Value)(g:Nat),(Sl O 1 (.slice c (fsK (cC (S.kd % 8) S.a S.b S.h).length H).length d) ((fsK (cC (S.kd % 8) S.a S.b S.h).length H).map ec)/\Sl O 3 x [[af [65],af [48],af []],[af [66],af [48],af [53]],[af [67],af [49],af []]])/\fr=[(1,[],.pointer (some ⟨X,0,none⟩)),(2,[],.pointer (some ⟨v,0,none⟩)),(4,[],.pointer (some ⟨g,0,none⟩))]/\E=[.obj g (.cells ⟨[.slice k (cC (S.kd % 8) S.a S.b S.h).length n,.slice A2 (shT (S.kd % 8)).length c2,.slice c (fsK (cC (S.kd % 8) S.a S.b S.h).length H).length d,x,.slice none 0 0]⟩ 45 (0,0)),.obj v (.cells ⟨[.slice none 0 0,.slice none 0 0,.slice none 0 0,.slice none 0 0,.slice none 0 0]⟩ 45 (0,0))]) ?_ (fun fr aA aB Q aC T=>?_)
 ·refine Uf (.cut [0,1,2,3,5,6,7] (.alt 4 (.cut [] (.alt 8 (.fin [9,10,11]) (.alt 10 (.fin [8,9,11]) .stop))) (.alt 8 (.cut [] (.alt 4 (.fin [9,10,11]) (.alt 10 (.fin [4,9,11]) .stop))) (.alt 10 (.cut [] (.alt 4 (.fin [8,9,11]) (.alt 8 (.fin [4,9,11]) .stop))) .stop)))) [] Z Z kr_ fun R hB f F=>Tj (bkT aa 2) U8<|Tj (bkT aa 2) U8<|Tk U6<|Tj (bkT B 7) U8<|TA ([af [65],af [48],af []]) U8<|TA ([af [66],af [48],af [53]]) U8<|TA ([af [67],af [49],af []]) U8<|TV F Z ⟨?_, ?_, ?_,trivial⟩
  ·refine TO (iW _ q.m_ _ _ (cC (S.kd % 8) S.a S.b S.h).length k n H Z om_ A) U7 fl_ fun I J _ e=>TV F Z ⟨?_, ?_,trivial⟩
   ·refine Ug [[af [65],af [48],af []],[af [66],af [48],af [53]],[af [67],af [49],af []]] U12 fl_ (fun o K _ p=>?_);obtain ⟨c,d,rfl,_,_,_⟩:=id e;simp only [al] at e ⊢;exact TA [.slice k (cC (S.kd % 8) S.a S.b S.h).length n,.slice A2 (shT (S.kd % 8)).length c2,.slice c (fsK (cC (S.kd % 8) S.a S.b S.h).length H).length d,.slice (some ⟨o,0,none⟩) 3 3,.slice none 0 0] U8<|TB U5 fun g=>Ts (j:=0) U12<|Tn [1,2,4] f Z<|Tx 0 mup (hn_ [1,2,4] Z) ⟨c,d,_,g,⟨e.mono mup,p.mono mup⟩,Z,Z⟩
   refine TB U5 fun g=>Ug [[af [65],af [48],af []],[af [66],af [48],af [53]],[af [67],af [49],af []]] U12 fl_ (fun o K _ p=>?_);obtain ⟨c,d,rfl,_,_,_⟩:=id e;simp only [al] at e ⊢;exact TA [.slice k (cC (S.kd % 8) S.a S.b S.h).length n,.slice A2 (shT (S.kd % 8)).length c2,.slice c (fsK (cC (S.kd % 8) S.a S.b S.h).length H).length d,.slice (some ⟨o,0,none⟩) 3 3,.slice none 0 0] U8<|Ts (j:=0) U12<|Tn [1,2,4] f Z<|Tx 0 mup (hn_ [1,2,4] Z) ⟨c,d,_,g,⟨e.mono mup,p.mono mup⟩,Z,Z⟩
  ·refine Ug [[af [65],af [48],af []],[af [66],af [48],af [53]],[af [67],af [49],af []]] U12 fl_ fun o K _ p=>TV F Z ⟨?_, ?_,trivial⟩
   ·refine TO (iW _ q.m_ _ _ (cC (S.kd % 8) S.a S.b S.h).length k n H Z om_ A) U7 fl_ (fun I J _ e=>?_);obtain ⟨c,d,rfl,_,_,_⟩:=id e;simp only [al] at e ⊢;exact TA [.slice k (cC (S.kd % 8) S.a S.b S.h).length n,.slice A2 (shT (S.kd % 8)).length c2,.slice c (fsK (cC (S.kd % 8) S.a S.b S.h).length H).length d,.slice (some ⟨o,0,none⟩) 3 3,.slice none 0 0] U8<|TB U5 fun g=>Ts (j:=0) U12<|Tn [1,2,4] f Z<|Tx 0 mup (hn_ [1,2,4] Z) ⟨c,d,_,g,⟨e.mono mup,p.mono mup⟩,Z,Z⟩
   refine TB U5 fun g=>TO (iW _ q.m_ _ _ (cC (S.kd % 8) S.a S.b S.h).length k n H Z om_ A) U7 fl_ (fun I J _ e=>?_);obtain ⟨c,d,rfl,_,_,_⟩:=id e;simp only [al] at e ⊢;exact TA [.slice k (cC (S.kd % 8) S.a S.b S.h).length n,.slice A2 (shT (S.kd % 8)).length c2,.slice c (fsK (cC (S.kd % 8) S.a S.b S.h).length H).length d,.slice (some ⟨o,0,none⟩) 3 3,.slice none 0 0] U8<|Ts (j:=0) U12<|Tn [1,2,4] f Z<|Tx 0 mup (hn_ [1,2,4] Z) ⟨c,d,_,g,⟨e.mono mup,p.mono mup⟩,Z,Z⟩
  refine TB U5 fun g=>TV F Z ⟨?_, ?_,trivial⟩
  ·refine TO (iW _ q.m_ _ _ (cC (S.kd % 8) S.a S.b S.h).length k n H Z om_ A) U7 fl_ fun I J _ e=>Ug [[af [65],af [48],af []],[af [66],af [48],af [53]],[af [67],af [49],af []]] U12 fl_ (fun o K _ p=>?_);obtain ⟨c,d,rfl,_,_,_⟩:=id e;simp only [al] at e ⊢;exact TA [.slice k (cC (S.kd % 8) S.a S.b S.h).length n,.slice A2 (shT (S.kd % 8)).length c2,.slice c (fsK (cC (S.kd % 8) S.a S.b S.h).length H).length d,.slice (some ⟨o,0,none⟩) 3 3,.slice none 0 0] U8<|Ts (j:=0) U12<|Tn [1,2,4] f Z<|Tx 0 mup (hn_ [1,2,4] Z) ⟨c,d,_,g,⟨e.mono mup,p.mono mup⟩,Z,Z⟩
  refine Ug [[af [65],af [48],af []],[af [66],af [48],af [53]],[af [67],af [49],af []]] U12 fl_ fun o K _ p=>TO (iW _ q.m_ _ _ (cC (S.kd % 8) S.a S.b S.h).length k n H Z om_ A) U7 fl_ (fun I J _ e=>?_);obtain ⟨c,d,rfl,_,_,_⟩:=id e;simp only [al] at e ⊢;exact TA [.slice k (cC (S.kd % 8) S.a S.b S.h).length n,.slice A2 (shT (S.kd % 8)).length c2,.slice c (fsK (cC (S.kd % 8) S.a S.b S.h).length H).length d,.slice (some ⟨o,0,none⟩) 3 3,.slice none 0 0] U8<|Ts (j:=0) U12<|Tn [1,2,4] f Z<|Tx 0 mup (hn_ [1,2,4] Z) ⟨c,d,_,g,⟨e.mono mup,p.mono mup⟩,Z,Z⟩
 obtain ⟨c,d,x,g,⟨an,ab⟩,rfl,rfl⟩:=T;refine Th 1 [1,2,4,5] Z<|G.nilArr 126 10<|G.perm (L':=[.obj g (.cells ⟨[.slice k (cC (S.kd % 8) S.a S.b S.h).length n,.slice A2 (shT (S.kd % 8)).length c2,.slice c (fsK (cC (S.kd % 8) S.a S.b S.h).length H).length d,x,.slice none 0 0]⟩ 45 (0,0)),.arr (.slice none 0 0) 126 10 0 [],.obj v (.cells ⟨[.slice none 0 0,.slice none 0 0,.slice none 0 0,.slice none 0 0,.slice none 0 0]⟩ 45 (0,0))]) (List.Perm.swap _ _ _)<|G.loop (fun fr O E Q=>∃ (i:Nat)(w:Value),(i<=l.length/\i<=6)/\fr=[(1,[],.pointer (some ⟨X,0,none⟩)),(2,[],.pointer (some ⟨v,0,none⟩)),(4,[],.pointer (some ⟨g,0,none⟩)),(5,[],.int .i64 i)]/\E=[.obj g (.cells ⟨[.slice k (cC (S.kd % 8) S.a S.b S.h).length n,.slice A2 (shT (S.kd % 8)).length c2,.slice c (fsK (cC (S.kd % 8) S.a S.b S.h).length H).length d,x,w]⟩ 45 (0,0)),.arr w 126 10 ((vf S l).take i).length (((vf S l).take i).map rb).flatten,.obj v (.cells ⟨[.slice none 0 0,.slice none 0 0,.slice none 0 0,.slice none 0 0,.slice none 0 0]⟩ 45 (0,0))]/\Q=6-i) (hn_ [1,2,4,5] Z) ⟨0,.slice none 0 0,⟨PL _,PL _⟩,Z,Z,Z⟩ (fun fr aD aE m _ T=>?_);obtain ⟨i,w,⟨hi,aF⟩,rfl,rfl,rfl⟩:=T;refine Ti 2 Z fun R f=>Tj (bkT B 1) U8<|Tm 5 Z<|TJ U8<|Tn [1,2,4,5,27] f Z<|G.cd (fun t=>?_) fun t=>?_
 ·have z:i<l.length/\i<6:=by
   by_cases h1:((i:Nat):Int)<(l.length:Nat)
   ·rw [P0 h1] at t;have h2:=aY t;omega
   rw [Qc h1] at t;exact absurd t am
  obtain ⟨s,U⟩:∃ s,l[i]?=some s:=⟨l[i]'z.1,aj z.1⟩;have ao:(vf S l).take (i+1)=(vf S l).take i++[fK S s i]:=by rw [P6,FE S U z.2];rfl
  have aG:((vf S l).take i).length<=6:=by rw [PS,lC];omega
  refine TD [0,1,2,3,4,5,6,7,8,9,10,11,12,13] [] Z kr_ fun R hB f=>Tk U6<|To ag U9<|Tj (bkT B 12) U8<|Tk U6<|Tj (bkT B 1) U8<|Tk U6<|Ty L.m_ U10 om_ (co U) fl_ fun aH ap=>Tj ap U8<|Tk U6<|TT (qS _ q.m_ S s H _ i z.2 W (hs s (O0 U)) hG) U7 (fun aI _ _ aq=>?_);subst aq;refine TF [rb (fK S s i)] U12 fun aJ _ _ ar=>TR (j:=1) U11 ar.m_ Z aw (by simp only [PD];omega) fl_ fun ac ad ae=>Tk U6<|Ts (j:=1) U12<|Tn [1,2,4,5] f Z<|Ti 1 Z fun R f=>Tq _ Z U6<|C6 1 [1,2,4,5] f Z<|Tz (L':=[.obj g (.cells ⟨[.slice k (cC (S.kd % 8) S.a S.b S.h).length n,.slice A2 (shT (S.kd % 8)).length c2,.slice c (fsK (cC (S.kd % 8) S.a S.b S.h).length H).length d,x,.slice ac ad ae]⟩ 45 (0,0)),.arr (.slice ac ad ae) 126 10 ((vf S l).take (i+1)).length (((vf S l).take (i+1)).map rb).flatten,.obj v (.cells ⟨[.slice none 0 0,.slice none 0 0,.slice none 0 0,.slice none 0 0,.slice none 0 0]⟩ 45 (0,0))]) (by rw [ao,Qg,Ql,PM];rfl)<|Tv (m':=6-(i+1)) om_ mup (hn_ [1,2,4,5] Z) ⟨i+1,_,⟨by omega,by omega⟩,Z,Z,Z⟩
 have z:i=min l.length 6:=by
  by_cases h1:((i:Nat):Int)<(l.length:Nat)
  ·rw [P0 h1] at t;have h2:=PJ t;omega
  omega
 have au:(vf S l).take i=vf S l:=Qk (by rw [z,lC];exact PE _);rw [au];refine G.freezeArr 1 ((vf S l).map rb) rfl rfl (by intro r hr;obtain ⟨y,_,rfl⟩:=PK.1 hr;rfl) (by rw [al]) (fun Cg hg ah=>?_);obtain ⟨Aw,cw,rfl,_⟩:=id ah;obtain ⟨Ap,cp,rfl,_⟩:=id ab;refine Tl fun R f=>To ag U9<|Ts (j:=1) U12<|Tn [2] f Z<|Tu (Uc ag U4 ?_);exact ⟨Z,_,_,_,_,_,Z,M.mono mup,N.mono mup,(by rw [ef,<- jg];exact an.mono mup),(by rw [ef,JQ];exact ab.mono mup),ah⟩
instance:DecidableEq RowQ:=fun a b=>decidable_of_iff (a.f=b.f/\a.b=b.b) (by cases a;cases b;simp)
instance (k:Nat) (q:Rat):Decidable (QB k q):=by unfold QB;infer_instance
instance (k:Nat) (p:Pt):Decidable (QP k p):=by unfold QP;infer_instance
instance (n:Nat) (t:Tri):Decidable (mU n t):=by unfold mU;infer_instance
theorem gN (h:txt z=s):qtx ((z:Int):Rat)=s:=by rw [mI,h]
theorem LQ (q:Rat)(h:qtx q=s)(a:QB 22 q):da s=q:=by rw [<- h];exact cR (bB a)
theorem Lb (a:List Pt)(t:Tri)(p:Pt)(j:Nat):wgt a t p j=wgt a t p (j % 3):=by
 unfold wgt;rw [show (j+1) % 3=(j % 3+1) % 3 by omega,show (j+2) % 3=(j % 3+2) % 3 by omega]
theorem HT (t:Tri)(j:Nat):fb t j=fb t (min j 2):=by
 unfold fb;rcases (by omega:j=0∨j=1∨2<=j) with h | h | h
 ·subst h;rfl
 ·subst h;rfl
 rw [Nat.min_eq_right h,aG om_,aG om_];rfl
theorem q6:qtx 6=[54]:=by decide +kernel
def IF (m:Nat)(u v:Int)(h:Bool):List Pt:=(shP m).map fun p=>(kQ (p.1+u*1) (dQ h*1),kQ (p.2+v*1) (dQ h*1))
theorem Oc (m:Nat)(a b:Int)(h:Bool):cC m a b h=IF m (a.tmod 8) (b.tmod 8) h:=rfl
def pO (pts:List Pt)(tris:List Tri):Bool :=
 pts.all (fun p=>decide (QP 1 p)) && (decide pts.Nodup && (tris.all (fun t=>decide (mU pts.length t)) && (tris.all (fun t=>decide (0<cK (pts.getD t.1 (0,0)) (pts.getD t.2.1 (0,0)) (pts.getD t.2.2 (0,0)))) && (decide (bP tris).Nodup && (mY pts tris && pts.all fun p=>decide (jL pts tris p≠[]))))))
theorem all0:∀ i<15,∀ j<15,∀ h:Bool,pO (IF 0 ((i:Nat)-7) ((j:Nat)-7) h) (shT 0)=true:=by decide +kernel
theorem sh1 {n:Str}(a:cW n=true)(b:cW u=true)(c:aS x=true)(d:aS y=true):dS ⟨1,n,x,y,[],u,[],[],[],[]⟩=0:=by
 unfold dS;rw [aG am,aG (by simp [kK,a,b]),aG (by simp [lD,c,d]),aG (by simp [kO])]
theorem sh2 {n d l:Str}(a:cW n=true)(b:cW u=true)(c:cW l=true)(e:aS x=true)(f:aS y=true)(g:aS d=true):dS ⟨2,n,x,y,d,u,l,[],[],[]⟩=0:=by
 unfold dS;rw [aG am,aG (by simp [kK,a,b,c]),aG (by simp [lD,e,f,g]),aG (by simp [kO])]
theorem sh3 {n l a b c:Str}(d:cW n=true)(e:cW u=true)(f:cW l=true)(g:aS x=true)(h:aS y=true)(i:aS a=true)(j:aS b=true)(k:aS c=true):dS ⟨3,n,x,y,[],u,l,a,b,c⟩=0:=by
 unfold dS;rw [aG am,aG (by simp [kK,d,e,f]),aG (by simp [lD,g,h,i,j,k]),aG (by simp [kO])]
theorem pL (j:Nat)(a:j<3):ka (isU (qV j)) colK 0=(j:Int):=by
 rcases (by omega:j=0∨j=1∨j=2) with rfl | rfl | rfl <;> decide +kernel
theorem uf (j:Nat)(a:j<3):cW (qV j)=true:=by
 rcases (by omega:j=0∨j=1∨j=2) with rfl | rfl | rfl <;> decide +kernel
theorem Mo (i:Nat)(a:i<6):cW [111,UInt8.ofNat (49+i)]=true:=by
 rcases (by omega:i=0∨i=1∨i=2∨i=3∨i=4∨i=5) with rfl | rfl | rfl | rfl | rfl | rfl <;> decide +kernel
theorem Om {j:Nat}(c:i<6)(d:j<6)(h:([111,UInt8.ofNat (49+i)]:Str)=[111,UInt8.ofNat (49+j)]):i=j:=by
 have e:∀ a<6,∀ b<6,([111,UInt8.ofNat (49+a)]:Str)=[111,UInt8.ofNat (49+b)]->a=b:=by decide
 exact e i c j d h
theorem I9 (s:Sgt):min (loU s) (upU s)<max (loU s) (upU s):=by
 unfold loU upU;split <;> omega
theorem dW (z:Int)(h:z.natAbs<100):QB 1 ((z:Int):Rat):=by
 refine ⟨?_, ?_⟩
 ·show z.natAbs<B9 ^ 1;have:B9 ^ 1=1000000000:=by decide
  omega
 show 1<B9 ^ 1;decide
theorem ud (z:Int):ff z≠0:=by
 unfold ff;split
 ·decide
 assumption
theorem nS (z:Int):-5<ff z/\ff z<5:=by
 have:=nA z;unfold ff;split <;> omega
theorem ok1 (h:QB 1 q):aS (qtx q)=true:=bB (h.le dc_)
theorem sr (n:Nat):QB 1 (kQ ((n % 12:Nat):Int) 2):=pZ dc_ om_ dc_
theorem MT (n:Nat):¬ (kQ ((n % 12:Nat):Int) 2<0):=by
 have a:∀ k<12,¬ (kQ ((k:Nat):Int) 2<0):=by decide +kernel
 exact a _ (Qj _ dc_)
theorem IY (S:Sht)(s:Sgt)(i:Nat)(m:i<6)(j:QP 1 (lA S s))(n:jL (cC (S.kd % 8) S.a S.b S.h) (shT (S.kd % 8)) (lA S s)≠[]) :
  gS (cC (S.kd % 8) S.a S.b S.h) (shT (S.kd % 8)) colK (fK S s i)=0:=by
 have f:=Mo i m;have c:=ok1 j.1;have hy:=ok1 j.2;have q:=I9 s;have r:=Mv s;have t:=Le s;have g:∀ o:Obs,o.x=qtx (lA S s).1->o.y=qtx (lA S s).2->JN (cC (S.kd % 8) S.a S.b S.h) (shT (S.kd % 8)) o=true:=by
  intro o h1 h2;unfold JN ptO;rw [h1,h2,cR c,cR hy];exact P0 n
 have p:=pL (s.u1 % 3) om_;have d:=pL (max (loU s) (upU s)) om_;have e:=pL (min (loU s) (upU s)) om_;have n1:=uf (s.u1 % 3) om_;have n2:=uf (max (loU s) (upU s)) om_;have k:=uf (min (loU s) (upU s)) om_;unfold fK gS;split
 ·rw [aG (by rw [sh1 f n1 c hy];decide),aG (by rw [g _ rfl rfl];decide),aG (by simp [Kk,p] <;> omega),aG (by simp [ordB]),aG (by simp [depB]),aG (by simp [HK])]
 split
 ·have l:=ok1 (sr s.depth);rw [aG (by rw [sh2 f n2 k c hy l];decide),aG (by rw [g _ rfl rfl];decide),aG (by simp only [Kk,d,e];simp <;> omega),aG (by simp only [ordB,d,e];simp <;> omega),aG (by simp only [depB];rw [cR l,Qc (MT s.depth)];decide),aG (by simp [HK])]
 have h0:=nA s.n0;have h1:=nA s.n1;have h2:=nS s.n2;rw [aG (by rw [sh3 f n2 k c hy (ok1 (dW _ om_)) (ok1 (dW _ om_)) (ok1 (dW _ om_))];decide),aG (by rw [g _ rfl rfl];decide),aG (by simp only [Kk,d,e];simp <;> omega),aG (by simp only [ordB,d,e];simp <;> omega),aG (by simp [depB]),aG ?_];intro h;simp only [HK,PR,PN] at h;have h3:=h.2;rw [<- qtx_zero] at h3;have h4:=ly h3;have h5:=ud s.n2;exact h5 (by exact_mod_cast h4)
theorem all1:∀ i<15,∀ j<15,∀ h:Bool,pO (IF 1 ((i:Nat)-7) ((j:Nat)-7) h) (shT 1)=true:=by decide +kernel
theorem all2:∀ i<15,∀ j<15,∀ h:Bool,pO (IF 2 ((i:Nat)-7) ((j:Nat)-7) h) (shT 2)=true:=by decide +kernel
theorem all3:∀ i<15,∀ j<15,∀ h:Bool,pO (IF 3 ((i:Nat)-7) ((j:Nat)-7) h) (shT 3)=true:=by decide +kernel
theorem all4:∀ i<15,∀ j<15,∀ h:Bool,pO (IF 4 ((i:Nat)-7) ((j:Nat)-7) h) (shT 4)=true:=by decide +kernel
theorem all5:∀ i<15,∀ j<15,∀ h:Bool,pO (IF 5 ((i:Nat)-7) ((j:Nat)-7) h) (shT 5)=true:=by decide +kernel
theorem all6:∀ i<15,∀ j<15,∀ h:Bool,pO (IF 6 ((i:Nat)-7) ((j:Nat)-7) h) (shT 6)=true:=by decide +kernel
theorem all7:∀ i<15,∀ j<15,∀ h:Bool,pO (IF 7 ((i:Nat)-7) ((j:Nat)-7) h) (shT 7)=true:=by decide +kernel
theorem vB (a:Int):∃ i:Nat,i<15/\a.tmod 8=(i:Int)-7:=by
 have h:=xZ a;exact ⟨(a.tmod 8+7).toNat,by omega,by omega⟩
theorem yk (m:Nat)(g:m<8)(a b:Int)(h:Bool):pO (cC m a b h) (shT m)=true:=by
 obtain ⟨i,c,e⟩:=vB a;obtain ⟨j,d,f⟩:=vB b;rw [Oc,e,f];rcases (by omega:m=0∨m=1∨m=2∨m=3∨m=4∨m=5∨m=6∨m=7) with rfl | rfl | rfl | rfl | rfl | rfl | rfl | rfl
 ·exact all0 i c j d h
 ·exact all1 i c j d h
 ·exact all2 i c j d h
 ·exact all3 i c j d h
 ·exact all4 i c j d h
 ·exact all5 i c j d h
 ·exact all6 i c j d h
 exact all7 i c j d h
theorem Ls:∀ m:Nat,m<8->shT m≠[]/\(shT m).length<=800:=by decide
theorem Gn {a:List Pt}{b:List Tri}(h:pO a b=true)(c:b≠[])(d:b.length<=800)(e:a.length<=400):Good a b/\∀ p∈a,jL a b p≠[]:=by
 unfold pO at h;simp only [PR,PY,PN] at h;obtain ⟨f,g,i,j,k,l,m⟩:=h;exact ⟨⟨⟨f,g,i,j,k,d,e⟩,c,l⟩,m⟩
theorem gt (m:Nat)(c:m<8)(a b:Int)(h:Bool):Good (cC m a b h) (shT m)/\∀ p∈cC m a b h,jL (cC m a b h) (shT m) p≠[]:=by
 have d:=jF m a b h;obtain ⟨h0,h1⟩:=Ls m c;exact Gn (yk m c a b h) h0 h1 om_
theorem tJ (S:Sht)(s:Sgt)(c:SgtR s):QP 1 (lA S s)/\jL (cC (S.kd % 8) S.a S.b S.h) (shT (S.kd % 8)) (lA S s)≠[]:=by
 obtain ⟨d,e⟩:=gt (S.kd % 8) (Qj _ dc_) S.a S.b S.h;have f:0<(cC (S.kd % 8) S.a S.b S.h).length:=by rw [cC,al];exact yl _
 unfold lA;split
 ·rename_i h;exact ⟨Bd dc_ dc_ c.px c.py,h⟩
 have g:s.depth % (cC (S.kd % 8) S.a S.b S.h).length<(cC (S.kd % 8) S.a S.b S.h).length:=Qj _ f;rw [ax,aj g,QW];exact ⟨d.ok.q _ (Qx _),e _ (Qx _)⟩
theorem gZ (h:QB 1 q):(qtx q).length<=999998:=wa (fs:=[q]) (k:=1) dc_ (by intro y hy;rw [PZ] at hy;rw [hy];exact h) _ (PZ.2 rfl)
theorem Pk (S:Sht)(s:Sgt)(i:Nat)(c:SgtR s):ObsR (fK S s i):=by
 have b:=(tJ S s c).1;have a:=gZ b.1;have hy:=gZ b.2;have d:=gZ (sr s.depth);have h0:=nA s.n0;have h1:=nA s.n1;have h2:=nS s.n2;have e:=gZ (dW (s.n0.tmod 5) om_);have l1:=gZ (dW (s.n1.tmod 5) om_);have l2:=gZ (dW (ff s.n2) om_);unfold fK;split
 ·exact ⟨by simp,a,hy,by simp,by simp [qV],by simp,by simp,by simp,by simp⟩
 split
 ·exact ⟨by simp,a,hy,d,by simp [qV],by simp [qV],by simp,by simp,by simp⟩
 exact ⟨by simp,a,hy,by simp,by simp [qV],by simp [qV],e,l1,l2⟩
theorem wu (S:Sht)(s:Sgt)(i:Nat):(fK S s i).name=[111,UInt8.ofNat (49+i)]:=by
 unfold fK;split
 ·rfl
 split <;> rfl
theorem mb {S:Sht}{H:Hts}{l:List Sgt}{o:Obs}(h:(ef S H l).obs[i]?=some o):i<6/\∃ s,l[i]?=some s/\o=fK S s i:=by
 have h1:=(aJ.1 h).1;have h2:i<(vf S l).length:=h1;rw [lC] at h2;have h3:=FE S (aj (show i<l.length by omega)) (show i<6 by omega);have h4:(vf S l)[i]?=some o:=h;rw [h3] at h4;exact ⟨by omega,_,aj om_,(Rf h4).symm⟩
theorem DJ (S:Sht)(H:Hts)(l:List Sgt)(e:∀ s∈l,SgtR s):iq (ef S H l)=0:=by
 have f:∀ n,n<=(ef S H l).obs.length->vg (ef S H l) n=0:=by
  intro n;induction n with
  | zero=>intro _;rfl
  | succ n g =>
   intro i;have h0:=g om_;have a:(ef S H l).obs[n]?=some (ef S H l).obs[n]:=aj i;rw [tS h0 a];obtain ⟨b,s,j,m⟩:=mb a;rw [m];have c:=tJ S s (e s (O0 j));unfold obZ;rw [aG (by
    have:=IY S s n b c.1 c.2;intro h;exact h this),aG]
   intro hm;obtain ⟨o,p,d⟩:=PK.1 hm;obtain ⟨k,x,r⟩:=List.mem_take_iff_getElem.1 p;have t:(ef S H l).obs[k]?=some o:=by rw [<- r];exact aj _
   obtain ⟨u,y,_,v⟩:=mb t;rw [v,wu,wu] at d;have:=Om u b d;omega
 unfold iq;have z:(ef S H l).obs.length<=6:=by
  show (vf S l).length<=6;rw [lC];omega
 have h1:yP (ef S H l).pts.length (ef S H l).terr=0:=by
  unfold yP;rw [aK (by show ((fsK _ H).map qtx).length=_;rw [al,uq];rfl)];show nX (((fsK _ H).map qtx).all aS)=0;rw [xG (fun q w=>ok1 (Gx _ H q w))];rfl
 have h2:ri (ef S H l).col=0:=by
  show ri colK=0;decide +kernel
 rw [aG (by rw [h1];decide),aG (by rw [h2];decide),aG om_];exact f _ (PE _)
theorem Pu:∀ x∈colK,No x:=by
 intro x a;simp only [colK,PQ,QF,R0] at a;rcases a with rfl | rfl | rfl
 ·exact ⟨by decide +kernel,fun q h=>by simp at h,by decide⟩
 ·exact ⟨by decide +kernel,fun q h=>by simp at h;subst h;decide +kernel,by decide⟩
 exact ⟨by decide +kernel,fun q h=>by simp at h,by decide⟩
theorem M5 (S:Sht)(H:Hts)(l:List Sgt)(a:∀ s∈l,SgtR s):BookR (ef S H l):=by
 refine ⟨?_,Pu,(by show colK.length<=1000000;decide), ?_⟩
 ·intro s h;obtain ⟨q,b,rfl⟩:=PK.1 h;exact gZ (Gx _ H q b)
 intro o c;obtain ⟨i,d⟩:=List.mem_iff_getElem?.1 c;obtain ⟨_,s,e,rfl⟩:=mb d;exact Pk S s i (a s (O0 e))
theorem JX (S:Sht)(H:Hts)(l:List Sgt):bs (ef S H l)=2:=rfl
theorem JY (S:Sht)(H:Hts)(l:List Sgt):0<bp (ef S H l)/\bp (ef S H l)<=6:=by
 refine ⟨?_,jF _ _ _ _⟩;show 0<(cC (S.kd % 8) S.a S.b S.h).length;rw [cC,al];exact yl _
def Hv (C:Mem)(pv:Value)(S:Sht)(H:Hts)(l:List Sgt):Prop:=∃ A c,pv=.agg ⟨Mc S H (.slice A l.length c)⟩/\Sl C 9 (.slice A l.length c) (l.map Nk)
structure PlanR (S:Sht)(H:Hts)(l:List Sgt):Prop where
 kd:S.kd<256
 h:OZ H
 s:∀ s∈l,SgtR s
def Ki (s p:Nat)(a b:Int):Prop:=a<0∨(s:Int)<=a∨b<0∨(p:Int)<=b
instance (s p:Nat) (a b:Int):Decidable (Ki s p a b):=by unfold Ki;infer_instance
def KA (n:Nat)(x:Int):Prop:=x<0∨(n:Int)<=x
instance (n:Nat) (x:Int):Decidable (KA n x):=by unfold KA;infer_instance
open Go Go.Jog Go.ChangeShapes Go.WideShapes Go.ChangeAt Go.RowKit
set_option maxRecDepth 100000
theorem own:ownKnob Tryz.prog.godebug=none:=by kernel_rfl
section
variable {H:Type} {enc:TypeId × Value->H} {W:World} {spare:Nat->Bool} {held:Bool}
theorem Pc {n:Nat}{c:Value}{y:DataW H × List MemPlace}(h:DataW.trod enc Tryz.prog W 0 spare held n 5 [c]=some y):∃ b:UInt8,c=.int .u8 b.toNat:=by
 obtain ⟨m,h1,_,h3⟩:=DataW.trod_int Tryz.underlying5 h;simp only [RK,SD] at h1;subst h1;have a:0<=m/\m<256:=by
  simp [Lit.wf,IntKind.min,IntKind.max,IntKind.signed,IntKind.bits] at h3;omega
 refine ⟨UInt8.ofNat m.toNat, ?_⟩;congr 1;simp only [UInt8.toNat_ofNat'];omega
theorem vy {n:Nat}{c:Value}{y:DataW H × List MemPlace}(h:DataW.trod enc Tryz.prog W 0 spare held n 5 [c]=some y):∃ m:Nat,c=.int .u8 m/\m<256:=by
 obtain ⟨b,rfl⟩:=Pc h;exact ⟨b.toNat,Z,b.toNat_lt⟩
theorem mN {n:Nat}{c:Value}{y:DataW H × List MemPlace}(h:DataW.trod enc Tryz.prog W 0 spare held n 22 [c]=some y):∃ m:Int,c=.int .i8 m/\-128<=m/\m<=127:=by
 obtain ⟨m,h1,_,h3⟩:=DataW.trod_int Tryz.underlying22 h;simp only [RK,SD] at h1;refine ⟨m,h1, ?_⟩;simp [Lit.wf,IntKind.min,IntKind.max,IntKind.signed,IntKind.bits] at h3;omega
theorem Hm {n:Nat}{c:Value}{y:DataW H × List MemPlace}(h:DataW.trod enc Tryz.prog W 0 spare held n 4 [c]=some y):∃ b:Bool,c=.bool b:=by
 obtain ⟨b,h1,_⟩:=DataW.trod_bool Tryz.underlying4 h;simp only [RK,SD] at h1;exact ⟨b,h1⟩
theorem xF {t e:TypeId}{k n:Nat}{a:List Value}{y:DataW H × List MemPlace}(b:Tryz.prog.underlying t=some (.array k e))(c:Tryz.prog.cellsOf e=1)(h:DataW.trod enc Tryz.prog W 0 spare held n t a=some y) :
  ∃ m,∀ i,i<k->∃ z,DataW.trod enc Tryz.prog W 0 spare held m e ((a.drop i).take 1)=some z:=by
 obtain ⟨xs,m,_,_,_,g,d⟩:=DataW.trod_array b h;refine ⟨m,fun i f=>?_⟩;have h1:=d i f;rw [c,QD] at h1;rw [h1,aj om_];exact ⟨_,Z⟩
theorem uM:Tryz.prog.cellsOf 5=1:=by kernel_rfl
theorem nY:Tryz.prog.cellsOf 22=1:=by kernel_rfl
theorem sI:Tryz.prog.cellsOf 4=1:=by kernel_rfl
theorem xu:Tryz.prog.cellsOf 23=2:=by kernel_rfl
theorem Hd:Tryz.prog.cellsOf 135=2:=by kernel_rfl
theorem JT:Tryz.prog.cellsOf 136=3:=by kernel_rfl
theorem JS:Tryz.prog.cellsOf 26=6:=by kernel_rfl
theorem If {n:Nat}{c d e f:Value}{y:DataW H × List MemPlace}(h:DataW.trod enc Tryz.prog W 0 spare held n 25 [c,d,e,f]=some y):∃ S:Sht,[c,d,e,f]=([.int .u8 S.kd,.int .i8 S.a,.int .i8 S.b,.bool S.h]:List Value)/\S.kd<256:=by
 obtain ⟨y0,y1,y2,l,_,o,h0,h1,h2⟩:=Go.Deep.trod_struct3 Tryz.underlying25 h;simp only [uM,xu,sI] at h0 h1 h2;obtain ⟨kd,rfl,i⟩:=vy h0;obtain ⟨m,g⟩:=xF Tryz.underlying23 nY h1;obtain ⟨p,j⟩:=g 0 dc_;obtain ⟨q,k⟩:=g 1 dc_;obtain ⟨a,rfl,_⟩:=mN j;obtain ⟨b,rfl,_⟩:=mN k;obtain ⟨hh,rfl⟩:=Hm h2;exact ⟨⟨kd,a,b,hh⟩,Z,i⟩
theorem Dj {n:Nat}{b c d e f g i:Value}{y:DataW H × List MemPlace}(h:DataW.trod enc Tryz.prog W 0 spare held n 28 [b,c,d,e,f,g,i]=some y):∃ G:Hts,[b,c,d,e,f,g,i]=Ou G/\OZ G:=by
 obtain ⟨y0,y1,u,_,v,h0,h1⟩:=Go.ChangeShapes.trod_struct2 Tryz.underlying28 h;simp only [JS,sI] at h0 h1;obtain ⟨m,a⟩:=xF Tryz.underlying26 nY h0;obtain ⟨w,k⟩:=a 0 dc_;obtain ⟨x,l⟩:=a 1 dc_;obtain ⟨A,o⟩:=a 2 dc_;obtain ⟨B,p⟩:=a 3 dc_;obtain ⟨C,q⟩:=a 4 dc_;obtain ⟨D,r⟩:=a 5 dc_;obtain ⟨x0,rfl,g0⟩:=mN k;obtain ⟨x1,rfl,E⟩:=mN l;obtain ⟨x2,rfl,F⟩:=mN o;obtain ⟨x3,rfl,I⟩:=mN p;obtain ⟨s,rfl,J⟩:=mN q;obtain ⟨t,rfl,K⟩:=mN r;obtain ⟨hh,rfl⟩:=Hm h1;refine ⟨⟨x0,x1,x2,x3,s,t,hh⟩,Z, ?_⟩;intro z j;simp only [HH,PQ,QF,R0] at j;rcases j with rfl | rfl | rfl | rfl | rfl | rfl <;> assumption
theorem vz {P:Program}{t:TypeId}{b c d e f:Field}{j:Nat}{a:List Value}{x:DataW H × List MemPlace}(k:P.underlying t=some (.struct #[b,c,d,e,f]))(h:DataW.trod enc P W 0 spare held j t a=some x) :
  ∃ y0 y1 y2 y3 i n,DataW.trod enc P W 0 spare held n b.type ((a.drop b.offset).take (P.cellsOf b.type))=some y0/\DataW.trod enc P W 0 spare held n c.type ((a.drop c.offset).take (P.cellsOf c.type))=some y1/\DataW.trod enc P W 0 spare held n d.type ((a.drop d.offset).take (P.cellsOf d.type))=some y2 /\
   DataW.trod enc P W 0 spare held n e.type ((a.drop e.offset).take (P.cellsOf e.type))=some y3/\DataW.trod enc P W 0 spare held n f.type ((a.drop f.offset).take (P.cellsOf f.type))=some i:=by
 obtain ⟨xs,n,_,rfl,m,l,g⟩:=DataW.trod_struct k h
 match xs,l with
 | [y0,y1,y2,y3,i],_=>exact ⟨y0,y1,y2,y3,i,n,by simpa using g 0 b rfl,by simpa using g 1 c rfl,by simpa using g 2 d rfl,by simpa using g 3 e rfl,by simpa using g 4 f rfl⟩
theorem Ia {n:Nat}{a:List Value}{y:DataW H × List MemPlace}(b:a.length=9)(h:DataW.trod enc Tryz.prog W 0 spare held n 138 a=some y):∃ s:{s:Sgt // SgtR s},a=Nk s.1:=by
 obtain ⟨y0,y1,y2,y3,w,x,h0,h1,h2,h3,h4⟩:=vz Tryz.underlying138 h
 match a,b with
 | [c0,z,c2,A,B,C,D,E,F],_ =>
   simp only [uM,xu,Hd,JT] at h0 h1 h2 h3 h4;obtain ⟨kd,rfl,c⟩:=vy h0;obtain ⟨G,a1⟩:=xF Tryz.underlying23 nY h1;obtain ⟨w0,e⟩:=a1 0 dc_;obtain ⟨w1,f⟩:=a1 1 dc_;obtain ⟨px,rfl,g⟩:=mN e;obtain ⟨py,rfl,i⟩:=mN f;obtain ⟨I,a2⟩:=xF Tryz.underlying135 uM h2;obtain ⟨J,j⟩:=a2 0 dc_;obtain ⟨K,k⟩:=a2 1 dc_;obtain ⟨u0,rfl,l⟩:=vy j;obtain ⟨u1,rfl,m⟩:=vy k;obtain ⟨d,rfl,o⟩:=vy h3;obtain ⟨L,a4⟩:=xF Tryz.underlying136 nY h4;obtain ⟨M,p⟩:=a4 0 dc_;obtain ⟨N,q⟩:=a4 1 dc_;obtain ⟨O,r⟩:=a4 2 dc_;obtain ⟨n0,rfl,t⟩:=mN p;obtain ⟨n1,rfl,u⟩:=mN q;obtain ⟨n2,rfl,v⟩:=mN r;exact ⟨⟨⟨kd,px,py,u0,u1,d,n0,n1,n2⟩,⟨c,g,i,l,m,o,t,u,v⟩⟩,Z⟩
theorem EG {b:Nat}{v:Value}{x:DataW H × List MemPlace}(h:DataW.trod enc Tryz.prog W 0 spare held b 29 [v]=some x):∃ l:List Sgt,Sl (qT W) 9 v (l.map Nk)/\∀ s∈l,SgtR s:=by
 obtain ⟨l,a⟩:=EF (fun s:{s:Sgt // SgtR s}=>Nk s.1) Tryz.underlying29 kr_ dc_ (fun n cs y a hy=>Ia a hy) h;refine ⟨l.map (·.1),by rw [QC];exact a,fun s hs=>?_⟩;obtain ⟨z,_,rfl⟩:=PK.1 hs;exact z.2
theorem Mb {n:Nat}{a:List Value}{y:DataW H × List MemPlace}(h:DataW.trod enc Tryz.prog W 0 spare held n 31 a=some y):∃ S G l,Hv (qT W) (.agg ⟨a⟩) S G l/\PlanR S G l:=by
 obtain ⟨y0,y1,y2,o,_,d,h0,h1,h2⟩:=Go.Deep.trod_struct3 Tryz.underlying31 h;have g:Tryz.prog.cellsOf 31=12:=by kernel_rfl
 have h4:Tryz.prog.cellsOf 25=4:=by kernel_rfl
 have i:Tryz.prog.cellsOf 28=7:=by kernel_rfl
 have hs:Tryz.prog.cellsOf 29=1:=by kernel_rfl
 rw [g] at d
 match a,d with
 | [c0,p,c2,q,r,s,t,u,v,w,x,z],_ =>
  simp only [h4,i,hs] at h0 h1 h2;obtain ⟨S,e,j⟩:=If h0;obtain ⟨G,f,k⟩:=Dj h1;obtain ⟨l,b,m⟩:=EG h2;obtain ⟨A,c,rfl,_⟩:=id b;simp only [RK,SD] at e;obtain ⟨rfl,rfl,rfl,rfl⟩:=e;simp only [Ou,RK,SD] at f;obtain ⟨rfl,rfl,rfl,rfl,rfl,rfl,rfl⟩:=f;simp only [al] at b ⊢;exact ⟨S,G,l,⟨A,c,Z,b⟩,j,k,m⟩
end
def lM (cs:Array Value):Obj->Obj
 | .cells _ t frozen=>.cells cs t frozen
 | o=>o
def GY:Array Value:=(Lib.deBruijn32tab.map fun z:Nat=>Value.int .u8 (z:Int)).toArray
def GX:Array Value:=(Lib.deBruijn64tab.map fun z:Nat=>Value.int .u8 (z:Int)).toArray
def CU:Array Value:=(Lib.pow10Tab.map fun z=>Value.int .u64 z).toArray
def E4:ByteArray:=⟨#[118,97,108,117,101,32,111,117,116,32,111,102,32,114,97,110,103,101]⟩
def Cy:ByteArray:=⟨#[105,110,118,97,108,105,100,32,115,121,110,116,97,120]⟩
noncomputable def low:Nat:=(World.holding Tryz.prog default ⟨#[],#[],[]⟩).heap.size
noncomputable def pK (os:Os):World :=
 let w0:=World.holding Tryz.prog os ⟨#[.cells #[.string E4] 416,.cells #[.string Cy] 416],#[],[]⟩
 { w0 with heap:=((((w0.heap.modify 4 (lM GY)).modify 5 (lM GX)).modify 3 (lM CU)).modify 2 (lM #[.iface 414 (.pointer (some ⟨low,0,none⟩))])).modify 1 (lM #[.iface 414 (.pointer (some ⟨low+1,0,none⟩))]) }
theorem Lj {W : World} (h : laidMet Tryz.prog [("math/bits.deBruijn32tab", Rows.laid_math_bits_deBruijn32tab), ("math/bits.deBruijn64tab", Rows.laid_math_bits_deBruijn64tab), ("internal/strconv.uint64pow10", Rows.laid_internal_strconv_uint64pow10), ("strconv.ErrRange", Rows.laid_strconv_ErrRange), ("strconv.ErrSyntax", Rows.laid_strconv_ErrSyntax)] W) : Tabs (qT W) := by
 have h1:=h.tail;have h2:=h1.tail;have b:(Rows.laid_math_bits_deBruijn64tab:DataW Unit)=Lib.tabData .u8 (Lib.deBruijn64tab.map fun z:Nat=>(z:Int)):=by rfl
 rw [b] at h1;have a:=Lib.tabIs_of_head (g:=5) (t:=418) (e:=5) (n:=64) kr_ kr_ Tryz.underlying418 Tryz.underlying5 kr_ kr_ h1;have c:(Rows.laid_internal_strconv_uint64pow10:DataW Unit)=Lib.tabData .u64 Lib.pow10Tab:=by rfl
 rw [c] at h2;have d:=Lib.tabIs_of_head (g:=3) (t:=412) (e:=285) (n:=20) kr_ kr_ Tryz.underlying412 Tryz.underlying285 kr_ kr_ h2;refine ⟨VarC.ofWorld d, ?_⟩;unfold Lib.TabIs at a;rw [QC] at a;exact VarC.ofWorld a
theorem ue:laidOutB Tryz.prog=true:=by kernel_rfl
section
variable {H:Type} {enc:TypeId × Value->H} {W:World} {spare:Nat->Bool} {held:Bool}
theorem EY {n:Nat}{c:Value}{y:DataW H × List MemPlace}(h:DataW.trod enc Tryz.prog W 0 spare held n 32 [c]=some y):∃ s:Str,c=af s:=by
 obtain ⟨⟨⟨l⟩⟩,h1,_⟩:=DataW.trod_string Tryz.underlying32 h;simp only [RK,SD] at h1;exact ⟨l,h1⟩
theorem IL {n:Nat}{c:List Value}{y:DataW H × List MemPlace}(h:DataW.trod enc Tryz.prog W 0 spare held n 34 c=some y):∃ a b:Str,c=[af a,af b]:=by
 obtain ⟨_,_,_,_,d,e,f⟩:=Go.ChangeShapes.trod_struct2 Tryz.underlying34 h;have g:Tryz.prog.cellsOf 34=2:=by kernel_rfl
 have i:Tryz.prog.cellsOf 32=1:=by kernel_rfl
 rw [g] at d
 match c,d with
 | [c0,j],_ =>
  simp only [i] at e f;obtain ⟨a,rfl⟩:=EY e;obtain ⟨b,rfl⟩:=EY f;exact ⟨a,b,Z⟩
end
end Go.Proofs.YtfjcldheldflbaaGreatDoor
namespace Go.Proofs.YtfjcldheldflbaaGreatDoor
open Go.Proofs.Tryz
open Go Go.Jog
set_option maxRecDepth 100000
variable {a b:Int}{fs:List Rat}{h:Bool}{i k:Nat}{k0 k1 k2:Int}{m n:Nat}{p:Pt}{pts:List Pt}{q:Rat}{t:Tri}{w x0 x1 x2 x3 y0 y1 y2 y3 z:Int}{α:Type}{l:List α}
/-! Small parts: numbers of quarters and of halves. -/
theorem AR (a:w≠0)(h:q*w=z):q=kQ z w:=by
 have c:(w:Rat)≠0:=by simpa using a
 unfold kQ;rw [Rat.mkRat_eq_div];have b:q=z / w:=by grind
 rw [b];split
 ·rename_i d;have:((w.natAbs:Nat):Int)=-w:=by omega
  rw [show ((w.natAbs:Nat):Rat)=(((w.natAbs:Nat):Int):Rat) from rfl,this];simp only [Rat.intCast_neg];grind
 have:((w.natAbs:Nat):Int)=w:=by omega
 rw [show ((w.natAbs:Nat):Rat)=(((w.natAbs:Nat):Int):Rat) from rfl,this]
theorem nU (a:w≠0):kQ z w*w=z:=by
 have b:(w:Rat)≠0:=by simpa using a
 have h:=AR (q:=(z:Rat) / w) (z:=z) a (by grind);rw [<- h];grind
theorem oZ (a:w≠0)(h:q*w=z)(b:z.natAbs<1000000000)(c:w.natAbs<1000000000):QB 1 q:=by
 rw [AR a h];exact pZ a b c
def iA (x0 y0 x1 y1 x2 y2:Int):Int:=(x1-x0)*(y2-y0)-(y1-y0)*(x2-x0)
def At4 (p:Pt)(x y:Int):Prop:=p.1*4=x/\p.2*4=y
def Qtr (p:Pt):Prop:=∃ x y:Int,At4 p x y/\(-600<=x/\x<=600)/\(-600<=y/\y<=600)
def Hlf (z:Rat):Prop:=∃ k:Int,z*2=k/\(-38<=k/\k<=38)
theorem jV {a b c:Pt}(d:At4 a x0 y0)(e:At4 b x1 y1)(f:At4 c x2 y2):cK a b c*16=(iA x0 y0 x1 y1 x2 y2:Int):=by
 unfold iA cK;simp only [RS,Qv];rw [<- d.1,<- d.2,<- e.1,<- e.2,<- f.1,<- f.2];grind
theorem dx {M K:Nat}(c:a.natAbs<=M)(d:b.natAbs<=K):(a*b).natAbs<=M*K:=by
 rw [Q9];exact Q3 c d
theorem wS (h:(-600<=x0/\x0<=600)/\(-600<=y0/\y0<=600)/\(-600<=x1/\x1<=600)/\(-600<=y1/\y1<=600)/\(-600<=x2/\x2<=600)/\(-600<=y2/\y2<=600)):(iA x0 y0 x1 y1 x2 y2).natAbs<=2880000:=by
 have h1:=dx (a:=x1-x0) (b:=y2-y0) (M:=1200) (K:=1200) om_ om_;have h2:=dx (a:=y1-y0) (b:=x2-x0) (M:=1200) (K:=1200) om_ om_;unfold iA;omega
theorem oW {n d:Rat}{N W:Int}(b:n*16=N)(c:d*16=W)(a:d≠0):W≠0/\n / d*W=N:=by
 constructor
 ·intro h;subst h;exact a (by grind)
 grind
theorem ND (a:∀ j,Qtr (cor pts t j))(b:cK (cor pts t 0) (cor pts t 1) (cor pts t 2)≠0)(c:Qtr p)(j:Nat):QB 1 (wgt pts t p j):=by
 obtain ⟨x0,y0,h0,d,e⟩:=a 0;obtain ⟨x1,y1,h1,f,g⟩:=a 1;obtain ⟨x2,y2,h2,h,i⟩:=a 2;obtain ⟨x3,y3,h3,k,l⟩:=a ((j+1) % 3);obtain ⟨m,n,h4,o,q⟩:=a ((j+2) % 3);obtain ⟨r,s,h5,u,v⟩:=c;obtain ⟨w,x⟩:=oW (jV h5 h3 h4) (jV h0 h1 h2) b;have k1:=wS (x0:=r) (y0:=s) (x1:=x3) (y1:=y3) (x2:=m) (y2:=n) ⟨u,v,k,l,o,q⟩;have k2:=wS (x0:=x0) (y0:=y0) (x1:=x1) (y1:=y1) (x2:=x2) (y2:=y2) ⟨d,e,f,g,h,i⟩;exact oZ w x om_ om_
theorem iI {a b c:Pt}{e f g:Rat}(i:At4 a x0 y0)(j:At4 b x1 y1)(k:At4 c x2 y2)(n:e*2=k0)(o:f*2=k1)(p:g*2=k2)(l:cK a b c≠0) :
  iA x0 y0 x1 y1 x2 y2≠0/\(nh a b c e f g).1*(iA x0 y0 x1 y1 x2 y2:Int)=((2*((k1-k0)*(y2-y0)-(y1-y0)*(k2-k0)):Int):Rat)/\(nh a b c e f g).2*(iA x0 y0 x1 y1 x2 y2:Int)=((2*((x1-x0)*(k2-k0)-(k1-k0)*(x2-x0)):Int):Rat):=by
 have m:=jV i j k;have q:eo (b.1-a.1) (b.2-a.2) (c.1-a.1) (c.2-a.2)=cK a b c:=by unfold eo cK;grind
 refine ⟨fun h=>l (by rw [h] at m;grind), ?_, ?_⟩
 ·unfold nh;simp only;rw [q,<- m];unfold eo;simp only [RS,Qv];rw [<- i.2,<- j.2,<- k.2,<- n,<- o,<- p];generalize cK a b c=d at l;grind
 unfold nh;simp only;rw [q,<- m];unfold eo;simp only [RS,Qv];rw [<- i.1,<- j.1,<- k.1,<- n,<- o,<- p];generalize cK a b c=d at l;grind
theorem jS {c d:Int}(h:a.natAbs<=76/\b.natAbs<=1200/\c.natAbs<=1200/\d.natAbs<=76):(a*b-c*d).natAbs<=182400:=by
 have h1:=dx h.1 h.2.1;have h2:=dx h.2.2.1 h.2.2.2;omega
theorem H7 (e:∀ j,Qtr (cor pts t j))(h:cK (cor pts t 0) (cor pts t 1) (cor pts t 2)≠0)(f:∀ j,Hlf (fz fs t j)):QP 1 (dC pts fs t):=by
 obtain ⟨x0,y0,h0,i,k⟩:=e 0;obtain ⟨x1,y1,h1,l,m⟩:=e 1;obtain ⟨x2,y2,h2,n,o⟩:=e 2;obtain ⟨k0,p,v⟩:=f 0;obtain ⟨k1,q,w⟩:=f 1;obtain ⟨k2,r,x⟩:=f 2;obtain ⟨g,s,u⟩:=iI h0 h1 h2 p q r h;have y:=wS (x0:=x0) (y0:=y0) (x1:=x1) (y1:=y1) (x2:=x2) (y2:=y2) ⟨i,k,l,m,n,o⟩;have z:=jS (a:=k1-k0) (b:=y2-y0) (c:=y1-y0) (d:=k2-k0) ⟨by omega,by omega,by omega,by omega⟩;have A:=jS (a:=k1-k0) (b:=x2-x0) (c:=x1-x0) (d:=k2-k0) ⟨by omega,by omega,by omega,by omega⟩;unfold dC;exact ⟨oZ g s om_ om_,oZ g u om_ om_⟩
theorem KB (c:At4 (cor pts t 0) x0 y0)(h:At4 (cor pts t 1) x1 y1)(i:At4 (cor pts t 2) x2 y2)(e:At4 p x3 y3)(d:fz fs t 0*2=k0)(j:fz fs t 1*2=k1)(k:fz fs t 2*2=k2)
  (l:cK (cor pts t 0) (cor pts t 1) (cor pts t 2)≠0):onQ pts fs t p*((2*iA x0 y0 x1 y1 x2 y2:Int):Rat)=((k0*iA x0 y0 x1 y1 x2 y2+((k1-k0)*(y2-y0)-(y1-y0)*(k2-k0))*(x3-x0)+((x1-x0)*(k2-k0)-(k1-k0)*(x2-x0))*(y3-y0):Int):Rat):=by
 obtain ⟨s,f,g⟩:=iI c h i d j k l;unfold onQ Ew;simp only [R5,List.foldl_nil];have a:=f;have b:=g;unfold dC;generalize (nh (cor pts t 0) (cor pts t 1) (cor pts t 2) (fz fs t 0) (fz fs t 1) (fz fs t 2)).1=u at a ⊢;generalize (nh (cor pts t 0) (cor pts t 1) (cor pts t 2) (fz fs t 0) (fz fs t 1) (fz fs t 2)).2=v at b ⊢;clear f g;generalize ((k1-k0)*(y2-y0)-(y1-y0)*(k2-k0))=n1 at a ⊢;generalize ((x1-x0)*(k2-k0)-(k1-k0)*(x2-x0))=n2 at b ⊢;generalize iA x0 y0 x1 y1 x2 y2=w at a b ⊢;simp only [RS,Qv,SB] at a b ⊢;have m:=c.1;have n:=c.2;have o:=e.1;have q:=e.2;generalize fz fs t 0=x at d ⊢;rw [<- m,<- n,<- o,<- q,<- d];have r:((2:Int):Rat)=2:=rfl;rw [r] at a b ⊢;grind
theorem Og (b:(-600<=x0/\x0<=600)/\(-600<=y0/\y0<=600)/\(-600<=x1/\x1<=600)/\(-600<=y1/\y1<=600)/\(-600<=x2/\x2<=600)/\(-600<=y2/\y2<=600))(g:(-600<=x3/\x3<=600)/\(-600<=y3/\y3<=600))(h:(-38<=k0/\k0<=38)/\(-38<=k1/\k1<=38)/\(-38<=k2/\k2<=38)) :
  (k0*iA x0 y0 x1 y1 x2 y2+((k1-k0)*(y2-y0)-(y1-y0)*(k2-k0))*(x3-x0)+((x1-x0)*(k2-k0)-(k1-k0)*(x2-x0))*(y3-y0)).natAbs<=600000000:=by
 have e:=wS b;have f:=jS (a:=k1-k0) (b:=y2-y0) (c:=y1-y0) (d:=k2-k0) ⟨by omega,by omega,by omega,by omega⟩;have i:=jS (a:=k1-k0) (b:=x2-x0) (c:=x1-x0) (d:=k2-k0) ⟨by omega,by omega,by omega,by omega⟩;have j:=dx (show k0.natAbs<=38 by omega) e;have k:=dx f (show (x3-x0).natAbs<=1200 by omega);have l:=dx (show ((x1-x0)*(k2-k0)-(k1-k0)*(x2-x0)).natAbs<=182400 by omega) (show (y3-y0).natAbs<=1200 by omega);omega
theorem Ph (a:∀ j,Qtr (cor pts t j))(c:cK (cor pts t 0) (cor pts t 1) (cor pts t 2)≠0)(b:∀ j,Hlf (fz fs t j))(n:Qtr p):QB 1 (onQ pts fs t p):=by
 obtain ⟨x0,y0,h0,d,e⟩:=a 0;obtain ⟨x1,y1,h1,f,g⟩:=a 1;obtain ⟨x2,y2,h2,h,i⟩:=a 2;obtain ⟨x3,y3,h3,o⟩:=n;obtain ⟨k0,k,q⟩:=b 0;obtain ⟨k1,l,r⟩:=b 1;obtain ⟨k2,m,s⟩:=b 2;have u:=(iI h0 h1 h2 k l m c).1;have v:=wS (x0:=x0) (y0:=y0) (x1:=x1) (y1:=y1) (x2:=x2) (y2:=y2) ⟨d,e,f,g,h,i⟩;have w:=Og ⟨d,e,f,g,h,i⟩ o ⟨q,r,s⟩;exact oZ om_ (KB h0 h1 h2 h3 k l m c) om_ om_
theorem BH (a:w=1∨w=2∨w=4)(e:-150<=z/\z<=150):∃ x:Int,kQ z w*4=x/\(-600<=x/\x<=600):=by
 have h:=nU (z:=z) (w:=w) om_;have b:((1:Int):Rat)=1:=rfl;have c:((2:Int):Rat)=2:=rfl;have d:((4:Int):Rat)=4:=rfl;rcases a with rfl | rfl | rfl
 ·refine ⟨4*z, ?_,by omega⟩;rw [Qv,<- h,b,d];grind
 ·refine ⟨2*z, ?_,by omega⟩;rw [Qv,<- h,c];grind
 exact ⟨z,h,by omega⟩
theorem wj {x y n:Int}(c:n=1∨n=2)(k:-128<=x/\x<=127)(l:-128<=y/\y<=127):Qtr (dG a b h x y n):=by
 have m:=xZ a;have o:=xZ b;have hh:dQ h=1∨dQ h=2:=by cases h <;> simp [dQ]
 have d:dQ h*n=1∨dQ h*n=2∨dQ h*n=4:=by rcases hh with e | e <;> rcases c with f | f <;> rw [e,f] <;> omega
 obtain ⟨u,g,i⟩:=BH (z:=x+a.tmod 8*n) d (by rcases c with f | f <;> subst f <;> omega);obtain ⟨v,j,bv⟩:=BH (z:=y+b.tmod 8*n) d (by rcases c with f | f <;> subst f <;> omega);exact ⟨u,v,⟨g,j⟩,i,bv⟩
theorem AX :∀ p∈cC m a b h,Qtr p:=by
 intro p c;obtain ⟨x,d,rfl⟩:=PK.1 c;have:=Ko m x d;exact wj (.inl Z) om_ om_
theorem zI:Qtr (0,0):=⟨0,0,⟨by decide +kernel,by decide +kernel⟩,by decide,by decide⟩
theorem nT {P:α->Prop}{d:α}(h:∀ x∈l,P x)(a:P d):P (l.getD i d):=by
 rw [ax];cases h1:l[i]? with
 | none=>exact a
 | some x=>exact h x (O0 h1)
theorem qm (j:Nat):Qtr (cor (cC m a b h) t j):=nT AX zI
theorem MG (n:Nat)(H:Hts):∀ q∈fsK n H,Hlf q:=by
 intro q a;obtain ⟨i,_,rfl⟩:=PK.1 a;have b:=Em ((HH H).getD (i % 6) 0);generalize ((HH H).getD (i % 6) 0).tmod 20=z at b ⊢;have c:((1:Int):Rat)=1:=rfl;have d:((2:Int):Rat)=2:=rfl;rcases uk H.half with e | e
 ·have h:=nU (z:=z) (w:=1) dc_;rw [e];refine ⟨2*z, ?_,by omega⟩;rw [Qv,<- h,c,d];grind
 rw [e];exact ⟨z,nU dc_,by omega⟩
theorem sZ:Hlf 0:=⟨0,by decide +kernel,by decide⟩
theorem Mi:Hlf 1:=⟨2,by decide +kernel,by decide⟩
theorem Gv {H:Hts}(j:Nat):Hlf (fz (fsK n H) t j):=nT (MG n H) sZ
theorem zS (j:Nat):Hlf (fz (nv n k) t j):=nT (fun q a=>by
 rcases zT q a with rfl | rfl
 ·exact sZ
 exact Mi) sZ
theorem AZ (S:Sht)(s:Sgt)(a:SgtR s):Qtr (lA S s):=by
 unfold lA;split
 ·exact wj (.inr Z) a.px a.py
 exact nT AX zI
theorem tC {P:Rat->Prop}{m:List (Nat × Rat)}(a:P 0)(h:∀ x∈m,P x.2):∀ q∈rD n m,P q:=by
 intro q b;obtain ⟨j,_,rfl⟩:=PK.1 b;cases h1:dR m j with
 | none=>exact a
 | some v =>
  exact h _ (gb h1)
theorem oU {s p:Nat}{a:List (Nat × Rat)}{b c:Rat}(e:∀ x∈a,QB 1 x.2)(f:QB 3 b)(d:QB 1 c):Nm (gJ s p k a b c):=by
 refine ⟨tC (QB_zero.le dc_) ?_,(jm d f).le dc_⟩;intro x g;obtain ⟨y,hy,rfl⟩:=PK.1 g;exact (jm d (e y hy)).le dc_
theorem Io {B:Bk}{o:Obs}{z:Rat}(c:∀ j,QB 1 (wgt B.pts t p j))(a:∀ j,QP 1 (slf B.pts t j))(d:QB 3 (kU o z))(f:o.kind≠1->o.kind≠2->QB 3 (pY o)/\QB 3 (iS o)):∀ r∈rowsO B o p t z,Nm r:=by
 have e:∀ x∈atT t (wgt B.pts t p),QB 1 x.2:=gj (c 0) (c 1) (c 2);have g:∀ x∈atT t (fun j=>(slf B.pts t j).1),QB 1 x.2:=gj (a 0).1 (a 1).1 (a 2).1;have i:∀ x∈atT t (fun j=>(slf B.pts t j).2),QB 1 x.2:=gj (a 0).2 (a 1).2 (a 2).2;intro r hr;unfold rowsO at hr;split at hr
 ·rcases PU.1 hr with h | h
  ·split at h
   ·rw [PZ.1 h];exact oU e d QB_one
   simp at h
  split at h
  ·rw [PZ.1 h];exact oU e d mK
  simp at h
 rename_i h1;split at hr
 ·obtain ⟨k,_,h⟩:=List.mem_flatMap.1 hr;obtain ⟨sg,b,rfl⟩:=PK.1 h;exact oU e d (ry sg b)
 rename_i h2;obtain ⟨l,m⟩:=f h1 h2;obtain ⟨k,_,h⟩:=List.mem_flatMap.1 hr;rcases PU.1 h with h | h
 ·obtain ⟨sg,b,rfl⟩:=PK.1 h;exact oU g l (ry sg b)
 obtain ⟨sg,b,rfl⟩:=PK.1 h;exact oU i m (ry sg b)
def tiK (S:Sht)(s:Sgt):Nat:=(jL (cC (S.kd % 8) S.a S.b S.h) (shT (S.kd % 8)) (lA S s)).headD 0
def tK (S:Sht)(s:Sgt):Tri:=(shT (S.kd % 8)).getD (tiK S s) (0,0,0)
def zK (S:Sht)(H:Hts)(s:Sgt):Rat:=onQ (cC (S.kd % 8) S.a S.b S.h) (fsK (cC (S.kd % 8) S.a S.b S.h).length H) (tK S s) (lA S s)
noncomputable def roK (S:Sht)(H:Hts)(l:List Sgt)(i:Nat):List RowQ:=rowsO (ef S H l) (fK S (l.getD i CZ) i) (lA S (l.getD i CZ)) (tK S (l.getD i CZ)) (zK S H (l.getD i CZ))
theorem Ml (S:Sht)(s:Sgt)(i:Nat)(b:SgtR s):ObsAt (fK S s i) (lA S s):=by
 have a:=(tJ S s b).1;refine ⟨?_, ?_,(E8 a).1,(E8 a).2, ?_⟩
 ·unfold fK;split
  ·rfl
  split <;> rfl
 ·unfold fK;split
  ·rfl
  split <;> rfl
 unfold fK;split
 ·intro h;exact absurd (show (1:Int)=2 from h) dc_
 split
 ·intro _;exact ok1 (sr s.depth)
 intro h;exact absurd (show (3:Int)=2 from h) dc_
theorem Mk (S:Sht)(s:Sgt)(i:Nat):0<=ka (isU (fK S s i).upper) colK 0:=by
 have c:=Mv s;have d:=Le s;have a:=pL (s.u1 % 3) om_;have b:=pL (max (loU s) (upU s)) om_;unfold fK;split
 ·simp only;rw [a];omega
 split <;> (simp only;rw [b];omega)
theorem FF (S:Sht)(s:Sgt)(i:Nat):(fK S s i).kind≠1->(fK S s i).kind≠2->(aS (fK S s i).nx=true/\aS (fK S s i).ny=true/\aS (fK S s i).nz=true)/\QB 1 (da (fK S s i).nx)/\QB 1 (da (fK S s i).ny)/\QB 1 (da (fK S s i).nz)/\da (fK S s i).nz≠0:=by
 have h0:=nA s.n0;have h1:=nA s.n1;have h2:=nS s.n2;have a:=dW (s.n0.tmod 5) om_;have l1:=dW (s.n1.tmod 5) om_;have l2:=dW (ff s.n2) om_;have b:=ud s.n2;unfold fK;split
 ·intro h;exact absurd rfl h
 split
 ·intro _ h;exact absurd rfl h
 intro _ _;simp only;rw [cR (ok1 a),cR (ok1 l1),cR (ok1 l2)];exact ⟨⟨ok1 a,ok1 l1,ok1 l2⟩,a,l1,l2,by simpa using b⟩
theorem Bm (S:Sht)(s:Sgt)(i:Nat):(fK S s i).kind=2->(fK S s i).depth=qtx (kQ ((s.depth % 12:Nat):Int) 2):=by
 unfold fK;split
 ·intro h;exact absurd (show (1:Int)=2 from h) dc_
 split
 ·intro _;rfl
 intro h;exact absurd (show (3:Int)=2 from h) dc_
theorem IZ (S:Sht)(s:Sgt)(i:Nat){z:Rat}(a:QB 1 z):QB 3 (kU (fK S s i) z):=by
 unfold kU;split
 ·rename_i h;rw [Bm S s i h,cR (ok1 (sr s.depth))];have h:=fg a (sr s.depth);exact h.le dc_
 exact a.le dc_
theorem FG (S:Sht)(s:Sgt)(i:Nat)(b:(fK S s i).kind≠1)(c:(fK S s i).kind≠2):QB 3 (pY (fK S s i))/\QB 3 (iS (fK S s i)):=by
 obtain ⟨_,d,l1,l2,a⟩:=FF S s i b c;exact ⟨(jn (fa d) l2 a).le dc_,(jn (fa l1) l2 a).le dc_⟩
theorem locK (S:Sht)(s:Sgt)(c:SgtR s):(∃ r,jL (cC (S.kd % 8) S.a S.b S.h) (shT (S.kd % 8)) (lA S s)=tiK S s::r)/\(shT (S.kd % 8))[tiK S s]?=some (tK S s):=by
 have d:=(tJ S s c).2;unfold tK tiK;cases h:jL (cC (S.kd % 8) S.a S.b S.h) (shT (S.kd % 8)) (lA S s) with
 | nil=>exact absurd h d
 | cons i r =>
  have hm:i∈jL (cC (S.kd % 8) S.a S.b S.h) (shT (S.kd % 8)) (lA S s):=by rw [h];exact PG
  unfold jL at hm;have e:=PX.1 (Q4.1 hm).1;refine ⟨⟨r,Z⟩, ?_⟩;simp only [List.headD_cons];rw [ax,aj e];rfl
theorem Pp (S:Sht)(H:Hts)(l:List Sgt)(s:Sgt)(i:Nat)(c:SgtR s) :
  Fine (ef S H l) (fsK (cC (S.kd % 8) S.a S.b S.h).length H) (fK S s i) (lA S s) (tiK S s) (tK S s) (zK S H s):=by
 obtain ⟨n,_⟩:=gt (S.kd % 8) (Qj _ dc_) S.a S.b S.h;obtain ⟨⟨r,hr⟩,f⟩:=locK S s c;have d:=ic n.ok (O0 f);have g:=AZ S s c;have k:∀ j,QB 1 (wgt (cC (S.kd % 8) S.a S.b S.h) (tK S s) (lA S s) j):=ND (fun j=>qm j) d g;have m:∀ j,QP 1 (slf (cC (S.kd % 8) S.a S.b S.h) (tK S s) j):=fun j=>H7 (fun j=>qm j) d (fun j=>zS j);have e:QB 1 (zK S H s):=Ph (fun j=>qm j) d (fun j=>Gv j) g;have hh:=IZ S s i e;refine ⟨Ml S s i c,⟨r,hr⟩,f, ?_,e.le dc_,hh.le dc_,fun j=>(k j).le dc_,Mk S s i,fun j=>(m j).le dc_, ?_, ?_⟩
 ·show vc (cC (S.kd % 8) S.a S.b S.h) (shT (S.kd % 8)) _ _=_;unfold vc;rw [hr];show yy (zK S H s)=_;unfold yy;rw [aK (ok1 e)]
 ·intro h1 h2;obtain ⟨h0,o,l1,l2,p⟩:=FF S s i h1 h2;exact ⟨h0,o.le dc_,l1.le dc_,l2.le dc_,p⟩
 exact Io k m hh (FG S s i)
theorem DK (S:Sht)(H:Hts)(l:List Sgt)(c:∀ s∈l,SgtR s):Rich (ef S H l) (fsK (cC (S.kd % 8) S.a S.b S.h).length H) (roK S H l):=by
 refine ⟨(gt (S.kd % 8) (Qj _ dc_) S.a S.b S.h).1,M5 S H l c,DJ S H l c,⟨Z,uq _ _,fun q e=>(Gx _ H q e).le dc_⟩, ?_, ?_⟩
 ·have:=(JY S H l).2;rw [JX];omega
 intro i o f;obtain ⟨g,s,d,rfl⟩:=mb f;refine ⟨_,_,_,_,Pp S H l s i (c s (O0 d)), ?_⟩;unfold roK;rw [ax,d];rfl
theorem CV (x y:Nat)(a:x<18446744073709551616)(b:y<18446744073709551616)(C:Mem):Gives cx.P 128 [.int .u64 x,.int .u64 y] C (.tuple #[.int .u64 ((x*y / 18446744073709551616:Nat):Int),.int .u64 ((x*y % 18446744073709551616:Nat):Int)]) :=
 Gives.ofCalls kr_ (fun w=>Any.bits_Mul Tryz.mul x y a b w) C
theorem Fi {a:Value}{b:List Value}(_d:k+m<=n)(c:m<=k)(_e:b.length=n-k) :
  aE (List.replicate k a++b) ((List.replicate k a++b).take m) k=List.replicate (k+m) a++b.drop m:=by
 have h1:(List.replicate k a++b).take m=List.replicate m a:=by
  rw [List.take_append_of_le_length (by simpa using c),List.take_replicate,QK c]
 have h2:(List.replicate k a++b).take k=List.replicate k a:=by
  rw [List.take_append_of_le_length am,List.take_replicate,Nat.min_self]
 have h3:(List.replicate k a++b).drop (k+m)=b.drop m:=by
  rw [Sd,Qd,Rn am,RD];congr 1;omega
 unfold aE;rw [h1,h2,Qd,h3,List.replicate_append_replicate]
theorem Fb (a:Value)(n:Nat):kA [a] n=List.replicate n a:=by
 rw [eU];induction n with
 | zero=>rfl
 | succ n b=>rw [QJ,QQ,b,QJ];rfl
theorem IM (n:Nat)(a:n<18446744073709551616)(C:Mem):Gives cx.P 128 [.int .u64 (1:Int),.int .u64 n] C (.tuple #[.int .u64 0,.int .u64 n]):=by
 have h:=CV 1 n om_ a C;have b:1*n / 18446744073709551616=0:=by omega
 have c:1*n % 18446744073709551616=n:=by omega
 rw [b,c] at h;exact h
theorem CT (C:Mem)(v:Value)(n:Nat)(s:Str)(g:Sl C 1 v [[af s]])(y:n<=1000000):Jog.Fn cx.P 64 [v,.int .i64 n] C [] fun u _z e=>∃ b,u=.slice (some ⟨b,0,none⟩) n n/\e=[.arr u 32 1 n (List.replicate n (af s))]:=by
 have p:=g;obtain ⟨A,c,rfl,_⟩:=p;refine Tr func64 48 U3 fun w0=>Th 1 [0,1] Z<|Th 2 [0,1,10] Z<|G.cd (fun h=>?_) fun h=>?_
 ·simp at h;omega
 refine Ti 2 Z fun R d=>TX (c:=1) U8 Z fl_<|Tk U6<|TX (c:=(n:Int)) U8 (by rw [IntKind.wrap_u64];omega) fl_<|Tw (IM n om_ _) U7 fl_<|C6 5 [0,5,6] d Z<|Ti 5 Z fun R d=>TQ U8<|Tn [0,6,26] d Z<|G.cd (fun i=>?_) fun i=>?_
 ·simp at i;omega
 refine Ti 1 Z fun R d=>TX (c:=(n:Int)) U8 (by rw [IntKind.wrap_i64];omega) fl_<|Up U9 (PE _) (by show 16*n<=281474976710656;omega) (by simp only [maxLen];omega) fl_ fun a=>C6 1 [0,7] d Z<|Ti 2 Z fun R d=>UY (j:=0) (q:=min 1 n) U12 g U2 (by rw [cU];show 0+min 1 n*1<=n*1;omega) fl_<|C6 1 [7,8] d Z ?_;have r:aE (kA [af []] n) (([[af s]]:List (List Value)).take (min 1 n)).flatten 0=List.replicate (min 1 n) (af s)++List.replicate (n-min 1 n) (af []):=by
  rw [Fb];cases n with
  | zero=>rfl
  | succ n=>rw [show min 1 (n+1)=1 by omega,QJ];rfl
 refine Tz (L':=[.arr (.slice (some ⟨a,0,none⟩) n n) 32 1 n (List.replicate (min 1 n) (af s)++List.replicate (n-min 1 n) (af []))]) (by rw [<- r];rfl)<|G.loop (fun fr B e t=>∃ (k:Nat),(k<=n/\min 1 n<=k)/\fr=[(7,[],.slice (some ⟨a,0,none⟩) n n),(8,[],.int .i64 k)]/\e=[.arr (.slice (some ⟨a,0,none⟩) n n) 32 1 n (List.replicate k (af s)++List.replicate (n-k) (af []))]/\t=n-k) (hn_ [7,8] Z) ⟨min 1 n,⟨Nat.min_le_right _ _,PE _⟩,Z,Z,Z⟩ (fun fr D E m w x=>?_);obtain ⟨k,⟨l,F⟩,rfl,rfl,rfl⟩:=x;refine Th 4 [7,8,37] Z<|G.cd (fun f=>?_) fun f=>?_
 ·simp only [PN] at f;have o:k<n:=by omega
  have H:1<=k:=by omega
  refine TD [0,1,2,3,4,5,6,7,8,9] [] Z kr_ fun R I d=>Tm 3 Z<|Um k n n U12 (fun _=>⟨.inr ⟨_,Z⟩,.inl ⟨Z,Z⟩,.inl ⟨Z,Z⟩,l,PE _,PE _⟩) U2<|Tm 2 Z<|Um 0 k n U12 (fun _=>⟨.inl ⟨Z,Z⟩,.inr ⟨_,Z⟩,.inl ⟨Z,Z⟩,PL _,l,PE _⟩) U2 ?_;refine UX (j:=0) (off:=k) (g0:=a) (dl:=n-k) (dc:=n-k) (sl:=k-0) (sc:=n-0) (q:=min k (n-k)) U8 (by show some (Value.slice (if n=k then some (⟨a,0,none⟩:Addr) else (some (⟨a,0,none⟩:Addr)).map (·.add (k*1))) (n-k) (n-k))=_;rw [aG om_];simp [Addr.add_lit]) (by show some (Value.slice (if n=0 then some (⟨a,0,none⟩:Addr) else (some (⟨a,0,none⟩:Addr)).map (·.add (0*1))) (k-0) (n-0))=_;split <;> simp [Addr.add_lit]) U2 (by simp [nk,af]) ap fl_ ?_;refine TS (((k+min k (n-k):Nat):Int)) U4 om_ om_ om_ U2<|C6 1 [7,8] d Z<|Tz (L':=[.arr (.slice (some ⟨a,0,none⟩) n n) 32 1 n (List.replicate (k+min k (n-k)) (af s)++List.replicate (n-(k+min k (n-k))) (af []))]) (by rw [Fi (n:=n) om_ (Nat.min_le_left _ _) am,List.drop_replicate,Nat.sub_sub];rfl)<|Tv (m':=n-(k+min k (n-k))) om_ w (hn_ [7,8] Z) ⟨k+min k (n-k),⟨by omega,by omega⟩,Z,Z,Z⟩
 simp only [P7] at f;have o:k=n:=by omega
 subst o;refine Th 2 [4] Z<|Tu (TW Z Z ?_);exact ⟨a,Z,by simp⟩
theorem iM (C:Mem)(n:Nat)(a:n<=1000000):Jog.Fn cx.P 99 [.int .i64 n] C [] fun u _g c=>∃ b,u=.slice (some ⟨b,0,none⟩) n n/\c=[.arr u 32 1 n (List.replicate n (af [48]))]:=by
 refine Tr func99 6 U3 fun w0=>Th 1 [0] Z<|TH [(2,3)] Z fun R d=>TF [[af [48]]] U12 fun h _ _ e=>Tk U6<|D.call (CT _ _ n [48] e.m_ a) Z (.inr dc_) U6 (PI _) fl_ fun i _ j _ f=>C6 1 [2] d Z ?_;obtain ⟨b,rfl,rfl⟩:=f;refine Tu (TW Z Z ?_);exact ⟨b,Z,Z⟩
theorem kH {f:α->List Value}{x:α}(h:l[i]?=some x):(l.map f)[i]?=some (f x):=by rw [PH,h];rfl
def yW (s:Str):List Value:=[af s]
def aQ (q:Rat):List Value:=[af (qtx q)]
theorem xf (l:List Rat):l.map aQ=(l.map qtx).map yW:=by rw [QC];rfl
def IP {α:Type}(p:α->Bool):List α->Nat->Int
 | [],_=>-1
 | x::l,k=>if p x then (k:Nat) else IP p l (k+1)
theorem tP {a:Type}{p:a->Bool}:∀ {l:List a}{i k:Nat}{x:a},l[i]?=some x->p x=true->(∀ y∈l.take i,p y=false)->IP p l k=((k+i:Nat):Int)
 | y::l,0,k,x,h,b,_=>by
  simp only [List.getElem?_cons_zero,Qh] at h;subst h;simp [IP,b]
 | y::l,i+1,k,x,h,b,c=>by
  simp only [Re] at h;have hy:p y=false:=c y am;have:=tP (k:=k+1) h b (fun z d=>c z (by simp [d]));simp only [IP,hy,Qu,Q0,this];omega
theorem pi {a:Type}{p:a->Bool}:∀ {l:List a}{k:Nat},(∀ y∈l,p y=false)->IP p l k=-1
 | [],_,_=>rfl
 | y::l,k,h=>by
  simp only [IP,h y PG,Qu,Q0];exact pi fun z b=>h z (PP _ b)
theorem CW (p:α->Bool)(l:List α):(IP p l 0=-1/\∀ y∈l,p y=false)∨∃ (i:Nat)(x:α),IP p l 0=(i:Nat)/\l[i]?=some x/\p x=true/\∀ y∈l.take i,p y=false:=by
 by_cases h:∀ y∈l,p y=false
 ·exact .inl ⟨pi h,h⟩
 right;have d:∀ (l:List α),(¬ ∀ y∈l,p y=false)->∃ (i:Nat)(x:α),l[i]?=some x/\p x=true/\∀ y∈l.take i,p y=false:=by
  intro l;induction l with
  | nil=>intro h;exact absurd (fun y hy=>(by cases hy)) h
  | cons a l e =>
   intro h;by_cases b:p a=true
   ·exact ⟨0,a,Z,b,by simp⟩
   have c:p a=false:=by simpa using b
   obtain ⟨i,x,h1,h2,h3⟩:=e (fun h2=>h (fun y hy=>by
    rcases PQ.1 hy with rfl | hy
    ·exact c
    exact h2 y hy))
   refine ⟨i+1,x,by simpa using h1,h2,fun y hy=>?_⟩;rw [List.take_succ_cons] at hy;rcases PQ.1 hy with rfl | hy
   ·exact c
   exact h3 y hy
 obtain ⟨i,x,h1,h2,h3⟩:=d l h;exact ⟨i,x,by rw [tP h1 h2 h3,Q1],h1,h2,h3⟩
theorem Fm (C:Mem)(v:Value)(l:List Str)(g:Nat)(d:List Value)(a:Str->Bool)(e:Sl C 1 v (l.map yW))(_A:Jog.Enters cx.P g=true)
  (n:∀ x∈l,∀ D:Mem,C.le D->Gives cx.P g (af x::d) D (.bool (a x))) :
  Gives cx.P 91 [v,.func (.func g) #[] ⟨d⟩] C (.int .i64 (IP a l 0)):=by
 obtain ⟨o,c0,rfl,p,B,_⟩:=id e;have E:maxLen<=9223372036854775807:=by simp [maxLen]
 simp only [al] at e p ⊢;refine Tr func91 19 U3 fun w0=>Th 1 [0,1] Z<|Th 3 [0,1,7,8] Z<|G.loop (fun fr F q r=>∃ (i:Nat),(i<=l.length/\∀ y∈l.take i,a y=false)/\fr=[(0,[],.slice o l.length c0),(1,[],.func (.func g) #[] ⟨d⟩),(7,[],.int .i64 l.length),(8,[],.int .i64 i)]/\q=[]/\r=l.length-i) (hn_ [0,1,7,8] Z) ⟨0,⟨PL _,by simp⟩,Z,Z,Z⟩ (fun fr H I m s t=>?_);obtain ⟨i,⟨J,b⟩,rfl,rfl,rfl⟩:=t;refine Th 1 [0,1,7,8,9] Z<|G.cd (fun f=>?_) fun f=>?_
 ·have h:i<l.length:=by simpa using f
  obtain ⟨x,c⟩:∃ x,l[i]?=some x:=⟨l[i],aj h⟩;refine Th 2 [0,1,5,7,8] Z<|Ti 3 Z fun R j=>Ty e.m_ U10 om_ (kH c) fl_ fun K u=>Tj u U8<|Tt (n x (O0 c) _ mup) U7<|Tn [0,1,5,7,8,16] j Z<|G.cd (fun k=>?_) fun k=>?_
  ·have w:a x=true:=k;exact Th 2 [4] Z<|Tp U2<|⟨by rw [tP c w b,Q1],Z⟩
  have z:a x=false:=k;refine Tl fun R j=>Tq _ Z U6<|C6 1 [0,1,7,8] j Z<|Tv (m':=l.length-(i+1)) om_ s (hn_ [0,1,7,8] Z) ⟨i+1,⟨by omega,fun y hy=>by
   rw [P6,c] at hy;rcases PU.1 hy with hy | hy
   ·exact b y hy
   simp only [Q2,PZ] at hy;subst hy;exact z⟩,Z,Z,Z⟩
 have h:i=l.length:=by
  have:¬ i<l.length:=by simpa using f
  omega
 exact Th 1 [4] Z<|Tp U2<|⟨by rw [h,PT] at b;rw [pi b],Z⟩
theorem Ft (C:Mem)(v:Value)(l:List Str)(g:Nat)(b:List Value)(a:Str->Bool)(c:Sl C 1 v (l.map yW))(d:Jog.Enters cx.P g=true)
  (e:∀ x∈l,∀ D:Mem,C.le D->Gives cx.P g (af x::b) D (.bool (a x))) :
  Gives cx.P 33 [v,.func (.func g) #[] ⟨b⟩] C (.bool (l.any a)):=by
 refine Tr func33 9 U3 fun w0=>Th 1 [0,1] Z<|Ti 2 Z fun R f=>Tt (Fm _ v l g b a c.m_ d (fun x h D j=>e x h D (Mem.le.trans mup j))) U7<|C6 2 [4] f Z<|Tp U2<|⟨?_,Z⟩;congr 1;rcases CW a l with ⟨h1,h2⟩ | ⟨i,x,h1,h2,h3,_⟩
 ·rw [h1,List.any_eq_false.2 (fun y hy=>by rw [h2 y hy];decide)];rfl
 rw [h1,Sq.2 ⟨x,O0 h2,h3⟩];exact P0 om_
theorem pd (C:Mem)(a:Tabs C)(s:Str)(b:s.length<=999998):Gives cx.P 102 [af s] C (.bool (!aS s)):=by
 refine Tr func102 6 U3 fun w0=>Th 1 [0] Z<|Ti 1 Z fun R c=>Tt (dD _ a.m_ s b) U7<|C6 2 [2] c Z<|Tp U2 ?_;exact ⟨by cases aS s <;> rfl,Z⟩
def iY (n:Int)(l:List Str):Int:=if (l.length:Int)=n then nX (l.all aS) else 5
theorem Bc (C:Mem)(e:Tabs C)(v:Value)(n:Int)(l:List Str)(a:Sl C 1 v (l.map yW))(b:∀ s∈l,s.length<=999998):Gives cx.P 135 [v,.int .i64 n] C (.int .i64 (iY n l)):=by
 obtain ⟨o,c0,rfl,f,p,_⟩:=id a;have q:maxLen<=9223372036854775807:=by simp [maxLen]
 simp only [al] at a f ⊢;refine Tr func135 13 U3 fun w0=>Th 1 [0,1] Z<|Th 5 [0,5] Z<|G.cd (fun h5=>?_) fun h5=>?_
 ·have g:¬ (l.length:Int)=n:=by simpa using h5
  exact Th 1 [4] Z<|Tp U2<|⟨by unfold iY;rw [aG g],Z⟩
 have d:(l.length:Int)=n:=by simpa using h5
 refine Ti 1 Z fun R h=>Tt (Ft _ _ l _ [] (fun s=>!aS s) a.m_ Z (fun s i D j=>pd D (e.mono (Mem.le.trans mup j)) s (b s i))) U7<|C6 1 [10] h Z<|G.cd (fun c=>?_) fun c=>?_
 ·have k:l.all aS=false:=by
   obtain ⟨s,h1,h2⟩:=Sq.1 (show (l.any fun s=>!aS s)=true from c);exact Sa.2 ⟨s,h1,by simpa using h2⟩
  exact Th 1 [4] Z<|Tp U2<|⟨by unfold iY;rw [aK d,k];rfl,Z⟩
 have m:l.all aS=true:=by
  have h1:=List.any_eq_false.1 (show (l.any fun s=>!aS s)=false from c);exact PY.2 fun s b=>by simpa using h1 s b
 exact Th 1 [4] Z<|Tp U2<|⟨by unfold iY;rw [aK d,m];rfl,Z⟩
end Go.Proofs.YtfjcldheldflbaaGreatDoor
