/- Laws that the proofs of this seat share, part 11. -/
import Derived.Test.YtfjcldheldflbaaGreatDoorG10
import Derived.Test.YtfjcldheldflbaaGreatDoorShelf
import Derived.Test.YtfjcldheldflbaaGreatDoorCards
import Derived.Test.YtfjcldheldflbaaGreatDoorTie
import Derived.Stop.LaidErr
import Derived.Lib.LaidTab
import Derived.Carry
import Derived.Deep.Strs
import Derived.Laws.IdiomArrays
set_option maxHeartbeats 4000000
namespace Go.Proofs.YtfjcldheldflbaaGreatDoor
open Go.Proofs.Tryz
open Go Go.Jog
set_option maxRecDepth 100000
variable {i:Nat}{n:Int}{q:Rat}{s u x y:Str}{z:Int}
def FieldsIn (C:Mem)(v:Value)(ls:List (List Str)):Prop:=∃ vs:List Value,vs.length=ls.length/\(∀ (i:Nat)(w:Value)(l:List Str),vs[i]?=some w->ls[i]?=some l->Sl C 1 w (l.map jV))/\Sl C 1 v (vs.map fun w=>[w])
theorem FieldsIn.mono {C D:Mem}{v:Value}{a:List (List Str)}(h:FieldsIn C v a)(b:C.le D):FieldsIn D v a:=by
 obtain ⟨vs,h1,h2,h3⟩:=h;exact ⟨vs,h1,fun i w l h4 h5=>(h2 i w l h4 h5).mono b,h3.mono b⟩
theorem FieldsIn.m_ {C D:Mem}{v:Value}{a:List (List Str)}(h:FieldsIn C v a)(b:C.le D:=by exact mup):FieldsIn D v a:=FieldsIn.mono h b
def qQ (s p:Nat)(l:List Str):Int:=if l.length=s*p then nV (l.all aW) else 5
def GX (p:Nat)(l:List Str)(j:Nat):List Str:=(l.take ((j+1)*p)).drop (j*p)
def chunks (s p:Nat)(l:List Str):List (List Str):=(List.range s).map (GX p l)
theorem Lv {l:List Str}(h:l.all aW=true):l=(l.map da).map qtx:=by
 rw [Qe];symm;have e:∀ s∈l,(qtx ∘ da) s=id s:=fun s hs=>(dt (PD.1 h s hs)).1.symm;rw [List.map_congr_left e,List.map_id]
theorem wQ (C:Mem)(hT:Tabs C)(E v:Value)(B:Bk)(l:List Str)(hB:BookIn C E B)(F:BookZ C E B 0)(aa:bs B*bp B<=60)(f:Sl C 1 v (l.map jV))(hs:∀ x∈l,x.length<=999998)(_au:l.length<=100000) :
  Pur cx.P 81 [E,v] C fun u D=>∃ w,u=.tuple #[w,.int .i64 (qQ (bs B) (bp B) l)]/\FieldsIn D w (if qQ (bs B) (bp B) l=0 then chunks (bs B) (bp B) l else []):=by
 have av:=F.lc;have ax:=F.lp;have ay:bs B<=1000:=by unfold bs;omega
 have az:bp B<=400:=by unfold bp;omega
 obtain ⟨v1,v2,tv,cv,ov,rfl,h1,h2,h3,h4,h5⟩:=id hB.ex;obtain ⟨c,c0,rfl,ab,aA,_⟩:=id f;have aB:maxLen<=9223372036854775807:=by simp [maxLen]
 simp only [al] at f ab ⊢;refine S4 func81 60 U3 fun w0=>SX fun R a=>Tf U6 fun b2=>C6 2 [1,2] a Z<|SX fun R a=>S1 ag U9<|S8 (NW _ _ B F.m_ aa) U7<|SZ 3 Z<|Te U5 fun N=>S5 (j:=0) U12<|C6 1 [1,6,7] a Z<|SR 2 [1,6,7,19] Z<|G.cd (fun O=>?_) fun O=>?_
 ·exact absurd O dc_
 refine G.freeze 0 Z fun _ _ g=>SS 2 Z fun R a=>SU (bkT g 2) U8<|Tb (iI _ (bs B) (bp B) om_) U7 fl_<|C6 1 [1,6,25] a Z<|G.cd (fun k=>?_) fun k=>?_
 ·have ac:l.length≠bs B*bp B:=by
   intro e;rw [e] at k;simp at k
  have b:qQ (bs B) (bp B) l=5:=by unfold qQ;rw [aF ac]
  refine SR 2 [4,5] Z<|S7 (G.dropAll (Tp U3 ?_));exact ⟨Z,.slice none 0 0,by rw [b],by rw [b];exact ⟨[],Z,fun i w l h1 _=>by simp at h1,Sl.nil _ _⟩⟩
 have Q:l.length=bs B*bp B:=by
  have h:((l.length:Nat):Int)=((bs B*bp B:Nat):Int):=by simpa using k
  omega
 refine SR 3 [1,6,26,27,28] Z<|G.dropAll<|G.loop (fun fr S n H=>∃ (i:Nat),(i<=l.length/\(l.take i).all aW=true)/\fr=[(1,[],.slice c l.length c0),(6,[],.pointer (some ⟨N,0,none⟩)),(26,[],.slice c l.length c0),(27,[],.int .i64 l.length),(28,[],.int .i64 i)]/\n=[]/\H=l.length-i) (hn_ [1,6,26,27,28] Z) ⟨0,⟨Pm _,by simp⟩,Z,Z,Z⟩ (fun fr aC aD m ad I=>?_);obtain ⟨i,⟨o,p⟩,rfl,rfl,rfl⟩:=I;refine SR 1 [1,6,26,27,28,29] Z<|G.cd (fun J=>?_) fun J=>?_
 ·have K:i<l.length:=by
   have:=OD J;omega
  obtain ⟨s,t⟩:∃ s,l[i]?=some s:=⟨l[i],ak K⟩;refine SX fun R a=>Ta f.m_ U10 om_ (cq t) fl_ fun aE ae=>SU ae U8<|C6 1 [1,6,9,26,27,28] a Z<|SS 1 Z fun R a=>S8 (dA _ hT.m_ s (hs s (Pe t))) U7<|C6 1 [1,6,10,26,27,28] a Z<|SR 2 [1,6,10,26,27,28,35] Z<|G.cd (fun d=>?_) fun d=>?_
  ·have T:aW s=false:=by
    rcases eW (aW s) with ⟨h1,h2⟩ | ⟨h1,h2⟩
    ·rw [h1] at d;exact absurd d dc_
    exact h2
   have b:qQ (bs B) (bp B) l=2:=by
    unfold qQ;rw [aL Q,show l.all aW=false from RK.2 ⟨s,Pe t,by rw [T];decide⟩];rfl
   refine SR 3 [4,5] Z<|S7 (G.dropAll (Tp U3 ?_));exact ⟨Z,.slice none 0 0,by rw [b,T];rfl,by rw [b];exact ⟨[],Z,fun i w l h1 _=>by simp at h1,Sl.nil _ _⟩⟩
  have af:aW s=true:=by
   rcases eW (aW s) with ⟨h1,h2⟩ | ⟨h1,h2⟩
   ·exact h2
   rw [h1] at d;exact absurd d dc_
  refine SX fun R a=>S2 _ Z U6<|C6 1 [1,6,26,27,28] a Z<|S6 (m':=l.length-(i+1)) om_ ad (hn_ [1,6,26,27,28] Z) ⟨i+1,⟨by omega,by rw [PN,t,SF,p];simp [af]⟩,Z,Z,Z⟩
 have K:i=l.length:=by
  have:=Pj J;omega
 subst K;rw [Pv] at p;have b:qQ (bs B) (bp B) l=0:=by unfold qQ;rw [aL Q,p];rfl
 have ah:=Lv p;refine SR 1 [1,6,11] Z<|SS 1 Z fun R a=>SU (bkT g 1) U8<|C6 1 [1,6,11,39,40] a Z<|G.nilArr 41 1<|G.loop (fun fr S n H=>∃ (j:Nat)(vs:List Value)(w:Value),(j<=bs B/\vs.length=j/\(∀ (i:Nat)(w:Value),vs[i]?=some w->Sl S 1 w ((GX (bp B) l i).map jV)))/\fr=[(1,[],.slice c l.length c0),(6,[],.pointer (some ⟨N,0,none⟩)),(11,[],w),(39,[],.int .i64 (bs B:Nat)),(40,[],.int .i64 j)]/\n=[.arr w 41 1 vs.length (vs.map fun w=>[w]).flatten]/\H=bs B-j) (hn_ [1,6,11,39,40] Z) ⟨0,[],_,⟨Pm _,Z,fun i w h=>by simp at h⟩,Z,Z,Z⟩ (fun fr aG aH m _ I=>?_);obtain ⟨j,vs,w,⟨hj,U,V⟩,rfl,rfl,rfl⟩:=I;refine SR 1 [1,6,11,39,40,41] Z<|G.cd (fun L=>?_) fun L=>?_
 ·have M:j<bs B:=by
   have:=OD L;omega
  have aI:(j+1)*bp B<=bs B*bp B:=P7 _ M;have aK:(j+1)*bp B=j*bp B+bp B:=Nat.succ_mul _ _;have ai:=Sl.sub f (l:=j*bp B) (h:=(j+1)*bp B) (m:=c0) om_ ap om_ (Pf _);have W:GX (bp B) l j=(((l.map da).take ((j+1)*bp B)).drop (j*bp B)).map qtx:=by
   unfold GX
   conv=>lhs;rw [ah]
   rw [List.map_drop,Rw]
  have aj:Sl C 1 (.slice (if c0=j*bp B then c else c.map (·.add (j*bp B*1))) ((j+1)*bp B-j*bp B) (c0-j*bp B)) ((((l.map da).take ((j+1)*bp B)).drop (j*bp B)).map eD):=by
   rw [mM,<- W];unfold GX;rw [List.map_drop,Rw];exact ai
  refine SR 2 [1,6,11,12,39,40] Z<|Tk [(12,3)] Z fun R a=>SZ 4 Z<|SU (bkT g 1) U8<|S2 (((j*bp B:Nat):Int)) (PL _ _) U6<|SV U6<|Ts (((j+1:Nat):Int)) U4 om_ om_ om_ U2<|SV U6<|SU (bkT g 1) U8<|S2 ((((j+1)*bp B:Nat):Int)) (PL _ _) U6<|TO (j*bp B) ((j+1)*bp B) c0 U12 (fun _=>⟨.inr ⟨_,Z⟩,.inr ⟨_,Z⟩,.inl ⟨Z,Z⟩,by omega,by omega,by omega⟩) U2<|D.call (GW _ _ _ aj.m_ ap) Z (.inr dc_) U6 (Pk _) fl_ (fun aM _ aN _ an=>?_);obtain ⟨z,A,cc,rfl,rfl⟩:=an;refine Th [[.slice z A cc]] U12 fun aO _ _ ao=>D.append (j:=1) U11 ao Z aw (by simp only [aY];omega) fl_ fun X=>C6 1 [1,6,11,39,40] a Z<|SX fun R a=>S2 _ Z U6<|C6 1 [1,6,11,39,40] a Z<|G.freezeArr 1 ((((l.map da).take ((j+1)*bp B)).drop (j*bp B)).map eD) U2 (by intro r hr;obtain ⟨y,_,rfl⟩:=Pn.1 hr;rfl) (by rw [al]) (fun Cz b Y=>?_);rw [mM,<- W] at Y;refine Tc (L':=[.arr X 41 1 (vs++[Value.slice z A cc]).length ((vs++[Value.slice z A cc]).map fun w=>[w]).flatten]) am<|S6 (m':=bs B-(j+1)) om_ mup (hn_ [1,6,11,39,40] Z) ⟨j+1,vs++[.slice z A cc],X,⟨by omega,by simp [U],fun i w h=>by
   rcases PQ i vs.length with h1 | h1
   ·rw [P0 h1] at h;exact (V i w h).mono mup
   rw [PJ h1] at h;cases o:i-vs.length with
   | zero =>
    rw [o] at h;simp at h;subst h;rw [show i=j by omega];exact Y
   | succ q=>rw [o] at h;simp at h⟩,rfl,rfl,rfl⟩
 have M:j=bs B:=by
  have:=Pj L;omega
 have aq:(chunks (bs B) (bp B) l).length=bs B:=by simp [chunks]
 refine SR 3 [4,5] Z<|G.freezeArr 0 (vs.map fun w=>[w]) U2 (by intro r hr;obtain ⟨y,_,rfl⟩:=Pn.1 hr;rfl) (by rw [al]) fun Cg hg ar=>S7 (G.dropAll (Tp U3 ?_));refine ⟨Z,_,by rw [b], ?_⟩;rw [aL b];refine ⟨vs,by rw [aq,U,M],fun i w l2 h1 h2=>?_,ar⟩;unfold chunks at h2;rw [Pi] at h2;have o:=(aJ.1 h1).1;rw [PX om_] at h2;simp only [QM,PW] at h2;subst h2;exact (V i w h1).mono mup
def dotV (f x:List Rat):Nat->Rat
 | 0=>0
 | n+1=>dotV f x n+f.getD n 0*x.getD n 0
structure DotOk (r:RowQ)(x:List Rat):Prop where
 f:∀ q∈r.f,QB 22 q
 b:QB 22 r.b
 len:r.f.length=x.length
 s:∀ n,QB 2000 (dotV r.f x n)
def sqP:List (Int × Int):=[(0,0),(4,0),(4,4),(0,4)]
def shP:Nat->List (Int × Int)
 | 0=>sqP
 | 1=>sqP
 | 2=>sqP++[(2,1)]
 | 3=>[(0,0),(6,0),(0,4)]
 | 4=>[(0,0),(2,0),(4,0),(0,2),(2,2),(4,2)]
 | 5=>[(1,4),(5,3),(4,0),(0,0)]
 | 6=>sqP++[(2,0)]
 | _=>[(0,0),(6,0),(0,6),(2,2)]
def shT:Nat->List Tri
 | 0=>[(0,1,2),(0,2,3)]
 | 1=>[(0,1,3),(1,2,3)]
 | 2=>[(0,1,4),(1,2,4),(2,3,4),(3,0,4)]
 | 3=>[(2,0,1)]
 | 4=>[(0,1,4),(0,4,3),(1,2,5),(1,5,4)]
 | 5=>[(3,2,1),(3,1,0)]
 | 6=>[(0,4,3),(4,2,3),(4,1,2)]
 | _=>[(0,1,3),(1,2,3),(2,0,3)]
def O4 (p:Int × Int):List Value:=[.int .i64 p.1,.int .i64 p.2]
def ShIn (u:Value)(D:Mem)(m:Nat):Prop:=∃ pv tv,u=.tuple #[pv,tv]/\Sl D 2 pv ((shP m).map O4)/\Sl D 3 tv ((shT m).map ic)
theorem Co (C:Mem)(a:Nat)(_H:a<256):Pur cx.P 115 [.int .u8 a] C fun u D=>ShIn u D (a % 8):=by
 have I:a % 8<8:=PY _ dc_;obtain ⟨m,hm⟩:∃ m,a % 8=m:=⟨_,rfl⟩;refine S4 func115 86 U3 fun w0=>SR 2 [0] Z<|SX fun R b=>Td ([.int .i64 0,.int .i64 0]) U8<|Td ([.int .i64 4,.int .i64 0]) U8<|Td ([.int .i64 4,.int .i64 4]) U8<|Td ([.int .i64 0,.int .i64 4]) U8<|TH [[.int .i64 0,.int .i64 0],[.int .i64 4,.int .i64 0],[.int .i64 4,.int .i64 4],[.int .i64 0,.int .i64 4]] U12 fl_ fun J _ _ d=>C6 1 [0,4] b Z<|SS 1 Z fun R b=>TM (a) (8) U6 om_ U2<|SY [4,11] b Z<|SR 2 [4,11,12] Z<|G.cd (fun f=>?_) fun f=>?_
 ·have c:a % 8=0:=by
   have:=dN f;omega
  refine SS 1 Z fun R b=>Td ([.int .i64 0,.int .i64 1,.int .i64 2]) U8<|Td ([.int .i64 0,.int .i64 2,.int .i64 3]) U8<|Th [[.int .i64 0,.int .i64 1,.int .i64 2],[.int .i64 0,.int .i64 2,.int .i64 3]] U12 fun K _ _ n=>C6 2 [2,3] b Z<|S7 (G.dropAll (Tp U3 ?_));exact ⟨Z,by rw [c];exact ⟨_,_,Z,d.mono mup,n.mono mup⟩⟩
 have L:a % 8≠0:=by
  intro e;rw [e] at f;exact absurd f dc_
 refine SR 2 [4,11,18] Z<|G.cd (fun g=>?_) fun g=>?_
 ·have c:a % 8=1:=by
   have:=dN g;omega
  refine SS 1 Z fun R b=>Td ([.int .i64 0,.int .i64 1,.int .i64 3]) U8<|Td ([.int .i64 1,.int .i64 2,.int .i64 3]) U8<|Th [[.int .i64 0,.int .i64 1,.int .i64 3],[.int .i64 1,.int .i64 2,.int .i64 3]] U12 fun M _ _ o=>C6 2 [2,3] b Z<|S7 (G.dropAll (Tp U3 ?_));exact ⟨Z,by rw [c];exact ⟨_,_,Z,d.mono mup,o.mono mup⟩⟩
 have N:a % 8≠1:=by
  intro e;rw [e] at g;exact absurd g dc_
 refine SR 2 [4,11,24] Z<|G.cd (fun h=>?_) fun h=>?_
 ·have c:a % 8=2:=by
   have:=dN h;omega
  refine SS 1 Z fun R b=>Td ([.int .i64 2,.int .i64 1]) U8<|Th [[.int .i64 2,.int .i64 1]] U12 fun O _ _ p=>UU Z Z Z Z Z Z Z Z Z Z d.m_ p.m_ (.inr dc_) (by simp only [Pz,PV,maxLen];omega) dc_ fl_ fun Q _ _ q=>Td ([.int .i64 0,.int .i64 1,.int .i64 4]) U8<|Td ([.int .i64 1,.int .i64 2,.int .i64 4]) U8<|Td ([.int .i64 2,.int .i64 3,.int .i64 4]) U8<|Td ([.int .i64 3,.int .i64 0,.int .i64 4]) U8<|Th [[.int .i64 0,.int .i64 1,.int .i64 4],[.int .i64 1,.int .i64 2,.int .i64 4],[.int .i64 2,.int .i64 3,.int .i64 4],[.int .i64 3,.int .i64 0,.int .i64 4]] U12 fun S _ _ r=>C6 2 [2,3] b Z<|S7 (G.dropAll (Tp U3 ?_));exact ⟨Z,by rw [c];exact ⟨_,_,Z,q.mono mup,r.mono mup⟩⟩
 have T:a % 8≠2:=by
  intro e;rw [e] at h;exact absurd h dc_
 refine SR 2 [4,11,35] Z<|G.cd (fun i=>?_) fun i=>?_
 ·have c:a % 8=3:=by
   have:=dN i;omega
  refine SX fun R b=>Td ([.int .i64 0,.int .i64 0]) U8<|Td ([.int .i64 6,.int .i64 0]) U8<|Td ([.int .i64 0,.int .i64 4]) U8<|Th [[.int .i64 0,.int .i64 0],[.int .i64 6,.int .i64 0],[.int .i64 0,.int .i64 4]] U12 fun U _ _ s=>Td ([.int .i64 2,.int .i64 0,.int .i64 1]) U8<|Th [[.int .i64 2,.int .i64 0,.int .i64 1]] U12 fun V _ _ t=>C6 2 [2,3] b Z<|S7 (G.dropAll (Tp U3 ?_));exact ⟨Z,by rw [c];exact ⟨_,_,Z,s.mono mup,t.mono mup⟩⟩
 have W:a % 8≠3:=by
  intro e;rw [e] at i;exact absurd i dc_
 refine SR 2 [4,11,43] Z<|G.cd (fun j=>?_) fun j=>?_
 ·have c:a % 8=4:=by
   have:=dN j;omega
  refine SX fun R b=>Td ([.int .i64 0,.int .i64 0]) U8<|Td ([.int .i64 2,.int .i64 0]) U8<|Td ([.int .i64 4,.int .i64 0]) U8<|Td ([.int .i64 0,.int .i64 2]) U8<|Td ([.int .i64 2,.int .i64 2]) U8<|Td ([.int .i64 4,.int .i64 2]) U8<|Th [[.int .i64 0,.int .i64 0],[.int .i64 2,.int .i64 0],[.int .i64 4,.int .i64 0],[.int .i64 0,.int .i64 2],[.int .i64 2,.int .i64 2],[.int .i64 4,.int .i64 2]] U12 fun X _ _ v=>Td ([.int .i64 0,.int .i64 1,.int .i64 4]) U8<|Td ([.int .i64 0,.int .i64 4,.int .i64 3]) U8<|Td ([.int .i64 1,.int .i64 2,.int .i64 5]) U8<|Td ([.int .i64 1,.int .i64 5,.int .i64 4]) U8<|Th [[.int .i64 0,.int .i64 1,.int .i64 4],[.int .i64 0,.int .i64 4,.int .i64 3],[.int .i64 1,.int .i64 2,.int .i64 5],[.int .i64 1,.int .i64 5,.int .i64 4]] U12 fun Y _ _ w=>C6 2 [2,3] b Z<|S7 (G.dropAll (Tp U3 ?_));exact ⟨Z,by rw [c];exact ⟨_,_,Z,v.mono mup,w.mono mup⟩⟩
 have aa:a % 8≠4:=by
  intro e;rw [e] at j;exact absurd j dc_
 refine SR 2 [4,11,57] Z<|G.cd (fun k=>?_) fun k=>?_
 ·have c:a % 8=5:=by
   have:=dN k;omega
  refine SX fun R b=>Td ([.int .i64 1,.int .i64 4]) U8<|Td ([.int .i64 5,.int .i64 3]) U8<|Td ([.int .i64 4,.int .i64 0]) U8<|Td ([.int .i64 0,.int .i64 0]) U8<|Th [[.int .i64 1,.int .i64 4],[.int .i64 5,.int .i64 3],[.int .i64 4,.int .i64 0],[.int .i64 0,.int .i64 0]] U12 fun ab _ _ x=>Td ([.int .i64 3,.int .i64 2,.int .i64 1]) U8<|Td ([.int .i64 3,.int .i64 1,.int .i64 0]) U8<|Th [[.int .i64 3,.int .i64 2,.int .i64 1],[.int .i64 3,.int .i64 1,.int .i64 0]] U12 fun ac _ _ y=>C6 2 [2,3] b Z<|S7 (G.dropAll (Tp U3 ?_));exact ⟨Z,by rw [c];exact ⟨_,_,Z,x.mono mup,y.mono mup⟩⟩
 have ad:a % 8≠5:=by
  intro e;rw [e] at k;exact absurd k dc_
 refine SR 2 [4,67] Z<|G.cd (fun l=>?_) fun l=>?_
 ·have c:a % 8=6:=by
   have:=dN l;omega
  refine SS 1 Z fun R b=>Td ([.int .i64 2,.int .i64 0]) U8<|Th [[.int .i64 2,.int .i64 0]] U12 fun ae _ _ z=>UU Z Z Z Z Z Z Z Z Z Z d.m_ z.m_ (.inr dc_) (by simp only [Pz,PV,maxLen];omega) dc_ fl_ fun af _ _ A=>Td ([.int .i64 0,.int .i64 4,.int .i64 3]) U8<|Td ([.int .i64 4,.int .i64 2,.int .i64 3]) U8<|Td ([.int .i64 4,.int .i64 1,.int .i64 2]) U8<|Th [[.int .i64 0,.int .i64 4,.int .i64 3],[.int .i64 4,.int .i64 2,.int .i64 3],[.int .i64 4,.int .i64 1,.int .i64 2]] U12 fun ag _ _ B=>C6 2 [2,3] b Z<|S7 (G.dropAll (Tp U3 ?_));exact ⟨Z,by rw [c];exact ⟨_,_,Z,A.mono mup,B.mono mup⟩⟩
 have ah:a % 8≠6:=by
  intro e;rw [e] at l;exact absurd l dc_
 refine SX fun R b=>Td ([.int .i64 0,.int .i64 0]) U8<|Td ([.int .i64 6,.int .i64 0]) U8<|Td ([.int .i64 0,.int .i64 6]) U8<|Td ([.int .i64 2,.int .i64 2]) U8<|Th [[.int .i64 0,.int .i64 0],[.int .i64 6,.int .i64 0],[.int .i64 0,.int .i64 6],[.int .i64 2,.int .i64 2]] U12 fun ai _ _ E=>Td ([.int .i64 0,.int .i64 1,.int .i64 3]) U8<|Td ([.int .i64 1,.int .i64 2,.int .i64 3]) U8<|Td ([.int .i64 2,.int .i64 0,.int .i64 3]) U8<|Th [[.int .i64 0,.int .i64 1,.int .i64 3],[.int .i64 1,.int .i64 2,.int .i64 3],[.int .i64 2,.int .i64 0,.int .i64 3]] U12 fun aj _ _ F=>C6 2 [2,3] b Z<|S7 (G.dropAll (Tp U3 ?_));exact ⟨Z,by rw [show a % 8=7 by omega];exact ⟨_,_,Z,E.mono mup,F.mono mup⟩⟩
theorem DR (a:-128<=n)(b:n<128):IntKind.i8.wrap n=n:=by
 simp [IntKind.wrap,IntKind.bits,IntKind.signed];omega
theorem J8:∀ m:Nat,∀ p∈shP m,0<=p.1/\p.1<=6/\0<=p.2/\p.2<=6
 | 0=>by decide
 | 1=>by decide
 | 2=>by decide
 | 3=>by decide
 | 4=>by decide
 | 5=>by decide
 | 6=>by decide
 | _+7=>by
  show ∀ p∈([(0,0),(6,0),(0,6),(2,2)]:List (Int × Int)),0<=p.1/\p.1<=6/\0<=p.2/\p.2<=6;decide
theorem Eo:∀ m:Nat,(shP m).length<=6
 | 0=>by decide
 | 1=>by decide
 | 2=>by decide
 | 3=>by decide
 | 4=>by decide
 | 5=>by decide
 | 6=>by decide
 | _+7=>by
  show ([(0,0),(6,0),(0,6),(2,2)]:List (Int × Int)).length<=6;decide
def cE (m:Nat)(a b:Int)(h:Bool):List Pt:=(shP m).map fun p=>dD a b h p.1 p.2 1
theorem gM (m:Nat)(a b:Int)(h:Bool):(cE m a b h).length<=6:=by rw [cE,al];exact Eo m
theorem pW {w:Int}(c:w≠0)(a:z.natAbs<1000000000)(b:w.natAbs<1000000000):QB 1 (kM z w):=by
 unfold kM;refine gU om_ ?_ ?_
 ·show _<B9 ^ 1;split
  ·rw [Sg];exact a
  exact a
 exact b
theorem AP {a b:Int}{h:Bool}{x y:Int}(g:0<n)(i:n<=4)(j:-128<=x/\x<=127)(k:-128<=y/\y<=127):QP 1 (dD a b h x y n):=by
 have c:=xJ a;have d:=xJ b;have hh:dO h=1∨dO h=2:=by cases h <;> simp [dO]
 have f:∀ z:Int, -8<z->z<8->-32<z*n/\z*n<32:=fun z h1 h2=>by
  rcases (by omega:n=1∨n=2∨n=3∨n=4) with e | e | e | e <;> subst e <;> omega
 have l:=f _ c.1 c.2;have m:=f _ d.1 d.2;have o:0<dO h*n/\dO h*n<=8:=by rcases hh with e | e <;> rw [e] <;> omega
 exact ⟨pW om_ om_ om_,pW om_ om_ om_⟩
theorem wu (C:Mem)(E:Tabs C)(d:Nat)(a b:Int)(h:Bool)(F:d<256):Pur cx.P 57 [J7 d a b h] C fun u D=>MeshIn D u (cE (d % 8) a b h) (shT (d % 8)):=by
 have H:=J8 (d % 8);have ac:=Eo (d % 8);refine S4 func57 42 U3 fun w0=>SX fun R e=>Tf U6 fun I=>Te U5 fun f=>SY [1,2] e Z<|G.freeze 1 Z fun _ _ v=>SS 1 Z fun R e=>SU (bkT v 1) U8<|Tv (Co _ d F) U7 (fun ad _ _ J=>?_);obtain ⟨pv,tv,rfl,g,o⟩:=J;obtain ⟨K,L,rfl,M,ae,_⟩:=id g;obtain ⟨At,k,rfl,af,ah,_⟩:=id o;simp only [al] at g o M ⊢;refine C6 5 [1,2,3,4] e Z<|SS 1 Z fun R e=>Td [.slice none 0 0,.slice At (shT (d % 8)).length k] U8<|Te U5 fun l=>S5 (j:=0) U12<|SY [1,2,3,5] e Z<|SR 1 [1,2,3,5,6] Z<|G.nilArr 34 2<|G.perm (L':=[.obj l (.cells ⟨[.slice none 0 0,.slice At (shT (d % 8)).length k]⟩ 39 (0,0)),.arr (.slice none 0 0) 34 2 0 [],.obj f (.cells ⟨[.slice none 0 0,.slice none 0 0]⟩ 39 (0,0))]) (List.Perm.swap _ _ _)<|G.loop (fun fr C' q N=>∃ (i:Nat)(w:Value),(i<=(shP (d % 8)).length)/\fr=[(1,[],.pointer (some ⟨I,0,none⟩)),(2,[],.pointer (some ⟨f,0,none⟩)),(3,[],.slice K (shP (d % 8)).length L),(5,[],.pointer (some ⟨l,0,none⟩)),(6,[],.int .i64 i)]/\q=[.obj l (.cells ⟨[w,.slice At (shT (d % 8)).length k]⟩ 39 (0,0)),.arr w 34 2 ((cE (d % 8) a b h).take i).length (((cE (d % 8) a b h).take i).map fZ).flatten,.obj f (.cells ⟨[.slice none 0 0,.slice none 0 0]⟩ 39 (0,0))]/\N=(shP (d % 8)).length-i) (hn_ [1,2,3,5,6] Z) ⟨0,.slice none 0 0,Pm _,Z,Z,Z⟩ (fun fr ai aj m _ O=>?_);obtain ⟨i,w,hi,rfl,rfl,rfl⟩:=O;refine SR 4 [1,2,3,5,6,18] Z<|G.cd (fun s=>?_) fun s=>?_
 ·have t:i<(shP (d % 8)).length:=by
   have:=OD s;omega
  obtain ⟨p,n⟩:∃ p,(shP (d % 8))[i]?=some p:=⟨(shP (d % 8))[i],ak t⟩;obtain ⟨am,an,ao,ap⟩:=H p (Pe n);have Q:(cE (d % 8) a b h)[i]?=some (dD a b h p.1 p.2 1):=by unfold cE;rw [Pi,n];rfl
  have S:(cE (d % 8) a b h).take (i+1)=(cE (d % 8) a b h).take i++[dD a b h p.1 p.2 1]:=by rw [PN,Q];rfl
  have aq:((cE (d % 8) a b h).take i).length<=6:=by rw [Pw];have:=gM (d % 8) a b h;omega
  refine Tg [0,1,2,3,4,5,6,7,8,9,10,11,12,13,14,15,16,17,18,19,20] [(16,1),(8,0),(14,0)] Z kr_ fun R hB e=>SV U6<|S1 ag U9<|SU (bkT v 4) U8<|SZ 2 Z<|Ta g.m_ U10 om_ (cq n) fl_ fun ar T=>Ux U9 (fun _=>T) (fun _=>⟨by omega,om_⟩) fl_ Z (fun au U=>?_);have V:=U trivial;refine SU V U8<|TW (c:=p.1) U8 (DR om_ om_) U2<|SZ 2 Z<|Ta g.m_ U10 om_ (cq n) fl_ fun av W=>Ux U9 (fun _=>W) (fun _=>⟨by omega,om_⟩) fl_ Z (fun ax X=>?_);have Y:=X trivial;refine SU Y U8<|TW (c:=p.2) U8 (DR om_ om_) U2<|Td [.int .i8 p.1,.int .i8 p.2] U8<|Tj (fun _=>(AQ _ E.m_ d a b h p.1 p.2 1 dc_ dc_ ⟨by omega,by omega⟩ ⟨by omega,by omega⟩)) U9<|Th [fZ (dD a b h p.1 p.2 1)] U12 fun ay _ _ aa=>Tq (j:=1) U11 aa.m_ Z aw (by simp only [aY];omega) fl_ fun x z A=>SV U6<|S5 (j:=1) U12<|SY [1,2,3,5,6] e Z<|SS 1 Z fun R e=>S2 _ Z U6<|C6 1 [1,2,3,5,6] e Z<|Tc (L':=[.obj l (.cells ⟨[.slice x z A,.slice At (shT (d % 8)).length k]⟩ 39 (0,0)),.arr (.slice x z A) 34 2 ((cE (d % 8) a b h).take (i+1)).length (((cE (d % 8) a b h).take (i+1)).map fZ).flatten,.obj f (.cells ⟨[.slice none 0 0,.slice none 0 0]⟩ 39 (0,0))]) (by rw [S,PM,PH,Po];rfl)<|S6 (m':=(shP (d % 8)).length-(i+1)) om_ mup (hn_ [1,2,3,5,6] Z) ⟨i+1,_,om_,Z,Z,Z⟩
 have t:i=(shP (d % 8)).length:=by
  have:=Pj s;omega
 have ab:(cE (d % 8) a b h).take i=cE (d % 8) a b h:=PZ (by rw [t,cE,al];exact Pf _);rw [ab];refine G.freezeArr 1 ((cE (d % 8) a b h).map fZ) U2 (by intro r hr;obtain ⟨y,_,rfl⟩:=Pn.1 hr;rfl) (by rw [al]) (fun Cg hg B=>?_);obtain ⟨Aw,cw,rfl,_⟩:=id B;refine SX fun R e=>S1 ag U9<|S5 (j:=1) U12<|SY [2] e Z<|S7 (TE ag U4 ?_);exact ⟨Z,_,_,Z,B,o.mono mup⟩
structure Hts where
 h0:Int
 h1:Int
 h2:Int
 h3:Int
 h4:Int
 h5:Int
 half:Bool
def Hw (H:Hts):List Int:=[H.h0,H.h1,H.h2,H.h3,H.h4,H.h5]
def N5 (H:Hts):List Value:=[.int .i8 H.h0,.int .i8 H.h1,.int .i8 H.h2,.int .i8 H.h3,.int .i8 H.h4,.int .i8 H.h5,.bool H.half]
def OC (H:Hts):Prop:=∀ z∈Hw H, -128<=z/\z<=127
def fsK (n:Nat)(H:Hts):List Rat:=(List.range n).map fun i=>kM (((Hw H).getD (i % 6) 0).tmod 20) (dO H.half)
theorem D6 (a:Int):-20<a.tmod 20/\a.tmod 20<20:=by
 have h:(a.tmod 20).natAbs=a.natAbs % 20:=RZ a 20;omega
theorem tZ (h:Bool):dO h=1∨dO h=2:=by cases h <;> simp [dO]
theorem ud (n:Nat)(H:Hts):(fsK n H).length=n:=by simp [fsK]
theorem Gj (n:Nat)(H:Hts):∀ q∈fsK n H,QB 1 q:=by
 intro q a;unfold fsK at a;obtain ⟨i,_,rfl⟩:=Pn.1 a;have h1:=D6 ((Hw H).getD (i % 6) 0);have h2:=tZ H.half;exact pW om_ om_ om_
theorem Ml (H:Hts)(j:Nat)(a:j<6):((N5 H).drop j).take 1=[.int .i8 ((Hw H).getD j 0)]:=by
 rcases (by omega:j=0∨j=1∨j=2∨j=3∨j=4∨j=5) with rfl | rfl | rfl | rfl | rfl | rfl <;> rfl
theorem iW (C:Mem)(B:Tabs C)(o E:Value)(n:Nat)(F:Option Addr)(I:Nat)(H:Hts)(J:o=.slice F n I)(T:n<=400)(K:OC H):Pur cx.P 30 [.agg ⟨[o,E]⟩,.agg ⟨N5 H⟩] C fun u D=>Sl D 1 u ((fsK n H).map eD):=by
 subst J;obtain ⟨h0,h1,h2,h3,h4,h5,a⟩:=H;have U:maxLen<=9223372036854775807:=by simp [maxLen]
 refine S4 func30 31 U3 fun w0=>SX fun R b=>Tf U6 fun p=>Tf U6 fun q=>C6 1 [2,3] b Z<|G.freeze 1 Z fun _ _ L=>G.freeze 0 Z fun _ _ s=>SX fun R b=>TY [] U12 fl_ fun t=>C6 1 [2,3,5] b Z<|SR 1 [2,3,5,6] Z<|SS 1 Z fun R b=>SU (bkT s 1) U8<|SY [2,3,5,6,10] b Z<|G.cut (fun fr M d e=>(True)/\fr=[(2,[],.pointer (some ⟨p,0,none⟩)),(3,[],.pointer (some ⟨q,0,none⟩)),(5,[],.slice (some ⟨t,0,none⟩) 0 0),(6,[],.int .i64 (dO a))]/\d=[.arr (.slice (some ⟨t,0,none⟩) 0 0) 32 1 0 []]) ?_ (fun fr _ V e _ f=>?_)
 ·refine G.cd (fun g=>?_) fun g=>?_
  ·have h1:a=true:=g;subst h1;refine SR 1 [2,3,5,6] Z<|S9 0 (Mem.le.refl _) (hn_ [2,3,5,6] Z) ⟨trivial,Z,Z⟩
  have h1:a=false:=g;subst h1;refine S9 0 (Mem.le.refl _) (hn_ [2,3,5,6] Z) ⟨trivial,Z,Z⟩
 obtain ⟨_,rfl,rfl⟩:=f;refine SR 1 [2,3,5,6,7] Z<|G.loop (fun fr M d e=>∃ (i:Nat)(w:Value),(i<=n)/\fr=[(2,[],.pointer (some ⟨p,0,none⟩)),(3,[],.pointer (some ⟨q,0,none⟩)),(5,[],w),(6,[],.int .i64 (dO a)),(7,[],.int .i64 i)]/\d=[.arr w 32 1 ((fsK n ⟨h0,h1,h2,h3,h4,h5,a⟩).take i).length (((fsK n ⟨h0,h1,h2,h3,h4,h5,a⟩).take i).map eD).flatten]/\e=n-i) (hn_ [2,3,5,6,7] Z) ⟨0,_,Pm _,Z,Z,Z⟩ (fun fr W X m _ f=>?_);obtain ⟨i,w,Y,rfl,rfl,rfl⟩:=f;refine SS 2 Z fun R b=>SU (bkT L 1) U8<|C6 2 [2,3,5,6,7,15] b Z<|G.cd (fun h=>?_) fun h=>?_
 ·have k:i<n:=by
   have:=OD h;omega
  have v:i % 6<6:=PY _ dc_;obtain ⟨z,l⟩:∃ z,(Hw ⟨h0,h1,h2,h3,h4,h5,a⟩).getD (i % 6) 0=z:=⟨_,rfl⟩;have x:=Ml ⟨h0,h1,h2,h3,h4,h5,a⟩ (i % 6) v;rw [l] at x;have N:z∈Hw ⟨h0,h1,h2,h3,h4,h5,a⟩:=by
   rw [<- l,ax,ak (show i % 6<(Hw ⟨h0,h1,h2,h3,h4,h5,a⟩).length from v),Qx];exact Qa _
  have aa:=K z N;have ab:=D6 z;have ac:=tZ a;have O:(fsK n ⟨h0,h1,h2,h3,h4,h5,a⟩).take (i+1)=(fsK n ⟨h0,h1,h2,h3,h4,h5,a⟩).take i++[kM (z.tmod 20) (dO a)]:=by
   rw [PN,show (fsK n ⟨h0,h1,h2,h3,h4,h5,a⟩)[i]?=some (kM (z.tmod 20) (dO a)) by unfold fsK;rw [Pi,PX k,<- l];rfl];rfl
  have ad:((fsK n ⟨h0,h1,h2,h3,h4,h5,a⟩).take i).length<=400:=by rw [Pw,ud];omega
  refine SS 2 Z fun R b=>TM (i) (6) U6 om_ U2<|SV U6<|Ti ((i % 6)) U9 (fun _=>⟨by omega,by omega,(by show i % 6=0+(i % 6)*1;omega)⟩) U2<|Ud (PtrTo.blockT (Mem.get s mup) (i % 6) 1) U6 (show cJ _ (((N5 ⟨h0,h1,h2,h3,h4,h5,a⟩).drop (i % 6)).take 1)=some (.int .i8 z) from by rw [x];rfl) Z<|Tz (c:=z) U8 (wrap_i64 om_ om_) fl_<|TU (z.tmod 20) U6 dc_ U3<|SV U6<|Tb (NY _ B.m_ (z.tmod 20) (dO a) om_ om_ om_) U7 fl_<|Th [eD (kM (z.tmod 20) (dO a))] U12 fun ae _ _ Q=>D.append (j:=0) U11 Q Z aw (by simp only [aY];omega) fl_ fun A=>C6 1 [2,3,5,6,7] b Z<|SS 1 Z fun R b=>S2 _ Z U6<|C6 1 [2,3,5,6,7] b Z<|Tc (L':=[.arr A 32 1 ((fsK n ⟨h0,h1,h2,h3,h4,h5,a⟩).take (i+1)).length (((fsK n ⟨h0,h1,h2,h3,h4,h5,a⟩).take (i+1)).map eD).flatten]) (by rw [O,PM,PH,Po];rfl)<|S6 (m':=n-(i+1)) om_ mup (hn_ [2,3,5,6,7] Z) ⟨i+1,A,om_,Z,Z,Z⟩
 have k:i=n:=by
  have:=Pj h;omega
 rw [show (fsK n ⟨h0,h1,h2,h3,h4,h5,a⟩).take i=fsK n ⟨h0,h1,h2,h3,h4,h5,a⟩ from PZ (by rw [k,ud];exact Pf _)];exact SR 2 [4] Z<|G.freezeArr 0 ((fsK n ⟨h0,h1,h2,h3,h4,h5,a⟩).map eD) U2 (by intro r hr;obtain ⟨y,_,rfl⟩:=Pn.1 hr;rfl) (by rw [al]) fun Cg hg S=>S3 U2<|⟨Z,S⟩
structure Sgt where
 kind:Nat
 px:Int
 py:Int
 u0:Nat
 u1:Nat
 depth:Nat
 n0:Int
 n1:Int
 n2:Int
def M3 (s:Sgt):List Value:=[.int .u8 s.kind,.int .i8 s.px,.int .i8 s.py,.int .u8 s.u0,.int .u8 s.u1,.int .u8 s.depth,.int .i8 s.n0,.int .i8 s.n1,.int .i8 s.n2]
structure SgtR (s:Sgt):Prop where
 kind:s.kind<256
 px:-128<=s.px/\s.px<=127
 py:-128<=s.py/\s.py<=127
 u0:s.u0<256
 u1:s.u1<256
 depth:s.depth<256
 n0:-128<=s.n0/\s.n0<=127
 n1:-128<=s.n1/\s.n1<=127
 n2:-128<=s.n2/\s.n2<=127
structure Sht where
 kd:Nat
 a:Int
 b:Int
 h:Bool
def LL (S:Sht)(H:Hts)(sv:Value):List Value:=[.int .u8 S.kd,.int .i8 S.a,.int .i8 S.b,.bool S.h,.int .i8 H.h0,.int .i8 H.h1,.int .i8 H.h2,.int .i8 H.h3,.int .i8 H.h4,.int .i8 H.h5,.bool H.half,sv]
def qO (i:Nat):Str:=[UInt8.ofNat (65+i)]
def lj (S:Sht)(s:Sgt):Pt :=
 if kF (cE (S.kd % 8) S.a S.b S.h) (shT (S.kd % 8)) (dD S.a S.b S.h s.px s.py 2)≠[] then dD S.a S.b S.h s.px s.py 2
 else (cE (S.kd % 8) S.a S.b S.h).getD (s.depth % (cE (S.kd % 8) S.a S.b S.h).length) (0,0)
def fa (z:Int):Int:=if z.tmod 5=0 then 1 else z.tmod 5
def loU (s:Sgt):Nat:=if s.u0 % 3=s.u1 % 3 then 0 else s.u0 % 3
def upU (s:Sgt):Nat:=if s.u0 % 3=s.u1 % 3 then 1+s.u1 % 3 % 2 else s.u1 % 3
def fF (S:Sht)(s:Sgt)(i:Nat):Obs :=
 if s.kind % 3=0 then ⟨1,[111,UInt8.ofNat (49+i)],qtx (lj S s).1,qtx (lj S s).2,[],qO (s.u1 % 3),[],[],[],[]⟩
 else if s.kind % 3=1 then ⟨2,[111,UInt8.ofNat (49+i)],qtx (lj S s).1,qtx (lj S s).2,qtx (kM (s.depth % 12:Nat) 2),qO (max (loU s) (upU s)),qO (min (loU s) (upU s)),[],[],[]⟩
 else ⟨3,[111,UInt8.ofNat (49+i)],qtx (lj S s).1,qtx (lj S s).2,[],qO (max (loU s) (upU s)),qO (min (loU s) (upU s)),qtx ((s.n0.tmod 5:Int):Rat),qtx ((s.n1.tmod 5:Int):Rat),qtx ((fa s.n2:Int):Rat)⟩
theorem wrap_u8 (a:0<=n)(b:n<256):IntKind.u8.wrap n=n:=by
 simp only [IntKind.wrap,IntKind.bits,IntKind.signed];simp;omega
theorem mF (i:Nat)(a:i<6):([[.int .u8 111],[.int .u8 (49+(i:Int))]]:List (List Value))=(([111,UInt8.ofNat (49+i)]:Str).map fun b=>[.int .u8 b.toNat]):=by
 rcases (by omega:i=0∨i=1∨i=2∨i=3∨i=4∨i=5) with rfl | rfl | rfl | rfl | rfl | rfl <;> rfl
theorem Bl (j:Nat)(a:j<3):(([af [65],af [66],af [67]]:List Value).drop j).take 1=[af (qO j)]:=by
 rcases (by omega:j=0∨j=1∨j=2) with rfl | rfl | rfl <;> rfl
theorem ya:∀ m:Nat,0<(shP m).length
 | 0=>by decide
 | 1=>by decide
 | 2=>by decide
 | 3=>by decide
 | 4=>by decide
 | 5=>by decide
 | 6=>by decide
 | _+7=>by
  show 0<([(0,0),(6,0),(0,6),(2,2)]:List (Int × Int)).length;decide
theorem ns (a:Int):-5<a.tmod 5/\a.tmod 5<5:=by
 have h:(a.tmod 5).natAbs=a.natAbs % 5:=RZ a 5;omega
theorem Me (s:Sgt):loU s<=2:=by unfold loU;split <;> omega
theorem KZ (s:Sgt):upU s<=2:=by unfold upU;split <;> omega
theorem EP {p:Pt}(h:QP 1 p):QP 23 p/\PtR p:=⟨⟨h.1.le dc_,h.2.le dc_⟩,bC (h.1.le dc_),bC (h.2.le dc_)⟩
theorem qM (C:Mem)(r:Tabs C)(S:Sht)(s:Sgt)(H:Hts)(sv:Value)(i:Nat)(U:i<6)(hk:S.kd<256)(q:SgtR s)(hG:Good (cE (S.kd % 8) S.a S.b S.h) (shT (S.kd % 8))) :
  Pur cx.P 58 [.agg ⟨LL S H sv⟩,.agg ⟨M3 s⟩,.int .i64 i] C fun u _D=>u=.agg ⟨qS (fF S s i)⟩:=by
 have aE:=q.kind;have aG:=q.u0;have aH:=q.u1;have aI:=q.depth;have aJ:=ns s.n0;have aK:=ns s.n1;have aM:=ns s.n2;have an:=Me s;have ao:=KZ s;have ap:QP 1 (dD S.a S.b S.h s.px s.py 2):=AP dc_ dc_ q.px q.py;obtain ⟨aq,ar⟩:=EP ap;obtain ⟨lo,v⟩:∃ n,loU s=n:=⟨_,rfl⟩;obtain ⟨up,w⟩:∃ n,upU s=n:=⟨_,rfl⟩;obtain ⟨p,x⟩:∃ p,lj S s=p:=⟨_,rfl⟩;obtain ⟨t,E⟩:∃ z,fa s.n2=z:=⟨_,rfl⟩;have aN:-5<t/\t<5:=by rw [<- E];unfold fa;split <;> omega
 rw [v] at an;rw [w] at ao;have ai:0<(cE (S.kd % 8) S.a S.b S.h).length:=by rw [cE,al];exact ya _
 have aO:=gM (S.kd % 8) S.a S.b S.h;refine S4 func58 129 U3 fun w0=>SX fun R d=>Tf U6 fun b3=>Tf U6 fun y=>Te U5 fun g=>SY [2,3,4,6] d Z<|G.freeze 2 Z fun _ _ aj=>G.freeze 1 Z fun _ _ k=>SS 1 Z fun R d=>SU (bkT aj 4) U8<|Tv (wu _ r.m_ S.kd S.a S.b S.h hk) U7 (fun aP _ _ V=>?_);obtain ⟨v1,v2,rfl,W,au⟩:=id V.ex;obtain ⟨A1,c1,rfl,av,aQ,_⟩:=id W;obtain ⟨A2,c2,rfl,_,_,_⟩:=id au;simp only [al] at W av V ⊢;refine Te U5 fun b7=>S5 (j:=0) U12<|SY [2,3,4,6,7] d Z<|G.freeze 0 Z fun _ _ X=>G.cut (fun fr F l m=>∃ (f:Nat),(True)/\fr=[(4,[],.pointer (some ⟨y,0,none⟩)),(6,[],.pointer (some ⟨g,0,none⟩)),(7,[],.pointer (some ⟨b7,0,none⟩)),(8,[],.pointer (some ⟨f,0,none⟩))]/\l=[.obj f (.cells ⟨[.int .i64 (1+((s.kind % 3:Nat):Int)),af [111,UInt8.ofNat (49+i)],af (qtx (dD S.a S.b S.h s.px s.py 2).1),af (qtx (dD S.a S.b S.h s.px s.py 2).2),af [],af [],af [],af [],af [],af []]⟩ 126 (0,0)),.obj g (.cells ⟨[.int .i64 0,af [],af [],af [],af [],af [],af [],af [],af [],af []]⟩ 126 (0,0))]) ?_ (fun fr aR aS m aT o=>?_)
 ·refine TG (.cut [0,1,2,3,4,5,6,7,10,11,12,13,14] (.alt 8 (.cut [] (.alt 9 (.fin [15,16,17]) (.alt 16 (.fin [9,15,17]) .stop))) (.alt 16 (.fin [8,9,15,17]) .stop))) [(14,1),(3,0),(6,0)] Z Z kr_ fun R I d J=>SV U6<|SU (bkT k 1) U8<|TM (s.kind) (3) U6 om_ U2<|TW (c:=((s.kind % 3:Nat):Int)) U8 (wrap_i64 om_ om_) U2<|S2 _ Z U6<|SV U6<|TW (c:=(i:Int)) U8 (wrap_u8 om_ om_) U2<|D.int ((49+(i:Int))) U4 (wrap_u8 om_ om_) U2<|SV U6<|SU (bkT aj 4) U8<|SV U6<|SU (bkT k 2) U8<|Tj (fun _=>(AQ _ r.m_ S.kd S.a S.b S.h s.px s.py 2 dc_ dc_ q.px q.py)) U9<|Tw J Z ⟨?_, ?_,trivial⟩
  ·refine Th [[.int .u8 111],[.int .u8 (49+(i:Int))]] U12 fun aw ay _ K=>Tw J Z ⟨?_, ?_,trivial⟩
   ·exact Un (show Sl _ 1 _ (([111,UInt8.ofNat (49+i)]:Str).map fun b=>[.int .u8 b.toNat]) from by rw [<- mF i U];exact K.mono mup) U11 fl_<|Td [.int .i64 (1+((s.kind % 3:Nat):Int)),af [111,UInt8.ofNat (49+i)],af (qtx (dD S.a S.b S.h s.px s.py 2).1),af (qtx (dD S.a S.b S.h s.px s.py 2).2),af [],af [],af [],af [],af [],af []] U8<|Te U5 fun f=>S5 (j:=0) U12<|SY [4,6,7,8] d Z<|S9 0 mup (hn_ [4,6,7,8] Z) ⟨f,trivial,Z,Z⟩
   exact Te U5 fun f=>Un (show Sl _ 1 _ (([111,UInt8.ofNat (49+i)]:Str).map fun b=>[.int .u8 b.toNat]) from by rw [<- mF i U];exact K.mono mup) U11 fl_<|Td [.int .i64 (1+((s.kind % 3:Nat):Int)),af [111,UInt8.ofNat (49+i)],af (qtx (dD S.a S.b S.h s.px s.py 2).1),af (qtx (dD S.a S.b S.h s.px s.py 2).2),af [],af [],af [],af [],af [],af []] U8<|S5 (j:=0) U12<|SY [4,6,7,8] d Z<|S9 0 mup (hn_ [4,6,7,8] Z) ⟨f,trivial,Z,Z⟩
  exact Te U5 fun f=>Th [[.int .u8 111],[.int .u8 (49+(i:Int))]] U12 fun aw ay _ K=>Un (show Sl _ 1 _ (([111,UInt8.ofNat (49+i)]:Str).map fun b=>[.int .u8 b.toNat]) from by rw [<- mF i U];exact K.mono mup) U11 fl_<|Td [.int .i64 (1+((s.kind % 3:Nat):Int)),af [111,UInt8.ofNat (49+i)],af (qtx (dD S.a S.b S.h s.px s.py 2).1),af (qtx (dD S.a S.b S.h s.px s.py 2).2),af [],af [],af [],af [],af [],af []] U8<|S5 (j:=0) U12<|SY [4,6,7,8] d Z<|S9 0 mup (hn_ [4,6,7,8] Z) ⟨f,trivial,Z,Z⟩
 obtain ⟨f,_,rfl,rfl⟩:=o;refine SX fun R d=>SU (bkT X 2) U8<|SV U6<|S1 ag U9<|S8 (qg _ r.m_ _ _ _ (dD S.a S.b S.h s.px s.py 2) V.m_ hG aq ar) U7<|C6 5 [4,6,7,8,9] d Z<|SR 2 [4,6,7,8,42] Z<|G.cut (fun fr F l m=>(True)/\fr=[(4,[],.pointer (some ⟨y,0,none⟩)),(6,[],.pointer (some ⟨g,0,none⟩)),(8,[],.pointer (some ⟨f,0,none⟩))]/\l=[.obj f (.cells ⟨[.int .i64 (1+((s.kind % 3:Nat):Int)),af [111,UInt8.ofNat (49+i)],af (qtx p.1),af (qtx p.2),af [],af [],af [],af [],af [],af []]⟩ 126 (0,0)),.obj g (.cells ⟨[.int .i64 0,af [],af [],af [],af [],af [],af [],af [],af [],af []]⟩ 126 (0,0))]) ?_ (fun fr _ aU m _ o=>?_)
 ·refine G.cd (fun Y=>?_) fun Y=>?_
  ·have az:kF (cE (S.kd % 8) S.a S.b S.h) (shT (S.kd % 8)) (dD S.a S.b S.h s.px s.py 2)=[]:=by simpa using Y
   have am:s.depth % (cE (S.kd % 8) S.a S.b S.h).length<(cE (S.kd % 8) S.a S.b S.h).length:=PY _ ai;have aa:p=(cE (S.kd % 8) S.a S.b S.h)[s.depth % (cE (S.kd % 8) S.a S.b S.h).length]:=by
    rw [<- x,lj,aF (by rw [az];simp),ax,ak am,Qx]
   have hp:(cE (S.kd % 8) S.a S.b S.h)[s.depth % (cE (S.kd % 8) S.a S.b S.h).length]?=some p:=by rw [aa];exact ak am
   refine Tg [0,1,2,3,4,5,6,7,8,9,10,11,12] [(4,0)] Z kr_ fun R I d=>SV U6<|SU (bkT X 1) U8<|SV U6<|SU (bkT k 1) U8<|TW (c:=(s.depth:Int)) U8 (wrap_i64 om_ om_) U2<|SV U6<|SU (bkT X 1) U8<|SV U6<|TM (s.depth) ((cE (S.kd % 8) S.a S.b S.h).length) U6 ai U2<|Ta W.m_ U10 om_ (cq hp) fl_ fun aV aA=>SU aA U8<|SV U6<|S5 (j:=0) U12<|SY [4,6,8] d Z<|S9 0 (Mem.le.refl _) (hn_ [4,6,8] Z) ⟨trivial,Z,Z⟩
  have aB:kF (cE (S.kd % 8) S.a S.b S.h) (shT (S.kd % 8)) (dD S.a S.b S.h s.px s.py 2)≠[]:=by simpa using Y
  have aa:p=dD S.a S.b S.h s.px s.py 2:=by rw [<- x,lj,aL aB]
  subst aa;refine S9 0 (Mem.le.refl _) (hn_ [4,6,8] Z) ⟨trivial,Z,Z⟩
 obtain ⟨_,rfl,rfl⟩:=o;refine SX fun R d=>Td ([af [65],af [66],af [67]]) U8<|Te U5 fun aC=>S5 (j:=0) U12<|SY [4,6,8,11] d Z<|G.freeze 0 Z fun _ _ L=>Tg [0,1,2,3,4,5,6,7,8,9,10,11] [(4,0),(9,0)] Z kr_ fun R I d=>SV U6<|Ti (3) U9 ah U2<|SU (bkT k 1) U8<|TM (s.u0) (3) U6 om_ U2<|TW (c:=((s.u0 % 3:Nat):Int)) U8 (wrap_i64 om_ om_) U2<|SV U6<|Ti (4) U9 ah U2<|SU (bkT k 1) U8<|TM (s.u1) (3) U6 om_ U2<|TW (c:=((s.u1 % 3:Nat):Int)) U8 (wrap_i64 om_ om_) U2<|C6 2 [4,6,8,11,12,13] d Z<|SS 1 Z fun R d=>S1 ag U9<|C6 1 [4,6,8,11,12,13,68] d Z<|G.cd (fun M=>?_) fun M=>?_
 ·have A:s.kind % 3=0:=by
   have:=dN M;omega
  refine SS 1 Z fun R d=>Ti ((s.u1 % 3)) U9 (fun _=>⟨by omega,by omega,(by show s.u1 % 3=0+(s.u1 % 3)*1;omega)⟩) U2<|Ud (PtrTo.blockT (Mem.get L mup) (s.u1 % 3) 1) U6 (show cJ _ ((([af [65],af [66],af [67]]:List Value).drop (s.u1 % 3)).take 1)=some (af (qO (s.u1 % 3))) from by rw [Bl _ om_];rfl) Z<|SV U6<|S5 (j:=0) U12<|SY [6,8] d Z<|SX fun R d=>S1 ag U9<|S5 (j:=1) U12<|SY [6] d Z<|S7 (TE ag U4 ?_);exact ⟨Z,by unfold fF;rw [aL A,x,A];rfl⟩
 have A:¬ s.kind % 3=0:=by
  intro e;rw [e] at M;exact absurd M dc_
 refine SR 3 [4,6,8,11,12,13,76] Z<|G.cut (fun fr F l m=>(True)/\fr=[(4,[],.pointer (some ⟨y,0,none⟩)),(6,[],.pointer (some ⟨g,0,none⟩)),(8,[],.pointer (some ⟨f,0,none⟩)),(11,[],.pointer (some ⟨aC,0,none⟩)),(12,[],.int .i64 (lo:Nat)),(13,[],.int .i64 (up:Nat))]/\l=[.obj f (.cells ⟨[.int .i64 (1+((s.kind % 3:Nat):Int)),af [111,UInt8.ofNat (49+i)],af (qtx p.1),af (qtx p.2),af [],af [],af [],af [],af [],af []]⟩ 126 (0,0)),.obj g (.cells ⟨[.int .i64 0,af [],af [],af [],af [],af [],af [],af [],af [],af []]⟩ 126 (0,0))]) ?_ (fun fr _ aW m _ o=>?_)
 ·refine G.cd (fun N=>?_) fun N=>?_
  ·have B:s.u0 % 3=s.u1 % 3:=by
    have:=dN N;omega
   have ab:lo=0:=by rw [<- v,loU,aL B]
   have ac:up=1+s.u1 % 3 % 2:=by rw [<- w,upU,aL B]
   subst ab;subst ac;refine SS 1 Z fun R d=>TM ((s.u1 % 3)) (2) U6 om_ U2<|S2 _ Z U6<|C6 2 [4,6,8,11,12,13] d Z<|S9 0 (Mem.le.refl _) (hn_ [4,6,8,11,12,13] Z) ⟨trivial,Z,Z⟩
  have B:¬ s.u0 % 3=s.u1 % 3:=by
   intro e;rw [e,beq_self_eq_true] at N;exact absurd N dc_
  have ab:lo=s.u0 % 3:=by rw [<- v,loU,aF B]
  have ac:up=s.u1 % 3:=by rw [<- w,upU,aF B]
  subst ab;subst ac;refine S9 0 (Mem.le.refl _) (hn_ [4,6,8,11,12,13] Z) ⟨trivial,Z,Z⟩
 obtain ⟨_,rfl,rfl⟩:=o;refine G.cut (fun fr F l m=>(True)/\fr=[(4,[],.pointer (some ⟨y,0,none⟩)),(6,[],.pointer (some ⟨g,0,none⟩)),(8,[],.pointer (some ⟨f,0,none⟩))]/\l=[.obj f (.cells ⟨[.int .i64 (1+((s.kind % 3:Nat):Int)),af [111,UInt8.ofNat (49+i)],af (qtx p.1),af (qtx p.2),af [],af (qO (max lo up)),af (qO (min lo up)),af [],af [],af []]⟩ 126 (0,0)),.obj g (.cells ⟨[.int .i64 0,af [],af [],af [],af [],af [],af [],af [],af [],af []]⟩ 126 (0,0))]) ?_ (fun fr aX aZ m a0 o=>?_)
 ·refine TG (.cut [0,1,2,3,4,5,6,7,8,10] (.alt 9 (.fin [11,12,13]) (.alt 11 (.fin [9,12,13]) .stop))) [] Z Z kr_ fun R I d J=>SZ 2 Z<|D.max (((max lo up:Nat):Int)) U6 om_ U2<|Ti ((max lo up)) U9 (fun _=>⟨by omega,by omega,(by show max lo up=0+(max lo up)*1;omega)⟩) U2<|Ud (PtrTo.blockT (Mem.get L mup) (max lo up) 1) U6 (show cJ _ ((([af [65],af [66],af [67]]:List Value).drop (max lo up)).take 1)=some (af (qO (max lo up))) from by rw [Bl _ om_];rfl) Z<|SZ 2 Z<|D.min (((min lo up:Nat):Int)) U6 om_ U2<|Ti ((min lo up)) U9 (fun _=>⟨by omega,by omega,(by show min lo up=0+(min lo up)*1;omega)⟩) U2<|SV U6<|Tw J Z ⟨?_, ?_,trivial⟩
  ·exact Ud (PtrTo.blockT (Mem.get L mup) (min lo up) 1) U6 (show cJ _ ((([af [65],af [66],af [67]]:List Value).drop (min lo up)).take 1)=some (af (qO (min lo up))) from by rw [Bl _ om_];rfl) Z<|S5 (j:=0) U12<|SV U6<|S5 (j:=0) U12<|SY [4,6,8] d Z<|S9 0 mup (hn_ [4,6,8] Z) ⟨trivial,Z,Z⟩
  exact S5 (j:=0) U12<|Ud (PtrTo.blockT (Mem.get L mup) (min lo up) 1) U6 (show cJ _ ((([af [65],af [66],af [67]]:List Value).drop (min lo up)).take 1)=some (af (qO (min lo up))) from by rw [Bl _ om_];rfl) Z<|SV U6<|S5 (j:=0) U12<|SY [4,6,8] d Z<|S9 0 mup (hn_ [4,6,8] Z) ⟨trivial,Z,Z⟩
 obtain ⟨_,rfl,rfl⟩:=o;refine SS 1 Z fun R d=>S1 ag U9<|C6 1 [4,6,8,94] d Z<|G.cd (fun O=>?_) fun O=>?_
 ·have Q:s.kind % 3=1:=by
   have:=dN O;omega
  refine SS 1 Z fun R d=>SU (bkT k 1) U8<|TM (s.depth) (12) U6 om_ U2<|Tz (c:=((s.depth % 12:Nat):Int)) U8 (wrap_i64 om_ om_) fl_<|Tb (EF _ r.m_ ((s.depth % 12:Nat):Int) 2 om_ om_ om_) U7 fl_<|SZ 4 Z<|S5 (j:=0) U12<|SY [6,8] d Z<|SX fun R d=>S1 ag U9<|S5 (j:=1) U12<|SY [6] d Z<|S7 (TE ag U4 ?_);exact ⟨Z,by unfold fF;rw [aF A,aL Q,x,v,w,Q];rfl⟩
 have Q:¬ s.kind % 3=1:=by
  intro e;rw [e] at O;exact absurd O dc_
 have aD:s.kind % 3=2:=by omega
 refine SS 1 Z fun R d=>Ti (8) U9 ah U2<|SU (bkT k 1) U8<|TU (s.n2.tmod 5) U6 dc_ U3<|Tz (c:=(s.n2.tmod 5)) U8 (wrap_i64 om_ om_) fl_<|C6 1 [4,6,8,14] d Z<|SR 2 [4,6,8,14,111] Z<|G.cut (fun fr F l m=>(True)/\fr=[(4,[],.pointer (some ⟨y,0,none⟩)),(6,[],.pointer (some ⟨g,0,none⟩)),(8,[],.pointer (some ⟨f,0,none⟩)),(14,[],.int .i64 t)]/\l=[.obj f (.cells ⟨[.int .i64 (1+((s.kind % 3:Nat):Int)),af [111,UInt8.ofNat (49+i)],af (qtx p.1),af (qtx p.2),af [],af (qO (max lo up)),af (qO (min lo up)),af [],af [],af []]⟩ 126 (0,0)),.obj g (.cells ⟨[.int .i64 0,af [],af [],af [],af [],af [],af [],af [],af [],af []]⟩ 126 (0,0))]) ?_ (fun fr _ a1 m _ o=>?_)
 ·refine G.cd (fun T=>?_) fun T=>?_
  ·have ad:s.n2.tmod 5=0:=dN T;have ae:t=1:=by rw [<- E,fa,aL ad]
   subst ae;refine SR 1 [4,6,8,14] Z<|S9 0 (Mem.le.refl _) (hn_ [4,6,8,14] Z) ⟨trivial,Z,Z⟩
  have ad:¬ s.n2.tmod 5=0:=by
   intro e;rw [e] at T;exact absurd T dc_
  have ae:t=s.n2.tmod 5:=by rw [<- E,fa,aF ad]
  subst ae;refine S9 0 (Mem.le.refl _) (hn_ [4,6,8,14] Z) ⟨trivial,Z,Z⟩
 obtain ⟨_,rfl,rfl⟩:=o;refine Tg [0,1,2,3,4,5,6,7,8,9,10,11,12,13,14,15,16] [(5,1),(11,1),(13,1),(4,0),(10,0)] Z kr_ fun R I d=>SV U6<|Ti (6) U9 ah U2<|SU (bkT k 1) U8<|TU (s.n0.tmod 5) U6 dc_ U3<|TW (c:=(s.n0.tmod 5)) U8 (wrap_i64 om_ om_) U2<|Tj (fun _=>(sR _ r.m_ (s.n0.tmod 5) om_)) U9<|SV U6<|Ti (7) U9 ah U2<|SU (bkT k 1) U8<|TU (s.n1.tmod 5) U6 dc_ U3<|TW (c:=(s.n1.tmod 5)) U8 (wrap_i64 om_ om_) U2<|Tj (fun _=>(sR _ r.m_ (s.n1.tmod 5) om_)) U9<|SV U6<|Tj (fun _=>(sR _ r.m_ t om_)) U9<|Td [af (qtx ((s.n0.tmod 5:Int):Rat)),af (qtx ((s.n1.tmod 5:Int):Rat)),af (qtx ((t:Int):Rat))] U8<|SV U6<|S5 (j:=0) U12<|SY [6,8] d Z<|SX fun R d=>S1 ag U9<|S5 (j:=1) U12<|SY [6] d Z<|S7 (TE ag U4 ?_);exact ⟨Z,by unfold fF;rw [aF A,aF Q,x,v,w,E,aD];rfl⟩
def CM:Sgt:=⟨0,0,0,0,0,0,0,0,0⟩
def colK:List Lay:=[⟨[65],0,none⟩,⟨[66],0,some 5⟩,⟨[67],1,none⟩]
theorem Ii:qtx 5=[53]:=by
 show qtx ((5:Int):Rat)=_;rw [mC];decide +kernel
theorem JC:colK.map uV=[[af [65],af [48],af []],[af [66],af [48],af [53]],[af [67],af [49],af []]]:=by
 simp only [colK,List.map,uV,uS,qtx_zero,dB,Ii]
def uT (S:Sht)(l:List Sgt):List Obs:=(List.range (min l.length 6)).map fun i=>fF S (l.getD i CM) i
def dT (S:Sht)(H:Hts)(l:List Sgt):Bk:=⟨cE (S.kd % 8) S.a S.b S.h,shT (S.kd % 8),(fsK (cE (S.kd % 8) S.a S.b S.h).length H).map qtx,colK,uT S l⟩
theorem lm (S:Sht)(l:List Sgt):(uT S l).length=min l.length 6:=by simp [uT]
theorem Fj (S:Sht){l:List Sgt}{s:Sgt}(h:l[i]?=some s)(a:i<6):(uT S l)[i]?=some (fF S s i):=by
 have h1:=(aJ.1 h).1;rw [uT,Pi,PX om_];show some (fF S (l.getD i CM) i)=_;rw [ax,h];rfl
theorem FC (C:Mem)(q:Tabs C)(S:Sht)(H:Hts)(V:Value)(l:List Sgt)(W:S.kd<256)(A:OC H)(L:Sl C 9 V (l.map M3))(hs:∀ s∈l,SgtR s)(hG:Good (cE (S.kd % 8) S.a S.b S.h) (shT (S.kd % 8))) :
  Pur cx.P 12 [.agg ⟨LL S H V⟩] C fun u D=>BookIn D u (dT S H l):=by
 obtain ⟨As,cs,rfl,ai,av,_⟩:=id L;have ax:maxLen<=9223372036854775807:=by simp [maxLen]
 simp only [al] at L ai ⊢;have ay:=gM (S.kd % 8) S.a S.b S.h;refine S4 func12 44 U3 fun w0=>SX fun R f=>Tf U6 fun X=>Te U5 fun v=>SY [1,2] f Z<|G.freeze 1 Z fun _ _ B=>SS 1 Z fun R f=>SU (bkT B 4) U8<|Tv (wu _ q.m_ S.kd S.a S.b S.h W) U7 (fun v8 _ _ Y=>?_);obtain ⟨v1,v2,rfl,M,N⟩:=id Y.ex;obtain ⟨k,n,rfl,aj,az,_⟩:=id M;obtain ⟨A2,c2,rfl,_,_,_⟩:=id N;simp only [al] at M N aj Y ⊢;refine Te U5 fun b3=>S5 (j:=0) U12<|SY [1,2,3] f Z<|G.freeze 0 Z fun _ _ aa=>G.cut (fun fr O E Q=>∃ (c:Option Addr)(d:Nat)(x:Value)(g:Nat),(Sl O 1 (.slice c (fsK (cE (S.kd % 8) S.a S.b S.h).length H).length d) ((fsK (cE (S.kd % 8) S.a S.b S.h).length H).map eD)/\Sl O 3 x [[af [65],af [48],af []],[af [66],af [48],af [53]],[af [67],af [49],af []]])/\fr=[(1,[],.pointer (some ⟨X,0,none⟩)),(2,[],.pointer (some ⟨v,0,none⟩)),(4,[],.pointer (some ⟨g,0,none⟩))]/\E=[.obj g (.cells ⟨[.slice k (cE (S.kd % 8) S.a S.b S.h).length n,.slice A2 (shT (S.kd % 8)).length c2,.slice c (fsK (cE (S.kd % 8) S.a S.b S.h).length H).length d,x,.slice none 0 0]⟩ 45 (0,0)),.obj v (.cells ⟨[.slice none 0 0,.slice none 0 0,.slice none 0 0,.slice none 0 0,.slice none 0 0]⟩ 45 (0,0))]) ?_ (fun fr aA aB Q aC T=>?_)
 ·refine TG (.cut [0,1,2,3,5,6,7] (.alt 4 (.cut [] (.alt 8 (.fin [9,10,11]) (.alt 10 (.fin [8,9,11]) .stop))) (.alt 8 (.cut [] (.alt 4 (.fin [9,10,11]) (.alt 10 (.fin [4,9,11]) .stop))) (.alt 10 (.cut [] (.alt 4 (.fin [8,9,11]) (.alt 8 (.fin [4,9,11]) .stop))) .stop)))) [] Z Z kr_ fun R hB f F=>SU (bkT aa 2) U8<|SU (bkT aa 2) U8<|SV U6<|SU (bkT B 7) U8<|Td ([af [65],af [48],af []]) U8<|Td ([af [66],af [48],af [53]]) U8<|Td ([af [67],af [49],af []]) U8<|Tw F Z ⟨?_, ?_, ?_,trivial⟩
  ·refine To (iW _ q.m_ _ _ (cE (S.kd % 8) S.a S.b S.h).length k n H Z om_ A) U7 fl_ fun I J _ e=>Tw F Z ⟨?_, ?_,trivial⟩
   ·refine TH [[af [65],af [48],af []],[af [66],af [48],af [53]],[af [67],af [49],af []]] U12 fl_ (fun o K _ p=>?_);obtain ⟨c,d,rfl,_,_,_⟩:=id e;simp only [al] at e ⊢;exact Td [.slice k (cE (S.kd % 8) S.a S.b S.h).length n,.slice A2 (shT (S.kd % 8)).length c2,.slice c (fsK (cE (S.kd % 8) S.a S.b S.h).length H).length d,.slice (some ⟨o,0,none⟩) 3 3,.slice none 0 0] U8<|Te U5 fun g=>S5 (j:=0) U12<|SY [1,2,4] f Z<|S9 0 mup (hn_ [1,2,4] Z) ⟨c,d,_,g,⟨e.mono mup,p.mono mup⟩,Z,Z⟩
   refine Te U5 fun g=>TH [[af [65],af [48],af []],[af [66],af [48],af [53]],[af [67],af [49],af []]] U12 fl_ (fun o K _ p=>?_);obtain ⟨c,d,rfl,_,_,_⟩:=id e;simp only [al] at e ⊢;exact Td [.slice k (cE (S.kd % 8) S.a S.b S.h).length n,.slice A2 (shT (S.kd % 8)).length c2,.slice c (fsK (cE (S.kd % 8) S.a S.b S.h).length H).length d,.slice (some ⟨o,0,none⟩) 3 3,.slice none 0 0] U8<|S5 (j:=0) U12<|SY [1,2,4] f Z<|S9 0 mup (hn_ [1,2,4] Z) ⟨c,d,_,g,⟨e.mono mup,p.mono mup⟩,Z,Z⟩
  ·refine TH [[af [65],af [48],af []],[af [66],af [48],af [53]],[af [67],af [49],af []]] U12 fl_ fun o K _ p=>Tw F Z ⟨?_, ?_,trivial⟩
   ·refine To (iW _ q.m_ _ _ (cE (S.kd % 8) S.a S.b S.h).length k n H Z om_ A) U7 fl_ (fun I J _ e=>?_);obtain ⟨c,d,rfl,_,_,_⟩:=id e;simp only [al] at e ⊢;exact Td [.slice k (cE (S.kd % 8) S.a S.b S.h).length n,.slice A2 (shT (S.kd % 8)).length c2,.slice c (fsK (cE (S.kd % 8) S.a S.b S.h).length H).length d,.slice (some ⟨o,0,none⟩) 3 3,.slice none 0 0] U8<|Te U5 fun g=>S5 (j:=0) U12<|SY [1,2,4] f Z<|S9 0 mup (hn_ [1,2,4] Z) ⟨c,d,_,g,⟨e.mono mup,p.mono mup⟩,Z,Z⟩
   refine Te U5 fun g=>To (iW _ q.m_ _ _ (cE (S.kd % 8) S.a S.b S.h).length k n H Z om_ A) U7 fl_ (fun I J _ e=>?_);obtain ⟨c,d,rfl,_,_,_⟩:=id e;simp only [al] at e ⊢;exact Td [.slice k (cE (S.kd % 8) S.a S.b S.h).length n,.slice A2 (shT (S.kd % 8)).length c2,.slice c (fsK (cE (S.kd % 8) S.a S.b S.h).length H).length d,.slice (some ⟨o,0,none⟩) 3 3,.slice none 0 0] U8<|S5 (j:=0) U12<|SY [1,2,4] f Z<|S9 0 mup (hn_ [1,2,4] Z) ⟨c,d,_,g,⟨e.mono mup,p.mono mup⟩,Z,Z⟩
  refine Te U5 fun g=>Tw F Z ⟨?_, ?_,trivial⟩
  ·refine To (iW _ q.m_ _ _ (cE (S.kd % 8) S.a S.b S.h).length k n H Z om_ A) U7 fl_ fun I J _ e=>TH [[af [65],af [48],af []],[af [66],af [48],af [53]],[af [67],af [49],af []]] U12 fl_ (fun o K _ p=>?_);obtain ⟨c,d,rfl,_,_,_⟩:=id e;simp only [al] at e ⊢;exact Td [.slice k (cE (S.kd % 8) S.a S.b S.h).length n,.slice A2 (shT (S.kd % 8)).length c2,.slice c (fsK (cE (S.kd % 8) S.a S.b S.h).length H).length d,.slice (some ⟨o,0,none⟩) 3 3,.slice none 0 0] U8<|S5 (j:=0) U12<|SY [1,2,4] f Z<|S9 0 mup (hn_ [1,2,4] Z) ⟨c,d,_,g,⟨e.mono mup,p.mono mup⟩,Z,Z⟩
  refine TH [[af [65],af [48],af []],[af [66],af [48],af [53]],[af [67],af [49],af []]] U12 fl_ fun o K _ p=>To (iW _ q.m_ _ _ (cE (S.kd % 8) S.a S.b S.h).length k n H Z om_ A) U7 fl_ (fun I J _ e=>?_);obtain ⟨c,d,rfl,_,_,_⟩:=id e;simp only [al] at e ⊢;exact Td [.slice k (cE (S.kd % 8) S.a S.b S.h).length n,.slice A2 (shT (S.kd % 8)).length c2,.slice c (fsK (cE (S.kd % 8) S.a S.b S.h).length H).length d,.slice (some ⟨o,0,none⟩) 3 3,.slice none 0 0] U8<|S5 (j:=0) U12<|SY [1,2,4] f Z<|S9 0 mup (hn_ [1,2,4] Z) ⟨c,d,_,g,⟨e.mono mup,p.mono mup⟩,Z,Z⟩
 obtain ⟨c,d,x,g,⟨an,ab⟩,rfl,rfl⟩:=T;refine SR 1 [1,2,4,5] Z<|G.nilArr 126 10<|G.perm (L':=[.obj g (.cells ⟨[.slice k (cE (S.kd % 8) S.a S.b S.h).length n,.slice A2 (shT (S.kd % 8)).length c2,.slice c (fsK (cE (S.kd % 8) S.a S.b S.h).length H).length d,x,.slice none 0 0]⟩ 45 (0,0)),.arr (.slice none 0 0) 126 10 0 [],.obj v (.cells ⟨[.slice none 0 0,.slice none 0 0,.slice none 0 0,.slice none 0 0,.slice none 0 0]⟩ 45 (0,0))]) (List.Perm.swap _ _ _)<|G.loop (fun fr O E Q=>∃ (i:Nat)(w:Value),(i<=l.length/\i<=6)/\fr=[(1,[],.pointer (some ⟨X,0,none⟩)),(2,[],.pointer (some ⟨v,0,none⟩)),(4,[],.pointer (some ⟨g,0,none⟩)),(5,[],.int .i64 i)]/\E=[.obj g (.cells ⟨[.slice k (cE (S.kd % 8) S.a S.b S.h).length n,.slice A2 (shT (S.kd % 8)).length c2,.slice c (fsK (cE (S.kd % 8) S.a S.b S.h).length H).length d,x,w]⟩ 45 (0,0)),.arr w 126 10 ((uT S l).take i).length (((uT S l).take i).map qS).flatten,.obj v (.cells ⟨[.slice none 0 0,.slice none 0 0,.slice none 0 0,.slice none 0 0,.slice none 0 0]⟩ 45 (0,0))]/\Q=6-i) (hn_ [1,2,4,5] Z) ⟨0,.slice none 0 0,⟨Pm _,Pm _⟩,Z,Z,Z⟩ (fun fr aD aE m _ T=>?_);obtain ⟨i,w,⟨hi,aF⟩,rfl,rfl,rfl⟩:=T;refine SS 2 Z fun R f=>SU (bkT B 1) U8<|SZ 5 Z<|Tl U8<|SY [1,2,4,5,27] f Z<|G.cd (fun t=>?_) fun t=>?_
 ·have z:i<l.length/\i<6:=by
   by_cases h1:((i:Nat):Int)<(l.length:Nat)
   ·rw [PG h1] at t;have h2:=OD t;omega
   rw [PT h1] at t;exact absurd t am
  obtain ⟨s,U⟩:∃ s,l[i]?=some s:=⟨l[i]'z.1,ak z.1⟩;have ao:(uT S l).take (i+1)=(uT S l).take i++[fF S s i]:=by rw [PN,Fj S U z.2];rfl
  have aG:((uT S l).take i).length<=6:=by rw [Pw,lm];omega
  refine Tg [0,1,2,3,4,5,6,7,8,9,10,11,12,13] [] Z kr_ fun R hB f=>SV U6<|S1 ag U9<|SU (bkT B 12) U8<|SV U6<|SU (bkT B 1) U8<|SV U6<|Ta L.m_ U10 om_ (cq U) fl_ fun aH ap=>SU ap U8<|SV U6<|Tv (qM _ q.m_ S s H _ i z.2 W (hs s (Pe U)) hG) U7 (fun aI _ _ aq=>?_);subst aq;refine Th [qS (fF S s i)] U12 fun aJ _ _ ar=>Tq (j:=1) U11 ar.m_ Z aw (by simp only [aY];omega) fl_ fun ac ad ae=>SV U6<|S5 (j:=1) U12<|SY [1,2,4,5] f Z<|SS 1 Z fun R f=>S2 _ Z U6<|C6 1 [1,2,4,5] f Z<|Tc (L':=[.obj g (.cells ⟨[.slice k (cE (S.kd % 8) S.a S.b S.h).length n,.slice A2 (shT (S.kd % 8)).length c2,.slice c (fsK (cE (S.kd % 8) S.a S.b S.h).length H).length d,x,.slice ac ad ae]⟩ 45 (0,0)),.arr (.slice ac ad ae) 126 10 ((uT S l).take (i+1)).length (((uT S l).take (i+1)).map qS).flatten,.obj v (.cells ⟨[.slice none 0 0,.slice none 0 0,.slice none 0 0,.slice none 0 0,.slice none 0 0]⟩ 45 (0,0))]) (by rw [ao,PM,PH,Po];rfl)<|S6 (m':=6-(i+1)) om_ mup (hn_ [1,2,4,5] Z) ⟨i+1,_,⟨by omega,by omega⟩,Z,Z,Z⟩
 have z:i=min l.length 6:=by
  by_cases h1:((i:Nat):Int)<(l.length:Nat)
  ·rw [PG h1] at t;have h2:=Pj t;omega
  omega
 have au:(uT S l).take i=uT S l:=PZ (by rw [z,lm];exact Pf _);rw [au];refine G.freezeArr 1 ((uT S l).map qS) U2 (by intro r hr;obtain ⟨y,_,rfl⟩:=Pn.1 hr;rfl) (by rw [al]) (fun Cg hg ah=>?_);obtain ⟨Aw,cw,rfl,_⟩:=id ah;obtain ⟨Ap,cp,rfl,_⟩:=id ab;refine SX fun R f=>S1 ag U9<|S5 (j:=1) U12<|SY [2] f Z<|S7 (TE ag U4 ?_);exact ⟨Z,_,_,_,_,_,Z,M.mono mup,N.mono mup,(by rw [dT,<- mM];exact an.mono mup),(by rw [dT,JC];exact ab.mono mup),ah⟩
instance:DecidableEq RowQ:=fun a b=>decidable_of_iff (a.f=b.f/\a.b=b.b) (by cases a;cases b;simp)
instance (k:Nat) (q:Rat):Decidable (QB k q):=by unfold QB;infer_instance
instance (k:Nat) (p:Pt):Decidable (QP k p):=by unfold QP;infer_instance
instance (n:Nat) (t:Tri):Decidable (mR n t):=by unfold mR;infer_instance
theorem gJ (h:txt z=s):qtx ((z:Int):Rat)=s:=by rw [mC,h]
theorem Lx (q:Rat)(h:qtx q=s)(a:QB 22 q):da s=q:=by rw [<- h];exact cR (bC a)
theorem KW (a:List Pt)(t:Tri)(p:Pt)(j:Nat):wgt a t p j=wgt a t p (j % 3):=by
 unfold wgt;rw [show (j+1) % 3=(j % 3+1) % 3 by omega,show (j+2) % 3=(j % 3+2) % 3 by omega]
theorem HI (t:Tri)(j:Nat):gD t j=gD t (min j 2):=by
 unfold gD;rcases (by omega:j=0∨j=1∨2<=j) with h | h | h
 ·subst h;rfl
 ·subst h;rfl
 rw [Nat.min_eq_right h,aF om_,aF om_];rfl
theorem q6:qtx 6=[54]:=by decide +kernel
def Iq (m:Nat)(u v:Int)(h:Bool):List Pt:=(shP m).map fun p=>(kM (p.1+u*1) (dO h*1),kM (p.2+v*1) (dO h*1))
theorem NR (m:Nat)(a b:Int)(h:Bool):cE m a b h=Iq m (a.tmod 8) (b.tmod 8) h:=rfl
def pK (pts:List Pt)(tris:List Tri):Bool :=
 pts.all (fun p=>decide (QP 1 p)) && (decide pts.Nodup && (tris.all (fun t=>decide (mR pts.length t)) && (tris.all (fun t=>decide (0<dH (pts.getD t.1 (0,0)) (pts.getD t.2.1 (0,0)) (pts.getD t.2.2 (0,0)))) && (decide (bO tris).Nodup && (mV pts tris && pts.all fun p=>decide (kF pts tris p≠[]))))))
theorem all0:∀ i<15,∀ j<15,∀ h:Bool,pK (Iq 0 ((i:Nat)-7) ((j:Nat)-7) h) (shT 0)=true:=by decide +kernel
theorem sh1 {n:Str}(a:cW n=true)(b:cW u=true)(c:aW x=true)(d:aW y=true):dR ⟨1,n,x,y,[],u,[],[],[],[]⟩=0:=by
 unfold dR;rw [aF am,aF (by simp [kD,a,b]),aF (by simp [lu,c,d]),aF (by simp [kK])]
theorem sh2 {n d l:Str}(a:cW n=true)(b:cW u=true)(c:cW l=true)(e:aW x=true)(f:aW y=true)(g:aW d=true):dR ⟨2,n,x,y,d,u,l,[],[],[]⟩=0:=by
 unfold dR;rw [aF am,aF (by simp [kD,a,b,c]),aF (by simp [lu,e,f,g]),aF (by simp [kK])]
theorem sh3 {n l a b c:Str}(d:cW n=true)(e:cW u=true)(f:cW l=true)(g:aW x=true)(h:aW y=true)(i:aW a=true)(j:aW b=true)(k:aW c=true):dR ⟨3,n,x,y,[],u,l,a,b,c⟩=0:=by
 unfold dR;rw [aF am,aF (by simp [kD,d,e,f]),aF (by simp [lu,g,h,i,j,k]),aF (by simp [kK])]
theorem pH (j:Nat)(a:j<3):jT (isU (qO j)) colK 0=(j:Int):=by
 rcases (by omega:j=0∨j=1∨j=2) with rfl | rfl | rfl <;> decide +kernel
theorem tU (j:Nat)(a:j<3):cW (qO j)=true:=by
 rcases (by omega:j=0∨j=1∨j=2) with rfl | rfl | rfl <;> decide +kernel
theorem LY (i:Nat)(a:i<6):cW [111,UInt8.ofNat (49+i)]=true:=by
 rcases (by omega:i=0∨i=1∨i=2∨i=3∨i=4∨i=5) with rfl | rfl | rfl | rfl | rfl | rfl <;> decide +kernel
theorem NZ {j:Nat}(c:i<6)(d:j<6)(h:([111,UInt8.ofNat (49+i)]:Str)=[111,UInt8.ofNat (49+j)]):i=j:=by
 have e:∀ a<6,∀ b<6,([111,UInt8.ofNat (49+a)]:Str)=[111,UInt8.ofNat (49+b)]->a=b:=by decide
 exact e i c j d h
theorem IV (s:Sgt):min (loU s) (upU s)<max (loU s) (upU s):=by
 unfold loU upU;split <;> omega
theorem dX (z:Int)(h:z.natAbs<100):QB 1 ((z:Int):Rat):=by
 refine ⟨?_, ?_⟩
 ·show z.natAbs<B9 ^ 1;have:B9 ^ 1=1000000000:=by decide
  omega
 show 1<B9 ^ 1;decide
theorem tT (z:Int):fa z≠0:=by
 unfold fa;split
 ·decide
 assumption
theorem nQ (z:Int):-5<fa z/\fa z<5:=by
 have:=ns z;unfold fa;split <;> omega
theorem ok1 (h:QB 1 q):aW (qtx q)=true:=bC (h.le dc_)
theorem sf (n:Nat):QB 1 (kM ((n % 12:Nat):Int) 2):=pW dc_ om_ dc_
theorem MD (n:Nat):¬ (kM ((n % 12:Nat):Int) 2<0):=by
 have a:∀ k<12,¬ (kM ((k:Nat):Int) 2<0):=by decide +kernel
 exact a _ (PY _ dc_)
theorem IJ (S:Sht)(s:Sgt)(i:Nat)(m:i<6)(j:QP 1 (lj S s))(n:kF (cE (S.kd % 8) S.a S.b S.h) (shT (S.kd % 8)) (lj S s)≠[]) :
  gQ (cE (S.kd % 8) S.a S.b S.h) (shT (S.kd % 8)) colK (fF S s i)=0:=by
 have f:=LY i m;have c:=ok1 j.1;have hy:=ok1 j.2;have q:=IV s;have r:=Me s;have t:=KZ s;have g:∀ o:Obs,o.x=qtx (lj S s).1->o.y=qtx (lj S s).2->Jz (cE (S.kd % 8) S.a S.b S.h) (shT (S.kd % 8)) o=true:=by
  intro o h1 h2;unfold Jz ptO;rw [h1,h2,cR c,cR hy];exact PG n
 have p:=pH (s.u1 % 3) om_;have d:=pH (max (loU s) (upU s)) om_;have e:=pH (min (loU s) (upU s)) om_;have n1:=tU (s.u1 % 3) om_;have n2:=tU (max (loU s) (upU s)) om_;have k:=tU (min (loU s) (upU s)) om_;unfold fF gQ;split
 ·rw [aF (by rw [sh1 f n1 c hy];decide),aF (by rw [g _ rfl rfl];decide),aF (by simp [J3,p] <;> omega),aF (by simp [ordB]),aF (by simp [depB]),aF (by simp [Hz])]
 split
 ·have l:=ok1 (sf s.depth);rw [aF (by rw [sh2 f n2 k c hy l];decide),aF (by rw [g _ rfl rfl];decide),aF (by simp only [J3,d,e];simp <;> omega),aF (by simp only [ordB,d,e];simp <;> omega),aF (by simp only [depB];rw [cR l,PT (MD s.depth)];decide),aF (by simp [Hz])]
 have h0:=ns s.n0;have h1:=ns s.n1;have h2:=nQ s.n2;rw [aF (by rw [sh3 f n2 k c hy (ok1 (dX _ om_)) (ok1 (dX _ om_)) (ok1 (dX _ om_))];decide),aF (by rw [g _ rfl rfl];decide),aF (by simp only [J3,d,e];simp <;> omega),aF (by simp only [ordB,d,e];simp <;> omega),aF (by simp [depB]),aF ?_];intro h;simp only [Hz,Pu,Pp] at h;have h3:=h.2;rw [<- qtx_zero] at h3;have h4:=li h3;have h5:=tT s.n2;exact h5 (by exact_mod_cast h4)
theorem all1:∀ i<15,∀ j<15,∀ h:Bool,pK (Iq 1 ((i:Nat)-7) ((j:Nat)-7) h) (shT 1)=true:=by decide +kernel
theorem all2:∀ i<15,∀ j<15,∀ h:Bool,pK (Iq 2 ((i:Nat)-7) ((j:Nat)-7) h) (shT 2)=true:=by decide +kernel
theorem all3:∀ i<15,∀ j<15,∀ h:Bool,pK (Iq 3 ((i:Nat)-7) ((j:Nat)-7) h) (shT 3)=true:=by decide +kernel
theorem all4:∀ i<15,∀ j<15,∀ h:Bool,pK (Iq 4 ((i:Nat)-7) ((j:Nat)-7) h) (shT 4)=true:=by decide +kernel
theorem all5:∀ i<15,∀ j<15,∀ h:Bool,pK (Iq 5 ((i:Nat)-7) ((j:Nat)-7) h) (shT 5)=true:=by decide +kernel
theorem all6:∀ i<15,∀ j<15,∀ h:Bool,pK (Iq 6 ((i:Nat)-7) ((j:Nat)-7) h) (shT 6)=true:=by decide +kernel
theorem all7:∀ i<15,∀ j<15,∀ h:Bool,pK (Iq 7 ((i:Nat)-7) ((j:Nat)-7) h) (shT 7)=true:=by decide +kernel
theorem vn (a:Int):∃ i:Nat,i<15/\a.tmod 8=(i:Int)-7:=by
 have h:=xJ a;exact ⟨(a.tmod 8+7).toNat,by omega,by omega⟩
theorem xZ (m:Nat)(g:m<8)(a b:Int)(h:Bool):pK (cE m a b h) (shT m)=true:=by
 obtain ⟨i,c,e⟩:=vn a;obtain ⟨j,d,f⟩:=vn b;rw [NR,e,f];rcases (by omega:m=0∨m=1∨m=2∨m=3∨m=4∨m=5∨m=6∨m=7) with rfl | rfl | rfl | rfl | rfl | rfl | rfl | rfl
 ·exact all0 i c j d h
 ·exact all1 i c j d h
 ·exact all2 i c j d h
 ·exact all3 i c j d h
 ·exact all4 i c j d h
 ·exact all5 i c j d h
 ·exact all6 i c j d h
 exact all7 i c j d h
theorem La:∀ m:Nat,m<8->shT m≠[]/\(shT m).length<=800:=by decide
theorem Gb {a:List Pt}{b:List Tri}(h:pK a b=true)(c:b≠[])(d:b.length<=800)(e:a.length<=400):Good a b/\∀ p∈a,kF a b p≠[]:=by
 unfold pK at h;simp only [Pu,PD,Pp] at h;obtain ⟨f,g,i,j,k,l,m⟩:=h;exact ⟨⟨⟨f,g,i,j,k,d,e⟩,c,l⟩,m⟩
theorem gj (m:Nat)(c:m<8)(a b:Int)(h:Bool):Good (cE m a b h) (shT m)/\∀ p∈cE m a b h,kF (cE m a b h) (shT m) p≠[]:=by
 have d:=gM m a b h;obtain ⟨h0,h1⟩:=La m c;exact Gb (xZ m c a b h) h0 h1 om_
theorem tB (S:Sht)(s:Sgt)(c:SgtR s):QP 1 (lj S s)/\kF (cE (S.kd % 8) S.a S.b S.h) (shT (S.kd % 8)) (lj S s)≠[]:=by
 obtain ⟨d,e⟩:=gj (S.kd % 8) (PY _ dc_) S.a S.b S.h;have f:0<(cE (S.kd % 8) S.a S.b S.h).length:=by rw [cE,al];exact ya _
 unfold lj;split
 ·rename_i h;exact ⟨AP dc_ dc_ c.px c.py,h⟩
 have g:s.depth % (cE (S.kd % 8) S.a S.b S.h).length<(cE (S.kd % 8) S.a S.b S.h).length:=PY _ f;rw [ax,ak g,Qx];exact ⟨d.ok.q _ (Qa _),e _ (Qa _)⟩
theorem gX (h:QB 1 q):(qtx q).length<=999998:=vV (fs:=[q]) (k:=1) dc_ (by intro y hy;rw [PE] at hy;rw [hy];exact h) _ (PE.2 rfl)
theorem OZ (S:Sht)(s:Sgt)(i:Nat)(c:SgtR s):ObsR (fF S s i):=by
 have b:=(tB S s c).1;have a:=gX b.1;have hy:=gX b.2;have d:=gX (sf s.depth);have h0:=ns s.n0;have h1:=ns s.n1;have h2:=nQ s.n2;have e:=gX (dX (s.n0.tmod 5) om_);have l1:=gX (dX (s.n1.tmod 5) om_);have l2:=gX (dX (fa s.n2) om_);unfold fF;split
 ·exact ⟨by simp,a,hy,by simp,by simp [qO],by simp,by simp,by simp,by simp⟩
 split
 ·exact ⟨by simp,a,hy,d,by simp [qO],by simp [qO],by simp,by simp,by simp⟩
 exact ⟨by simp,a,hy,by simp,by simp [qO],by simp [qO],e,l1,l2⟩
theorem wj (S:Sht)(s:Sgt)(i:Nat):(fF S s i).name=[111,UInt8.ofNat (49+i)]:=by
 unfold fF;split
 ·rfl
 split <;> rfl
theorem lW {S:Sht}{H:Hts}{l:List Sgt}{o:Obs}(h:(dT S H l).obs[i]?=some o):i<6/\∃ s,l[i]?=some s/\o=fF S s i:=by
 have h1:=(aJ.1 h).1;have h2:i<(uT S l).length:=h1;rw [lm] at h2;have h3:=Fj S (ak (show i<l.length by omega)) (show i<6 by omega);have h4:(uT S l)[i]?=some o:=h;rw [h3] at h4;exact ⟨by omega,_,ak om_,(QS h4).symm⟩
theorem Du (S:Sht)(H:Hts)(l:List Sgt)(e:∀ s∈l,SgtR s):ip (dT S H l)=0:=by
 have f:∀ n,n<=(dT S H l).obs.length->uU (dT S H l) n=0:=by
  intro n;induction n with
  | zero=>intro _;rfl
  | succ n g =>
   intro i;have h0:=g om_;have a:(dT S H l).obs[n]?=some (dT S H l).obs[n]:=ak i;rw [tI h0 a];obtain ⟨b,s,j,m⟩:=lW a;rw [m];have c:=tB S s (e s (Pe j));unfold obZ;rw [aF (by
    have:=IJ S s n b c.1 c.2;intro h;exact h this),aF]
   intro hm;obtain ⟨o,p,d⟩:=Pn.1 hm;obtain ⟨k,x,r⟩:=List.mem_take_iff_getElem.1 p;have t:(dT S H l).obs[k]?=some o:=by rw [<- r];exact ak _
   obtain ⟨u,y,_,v⟩:=lW t;rw [v,wj,wj] at d;have:=NZ u b d;omega
 unfold ip;have z:(dT S H l).obs.length<=6:=by
  show (uT S l).length<=6;rw [lm];omega
 have h1:yD (dT S H l).pts.length (dT S H l).terr=0:=by
  unfold yD;rw [aL (by show ((fsK _ H).map qtx).length=_;rw [al,ud];rfl)];show nV (((fsK _ H).map qtx).all aW)=0;rw [xt (fun q w=>ok1 (Gj _ H q w))];rfl
 have h2:qX (dT S H l).col=0:=by
  show qX colK=0;decide +kernel
 rw [aF (by rw [h1];decide),aF (by rw [h2];decide),aF om_];exact f _ (Pf _)
theorem O7:∀ x∈colK,M7 x:=by
 intro x a;simp only [colK,Ps,Qh,Rz] at a;rcases a with rfl | rfl | rfl
 ·exact ⟨by decide +kernel,fun q h=>by simp at h,by decide⟩
 ·exact ⟨by decide +kernel,fun q h=>by simp at h;subst h;decide +kernel,by decide⟩
 exact ⟨by decide +kernel,fun q h=>by simp at h,by decide⟩
theorem MO (S:Sht)(H:Hts)(l:List Sgt)(a:∀ s∈l,SgtR s):BookR (dT S H l):=by
 refine ⟨?_,O7,(by show colK.length<=1000000;decide), ?_⟩
 ·intro s h;obtain ⟨q,b,rfl⟩:=Pn.1 h;exact gX (Gj _ H q b)
 intro o c;obtain ⟨i,d⟩:=List.mem_iff_getElem?.1 c;obtain ⟨_,s,e,rfl⟩:=lW d;exact OZ S s i (a s (Pe e))
theorem BM (S:Sht)(H:Hts)(l:List Sgt):bs (dT S H l)=2:=rfl
theorem JJ (S:Sht)(H:Hts)(l:List Sgt):0<bp (dT S H l)/\bp (dT S H l)<=6:=by
 refine ⟨?_,gM _ _ _ _⟩;show 0<(cE (S.kd % 8) S.a S.b S.h).length;rw [cE,al];exact ya _
def Hj (C:Mem)(pv:Value)(S:Sht)(H:Hts)(l:List Sgt):Prop:=∃ A c,pv=.agg ⟨LL S H (.slice A l.length c)⟩/\Sl C 9 (.slice A l.length c) (l.map M3)
structure PlanR (S:Sht)(H:Hts)(l:List Sgt):Prop where
 kd:S.kd<256
 h:OC H
 s:∀ s∈l,SgtR s
def J1 (s p:Nat)(a b:Int):Prop:=a<0∨(s:Int)<=a∨b<0∨(p:Int)<=b
instance (s p:Nat) (a b:Int):Decidable (J1 s p a b):=by unfold J1;infer_instance
def Kl (n:Nat)(x:Int):Prop:=x<0∨(n:Int)<=x
instance (n:Nat) (x:Int):Decidable (Kl n x):=by unfold Kl;infer_instance
open Go Go.Jog Go.ChangeShapes Go.WideShapes Go.ChangeAt Go.RowKit
set_option maxRecDepth 100000
theorem own:ownKnob Tryz.prog.godebug=none:=by kernel_rfl
section
variable {H:Type} {enc:TypeId × Value->H} {W:World} {spare:Nat->Bool} {held:Bool}
theorem OP {n:Nat}{c:Value}{y:DataW H × List MemPlace}(h:DataW.trod enc Tryz.prog W 0 spare held n 5 [c]=some y):∃ b:UInt8,c=.int .u8 b.toNat:=by
 obtain ⟨m,h1,_,h3⟩:=DataW.trod_int Tryz.underlying5 h;simp only [RF,SG] at h1;subst h1;have a:0<=m/\m<256:=by
  simp [Lit.wf,IntKind.min,IntKind.max,IntKind.signed,IntKind.bits] at h3;omega
 refine ⟨UInt8.ofNat m.toNat, ?_⟩;congr 1;simp only [UInt8.toNat_ofNat'];omega
theorem vk {n:Nat}{c:Value}{y:DataW H × List MemPlace}(h:DataW.trod enc Tryz.prog W 0 spare held n 5 [c]=some y):∃ m:Nat,c=.int .u8 m/\m<256:=by
 obtain ⟨b,rfl⟩:=OP h;exact ⟨b.toNat,Z,b.toNat_lt⟩
theorem mI {n:Nat}{c:Value}{y:DataW H × List MemPlace}(h:DataW.trod enc Tryz.prog W 0 spare held n 22 [c]=some y):∃ m:Int,c=.int .i8 m/\-128<=m/\m<=127:=by
 obtain ⟨m,h1,_,h3⟩:=DataW.trod_int Tryz.underlying22 h;simp only [RF,SG] at h1;refine ⟨m,h1, ?_⟩;simp [Lit.wf,IntKind.min,IntKind.max,IntKind.signed,IntKind.bits] at h3;omega
theorem Ha {n:Nat}{c:Value}{y:DataW H × List MemPlace}(h:DataW.trod enc Tryz.prog W 0 spare held n 4 [c]=some y):∃ b:Bool,c=.bool b:=by
 obtain ⟨b,h1,_⟩:=DataW.trod_bool Tryz.underlying4 h;simp only [RF,SG] at h1;exact ⟨b,h1⟩
theorem xr {t e:TypeId}{k n:Nat}{a:List Value}{y:DataW H × List MemPlace}(b:Tryz.prog.underlying t=some (.array k e))(c:Tryz.prog.cellsOf e=1)(h:DataW.trod enc Tryz.prog W 0 spare held n t a=some y) :
  ∃ m,∀ i,i<k->∃ z,DataW.trod enc Tryz.prog W 0 spare held m e ((a.drop i).take 1)=some z:=by
 obtain ⟨xs,m,_,_,_,g,d⟩:=DataW.trod_array b h;refine ⟨m,fun i f=>?_⟩;have h1:=d i f;rw [c,Ql] at h1;rw [h1,ak om_];exact ⟨_,Z⟩
theorem uD:Tryz.prog.cellsOf 5=1:=by kernel_rfl
theorem nW:Tryz.prog.cellsOf 22=1:=by kernel_rfl
theorem sr:Tryz.prog.cellsOf 4=1:=by kernel_rfl
theorem xj:Tryz.prog.cellsOf 23=2:=by kernel_rfl
theorem G1:Tryz.prog.cellsOf 135=2:=by kernel_rfl
theorem JF:Tryz.prog.cellsOf 136=3:=by kernel_rfl
theorem JE:Tryz.prog.cellsOf 26=6:=by kernel_rfl
theorem H3 {n:Nat}{c d e f:Value}{y:DataW H × List MemPlace}(h:DataW.trod enc Tryz.prog W 0 spare held n 25 [c,d,e,f]=some y):∃ S:Sht,[c,d,e,f]=([.int .u8 S.kd,.int .i8 S.a,.int .i8 S.b,.bool S.h]:List Value)/\S.kd<256:=by
 obtain ⟨y0,y1,y2,l,_,o,h0,h1,h2⟩:=Go.Deep.trod_struct3 Tryz.underlying25 h;simp only [uD,xj,sr] at h0 h1 h2;obtain ⟨kd,rfl,i⟩:=vk h0;obtain ⟨m,g⟩:=xr Tryz.underlying23 nW h1;obtain ⟨p,j⟩:=g 0 dc_;obtain ⟨q,k⟩:=g 1 dc_;obtain ⟨a,rfl,_⟩:=mI j;obtain ⟨b,rfl,_⟩:=mI k;obtain ⟨hh,rfl⟩:=Ha h2;exact ⟨⟨kd,a,b,hh⟩,Z,i⟩
theorem CV {n:Nat}{b c d e f g i:Value}{y:DataW H × List MemPlace}(h:DataW.trod enc Tryz.prog W 0 spare held n 28 [b,c,d,e,f,g,i]=some y):∃ G:Hts,[b,c,d,e,f,g,i]=N5 G/\OC G:=by
 obtain ⟨y0,y1,u,_,v,h0,h1⟩:=Go.ChangeShapes.trod_struct2 Tryz.underlying28 h;simp only [JE,sr] at h0 h1;obtain ⟨m,a⟩:=xr Tryz.underlying26 nW h0;obtain ⟨w,k⟩:=a 0 dc_;obtain ⟨x,l⟩:=a 1 dc_;obtain ⟨A,o⟩:=a 2 dc_;obtain ⟨B,p⟩:=a 3 dc_;obtain ⟨C,q⟩:=a 4 dc_;obtain ⟨D,r⟩:=a 5 dc_;obtain ⟨x0,rfl,g0⟩:=mI k;obtain ⟨x1,rfl,E⟩:=mI l;obtain ⟨x2,rfl,F⟩:=mI o;obtain ⟨x3,rfl,I⟩:=mI p;obtain ⟨s,rfl,J⟩:=mI q;obtain ⟨t,rfl,K⟩:=mI r;obtain ⟨hh,rfl⟩:=Ha h1;refine ⟨⟨x0,x1,x2,x3,s,t,hh⟩,Z, ?_⟩;intro z j;simp only [Hw,Ps,Qh,Rz] at j;rcases j with rfl | rfl | rfl | rfl | rfl | rfl <;> assumption
theorem vl {P:Program}{t:TypeId}{b c d e f:Field}{j:Nat}{a:List Value}{x:DataW H × List MemPlace}(k:P.underlying t=some (.struct #[b,c,d,e,f]))(h:DataW.trod enc P W 0 spare held j t a=some x) :
  ∃ y0 y1 y2 y3 i n,DataW.trod enc P W 0 spare held n b.type ((a.drop b.offset).take (P.cellsOf b.type))=some y0/\DataW.trod enc P W 0 spare held n c.type ((a.drop c.offset).take (P.cellsOf c.type))=some y1/\DataW.trod enc P W 0 spare held n d.type ((a.drop d.offset).take (P.cellsOf d.type))=some y2 /\
   DataW.trod enc P W 0 spare held n e.type ((a.drop e.offset).take (P.cellsOf e.type))=some y3/\DataW.trod enc P W 0 spare held n f.type ((a.drop f.offset).take (P.cellsOf f.type))=some i:=by
 obtain ⟨xs,n,_,rfl,m,l,g⟩:=DataW.trod_struct k h
 match xs,l with
 | [y0,y1,y2,y3,i],_=>exact ⟨y0,y1,y2,y3,i,n,by simpa using g 0 b rfl,by simpa using g 1 c rfl,by simpa using g 2 d rfl,by simpa using g 3 e rfl,by simpa using g 4 f rfl⟩
theorem HZ {n:Nat}{a:List Value}{y:DataW H × List MemPlace}(b:a.length=9)(h:DataW.trod enc Tryz.prog W 0 spare held n 138 a=some y):∃ s:{s:Sgt // SgtR s},a=M3 s.1:=by
 obtain ⟨y0,y1,y2,y3,w,x,h0,h1,h2,h3,h4⟩:=vl Tryz.underlying138 h
 match a,b with
 | [c0,z,c2,A,B,C,D,E,F],_ =>
   simp only [uD,xj,G1,JF] at h0 h1 h2 h3 h4;obtain ⟨kd,rfl,c⟩:=vk h0;obtain ⟨G,a1⟩:=xr Tryz.underlying23 nW h1;obtain ⟨w0,e⟩:=a1 0 dc_;obtain ⟨w1,f⟩:=a1 1 dc_;obtain ⟨px,rfl,g⟩:=mI e;obtain ⟨py,rfl,i⟩:=mI f;obtain ⟨I,a2⟩:=xr Tryz.underlying135 uD h2;obtain ⟨J,j⟩:=a2 0 dc_;obtain ⟨K,k⟩:=a2 1 dc_;obtain ⟨u0,rfl,l⟩:=vk j;obtain ⟨u1,rfl,m⟩:=vk k;obtain ⟨d,rfl,o⟩:=vk h3;obtain ⟨L,a4⟩:=xr Tryz.underlying136 nW h4;obtain ⟨M,p⟩:=a4 0 dc_;obtain ⟨N,q⟩:=a4 1 dc_;obtain ⟨O,r⟩:=a4 2 dc_;obtain ⟨n0,rfl,t⟩:=mI p;obtain ⟨n1,rfl,u⟩:=mI q;obtain ⟨n2,rfl,v⟩:=mI r;exact ⟨⟨⟨kd,px,py,u0,u1,d,n0,n1,n2⟩,⟨c,g,i,l,m,o,t,u,v⟩⟩,Z⟩
theorem En {b:Nat}{v:Value}{x:DataW H × List MemPlace}(h:DataW.trod enc Tryz.prog W 0 spare held b 29 [v]=some x):∃ l:List Sgt,Sl (qN W) 9 v (l.map M3)/\∀ s∈l,SgtR s:=by
 obtain ⟨l,a⟩:=Em (fun s:{s:Sgt // SgtR s}=>M3 s.1) Tryz.underlying29 kr_ dc_ (fun n cs y a hy=>HZ a hy) h;refine ⟨l.map (·.1),by rw [Qe];exact a,fun s hs=>?_⟩;obtain ⟨z,_,rfl⟩:=Pn.1 hs;exact z.2
theorem LK {n:Nat}{a:List Value}{y:DataW H × List MemPlace}(h:DataW.trod enc Tryz.prog W 0 spare held n 31 a=some y):∃ S G l,Hj (qN W) (.agg ⟨a⟩) S G l/\PlanR S G l:=by
 obtain ⟨y0,y1,y2,o,_,d,h0,h1,h2⟩:=Go.Deep.trod_struct3 Tryz.underlying31 h;have g:Tryz.prog.cellsOf 31=12:=by kernel_rfl
 have h4:Tryz.prog.cellsOf 25=4:=by kernel_rfl
 have i:Tryz.prog.cellsOf 28=7:=by kernel_rfl
 have hs:Tryz.prog.cellsOf 29=1:=by kernel_rfl
 rw [g] at d
 match a,d with
 | [c0,p,c2,q,r,s,t,u,v,w,x,z],_ =>
  simp only [h4,i,hs] at h0 h1 h2;obtain ⟨S,e,j⟩:=H3 h0;obtain ⟨G,f,k⟩:=CV h1;obtain ⟨l,b,m⟩:=En h2;obtain ⟨A,c,rfl,_⟩:=id b;simp only [RF,SG] at e;obtain ⟨rfl,rfl,rfl,rfl⟩:=e;simp only [N5,RF,SG] at f;obtain ⟨rfl,rfl,rfl,rfl,rfl,rfl,rfl⟩:=f;simp only [al] at b ⊢;exact ⟨S,G,l,⟨A,c,Z,b⟩,j,k,m⟩
end
def lI (cs:Array Value):Obj->Obj
 | .cells _ t frozen=>.cells cs t frozen
 | o=>o
def GK:Array Value:=(Lib.deBruijn32tab.map fun z:Nat=>Value.int .u8 (z:Int)).toArray
def GJ:Array Value:=(Lib.deBruijn64tab.map fun z:Nat=>Value.int .u8 (z:Int)).toArray
def CG:Array Value:=(Lib.pow10Tab.map fun z=>Value.int .u64 z).toArray
def EL:ByteArray:=⟨#[118,97,108,117,101,32,111,117,116,32,111,102,32,114,97,110,103,101]⟩
def Cc:ByteArray:=⟨#[105,110,118,97,108,105,100,32,115,121,110,116,97,120]⟩
noncomputable def low:Nat:=(World.holding Tryz.prog default ⟨#[],#[],[]⟩).heap.size
noncomputable def pG (os:Os):World :=
 let w0:=World.holding Tryz.prog os ⟨#[.cells #[.string EL] 416,.cells #[.string Cc] 416],#[],[]⟩
 { w0 with heap:=((((w0.heap.modify 4 (lI GK)).modify 5 (lI GJ)).modify 3 (lI CG)).modify 2 (lI #[.iface 414 (.pointer (some ⟨low,0,none⟩))])).modify 1 (lI #[.iface 414 (.pointer (some ⟨low+1,0,none⟩))]) }
theorem K4 {W : World} (h : laidMet Tryz.prog [("math/bits.deBruijn32tab", Rows.laid_math_bits_deBruijn32tab), ("math/bits.deBruijn64tab", Rows.laid_math_bits_deBruijn64tab), ("internal/strconv.uint64pow10", Rows.laid_internal_strconv_uint64pow10), ("strconv.ErrRange", Rows.laid_strconv_ErrRange), ("strconv.ErrSyntax", Rows.laid_strconv_ErrSyntax)] W) : Tabs (qN W) := by
 have h1:=h.tail;have h2:=h1.tail;have b:(Rows.laid_math_bits_deBruijn64tab:DataW Unit)=Lib.tabData .u8 (Lib.deBruijn64tab.map fun z:Nat=>(z:Int)):=by rfl
 rw [b] at h1;have a:=Lib.tabIs_of_head (g:=5) (t:=418) (e:=5) (n:=64) kr_ kr_ Tryz.underlying418 Tryz.underlying5 kr_ kr_ h1;have c:(Rows.laid_internal_strconv_uint64pow10:DataW Unit)=Lib.tabData .u64 Lib.pow10Tab:=by rfl
 rw [c] at h2;have d:=Lib.tabIs_of_head (g:=3) (t:=412) (e:=285) (n:=20) kr_ kr_ Tryz.underlying412 Tryz.underlying285 kr_ kr_ h2;refine ⟨VarC.ofWorld d, ?_⟩;unfold Lib.TabIs at a;rw [Qe] at a;exact VarC.ofWorld a
theorem I2:laidOutB Tryz.prog=true:=by kernel_rfl
end Go.Proofs.YtfjcldheldflbaaGreatDoor
namespace Go.Proofs.YtfjcldheldflbaaGreatDoor
open Go.Proofs.Tryz
open Go Go.Jog
set_option maxRecDepth 100000
variable {a b:Int}{fs:List Rat}{h:Bool}{i k:Nat}{k0 k1 k2:Int}{m n:Nat}{p:Pt}{pts:List Pt}{q:Rat}{t:Tri}{w x0 x1 x2 x3 y0 y1 y2 y3 z:Int}{α:Type}{l:List α}
/-! Small parts: numbers of quarters and of halves. -/
theorem AC (a:w≠0)(h:q*w=z):q=kM z w:=by
 have c:(w:Rat)≠0:=by simpa using a
 unfold kM;rw [Rat.mkRat_eq_div];have b:q=z / w:=by grind
 rw [b];split
 ·rename_i d;have:((w.natAbs:Nat):Int)=-w:=by omega
  rw [show ((w.natAbs:Nat):Rat)=(((w.natAbs:Nat):Int):Rat) from rfl,this];simp only [Rat.intCast_neg];grind
 have:((w.natAbs:Nat):Int)=w:=by omega
 rw [show ((w.natAbs:Nat):Rat)=(((w.natAbs:Nat):Int):Rat) from rfl,this]
theorem nS (a:w≠0):kM z w*w=z:=by
 have b:(w:Rat)≠0:=by simpa using a
 have h:=AC (q:=(z:Rat) / w) (z:=z) a (by grind);rw [<- h];grind
theorem oV (a:w≠0)(h:q*w=z)(b:z.natAbs<1000000000)(c:w.natAbs<1000000000):QB 1 q:=by
 rw [AC a h];exact pW a b c
def iA (x0 y0 x1 y1 x2 y2:Int):Int:=(x1-x0)*(y2-y0)-(y1-y0)*(x2-x0)
def At4 (p:Pt)(x y:Int):Prop:=p.1*4=x/\p.2*4=y
def Qtr (p:Pt):Prop:=∃ x y:Int,At4 p x y/\(-600<=x/\x<=600)/\(-600<=y/\y<=600)
def Hlf (z:Rat):Prop:=∃ k:Int,z*2=k/\(-38<=k/\k<=38)
theorem lX {a b c:Pt}(d:At4 a x0 y0)(e:At4 b x1 y1)(f:At4 c x2 y2):dH a b c*16=(iA x0 y0 x1 y1 x2 y2:Int):=by
 unfold iA dH;simp only [RH,Qg];rw [<- d.1,<- d.2,<- e.1,<- e.2,<- f.1,<- f.2];grind
theorem iS {M K:Nat}(c:a.natAbs<=M)(d:b.natAbs<=K):(a*b).natAbs<=M*K:=by
 rw [QL];exact Qz c d
theorem yx (h:(-600<=x0/\x0<=600)/\(-600<=y0/\y0<=600)/\(-600<=x1/\x1<=600)/\(-600<=y1/\y1<=600)/\(-600<=x2/\x2<=600)/\(-600<=y2/\y2<=600)):(iA x0 y0 x1 y1 x2 y2).natAbs<=2880000:=by
 have h1:=iS (a:=x1-x0) (b:=y2-y0) (M:=1200) (K:=1200) om_ om_;have h2:=iS (a:=y1-y0) (b:=x2-x0) (M:=1200) (K:=1200) om_ om_;unfold iA;omega
theorem vU {n d:Rat}{N W:Int}(b:n*16=N)(c:d*16=W)(a:d≠0):W≠0/\n / d*W=N:=by
 constructor
 ·intro h;subst h;exact a (by grind)
 grind
theorem Nm (a:∀ j,Qtr (cor pts t j))(b:dH (cor pts t 0) (cor pts t 1) (cor pts t 2)≠0)(c:Qtr p)(j:Nat):QB 1 (wgt pts t p j):=by
 obtain ⟨x0,y0,h0,d,e⟩:=a 0;obtain ⟨x1,y1,h1,f,g⟩:=a 1;obtain ⟨x2,y2,h2,h,i⟩:=a 2;obtain ⟨x3,y3,h3,k,l⟩:=a ((j+1) % 3);obtain ⟨m,n,h4,o,q⟩:=a ((j+2) % 3);obtain ⟨r,s,h5,u,v⟩:=c;obtain ⟨w,x⟩:=vU (lX h5 h3 h4) (lX h0 h1 h2) b;have k1:=yx (x0:=r) (y0:=s) (x1:=x3) (y1:=y3) (x2:=m) (y2:=n) ⟨u,v,k,l,o,q⟩;have k2:=yx (x0:=x0) (y0:=y0) (x1:=x1) (y1:=y1) (x2:=x2) (y2:=y2) ⟨d,e,f,g,h,i⟩;exact oV w x om_ om_
theorem iH {a b c:Pt}{e f g:Rat}(i:At4 a x0 y0)(j:At4 b x1 y1)(k:At4 c x2 y2)(n:e*2=k0)(o:f*2=k1)(p:g*2=k2)(l:dH a b c≠0) :
  iA x0 y0 x1 y1 x2 y2≠0/\(oG a b c e f g).1*(iA x0 y0 x1 y1 x2 y2:Int)=((2*((k1-k0)*(y2-y0)-(y1-y0)*(k2-k0)):Int):Rat)/\(oG a b c e f g).2*(iA x0 y0 x1 y1 x2 y2:Int)=((2*((x1-x0)*(k2-k0)-(k1-k0)*(x2-x0)):Int):Rat):=by
 have m:=lX i j k;have q:eB (b.1-a.1) (b.2-a.2) (c.1-a.1) (c.2-a.2)=dH a b c:=by unfold eB dH;grind
 refine ⟨fun h=>l (by rw [h] at m;grind), ?_, ?_⟩
 ·unfold oG;simp only;rw [q,<- m];unfold eB;simp only [RH,Qg];rw [<- i.2,<- j.2,<- k.2,<- n,<- o,<- p];generalize dH a b c=d at l;grind
 unfold oG;simp only;rw [q,<- m];unfold eB;simp only [RH,Qg];rw [<- i.1,<- j.1,<- k.1,<- n,<- o,<- p];generalize dH a b c=d at l;grind
theorem jM {c d:Int}(h:a.natAbs<=76/\b.natAbs<=1200/\c.natAbs<=1200/\d.natAbs<=76):(a*b-c*d).natAbs<=182400:=by
 have h1:=iS h.1 h.2.1;have h2:=iS h.2.2.1 h.2.2.2;omega
theorem HW (e:∀ j,Qtr (cor pts t j))(h:dH (cor pts t 0) (cor pts t 1) (cor pts t 2)≠0)(f:∀ j,Hlf (fz fs t j)):QP 1 (dM pts fs t):=by
 obtain ⟨x0,y0,h0,i,k⟩:=e 0;obtain ⟨x1,y1,h1,l,m⟩:=e 1;obtain ⟨x2,y2,h2,n,o⟩:=e 2;obtain ⟨k0,p,v⟩:=f 0;obtain ⟨k1,q,w⟩:=f 1;obtain ⟨k2,r,x⟩:=f 2;obtain ⟨g,s,u⟩:=iH h0 h1 h2 p q r h;have y:=yx (x0:=x0) (y0:=y0) (x1:=x1) (y1:=y1) (x2:=x2) (y2:=y2) ⟨i,k,l,m,n,o⟩;have z:=jM (a:=k1-k0) (b:=y2-y0) (c:=y1-y0) (d:=k2-k0) ⟨by omega,by omega,by omega,by omega⟩;have A:=jM (a:=k1-k0) (b:=x2-x0) (c:=x1-x0) (d:=k2-k0) ⟨by omega,by omega,by omega,by omega⟩;unfold dM;exact ⟨oV g s om_ om_,oV g u om_ om_⟩
theorem Km (c:At4 (cor pts t 0) x0 y0)(h:At4 (cor pts t 1) x1 y1)(i:At4 (cor pts t 2) x2 y2)(e:At4 p x3 y3)(d:fz fs t 0*2=k0)(j:fz fs t 1*2=k1)(k:fz fs t 2*2=k2)
  (l:dH (cor pts t 0) (cor pts t 1) (cor pts t 2)≠0):onQ pts fs t p*((2*iA x0 y0 x1 y1 x2 y2:Int):Rat)=((k0*iA x0 y0 x1 y1 x2 y2+((k1-k0)*(y2-y0)-(y1-y0)*(k2-k0))*(x3-x0)+((x1-x0)*(k2-k0)-(k1-k0)*(x2-x0))*(y3-y0):Int):Rat):=by
 obtain ⟨s,f,g⟩:=iH c h i d j k l;unfold onQ Ht;simp only [RU,List.foldl_nil];have a:=f;have b:=g;unfold dM;generalize (oG (cor pts t 0) (cor pts t 1) (cor pts t 2) (fz fs t 0) (fz fs t 1) (fz fs t 2)).1=u at a ⊢;generalize (oG (cor pts t 0) (cor pts t 1) (cor pts t 2) (fz fs t 0) (fz fs t 1) (fz fs t 2)).2=v at b ⊢;clear f g;generalize ((k1-k0)*(y2-y0)-(y1-y0)*(k2-k0))=n1 at a ⊢;generalize ((x1-x0)*(k2-k0)-(k1-k0)*(x2-x0))=n2 at b ⊢;generalize iA x0 y0 x1 y1 x2 y2=w at a b ⊢;simp only [RH,Qg,Rat.intCast_add] at a b ⊢;have m:=c.1;have n:=c.2;have o:=e.1;have q:=e.2;generalize fz fs t 0=x at d ⊢;rw [<- m,<- n,<- o,<- q,<- d];have r:((2:Int):Rat)=2:=rfl;rw [r] at a b ⊢;grind
theorem NV (b:(-600<=x0/\x0<=600)/\(-600<=y0/\y0<=600)/\(-600<=x1/\x1<=600)/\(-600<=y1/\y1<=600)/\(-600<=x2/\x2<=600)/\(-600<=y2/\y2<=600))(g:(-600<=x3/\x3<=600)/\(-600<=y3/\y3<=600))(h:(-38<=k0/\k0<=38)/\(-38<=k1/\k1<=38)/\(-38<=k2/\k2<=38)) :
  (k0*iA x0 y0 x1 y1 x2 y2+((k1-k0)*(y2-y0)-(y1-y0)*(k2-k0))*(x3-x0)+((x1-x0)*(k2-k0)-(k1-k0)*(x2-x0))*(y3-y0)).natAbs<=600000000:=by
 have e:=yx b;have f:=jM (a:=k1-k0) (b:=y2-y0) (c:=y1-y0) (d:=k2-k0) ⟨by omega,by omega,by omega,by omega⟩;have i:=jM (a:=k1-k0) (b:=x2-x0) (c:=x1-x0) (d:=k2-k0) ⟨by omega,by omega,by omega,by omega⟩;have j:=iS (show k0.natAbs<=38 by omega) e;have k:=iS f (show (x3-x0).natAbs<=1200 by omega);have l:=iS (show ((x1-x0)*(k2-k0)-(k1-k0)*(x2-x0)).natAbs<=182400 by omega) (show (y3-y0).natAbs<=1200 by omega);omega
theorem OW (a:∀ j,Qtr (cor pts t j))(c:dH (cor pts t 0) (cor pts t 1) (cor pts t 2)≠0)(b:∀ j,Hlf (fz fs t j))(n:Qtr p):QB 1 (onQ pts fs t p):=by
 obtain ⟨x0,y0,h0,d,e⟩:=a 0;obtain ⟨x1,y1,h1,f,g⟩:=a 1;obtain ⟨x2,y2,h2,h,i⟩:=a 2;obtain ⟨x3,y3,h3,o⟩:=n;obtain ⟨k0,k,q⟩:=b 0;obtain ⟨k1,l,r⟩:=b 1;obtain ⟨k2,m,s⟩:=b 2;have u:=(iH h0 h1 h2 k l m c).1;have v:=yx (x0:=x0) (y0:=y0) (x1:=x1) (y1:=y1) (x2:=x2) (y2:=y2) ⟨d,e,f,g,h,i⟩;have w:=NV ⟨d,e,f,g,h,i⟩ o ⟨q,r,s⟩;exact oV om_ (Km h0 h1 h2 h3 k l m c) om_ om_
theorem Bu (a:w=1∨w=2∨w=4)(e:-150<=z/\z<=150):∃ x:Int,kM z w*4=x/\(-600<=x/\x<=600):=by
 have h:=nS (z:=z) (w:=w) om_;have b:((1:Int):Rat)=1:=rfl;have c:((2:Int):Rat)=2:=rfl;have d:((4:Int):Rat)=4:=rfl;rcases a with rfl | rfl | rfl
 ·refine ⟨4*z, ?_,by omega⟩;rw [Qg,<- h,b,d];grind
 ·refine ⟨2*z, ?_,by omega⟩;rw [Qg,<- h,c];grind
 exact ⟨z,h,by omega⟩
theorem wb {x y n:Int}(c:n=1∨n=2)(k:-128<=x/\x<=127)(l:-128<=y/\y<=127):Qtr (dD a b h x y n):=by
 have m:=xJ a;have o:=xJ b;have hh:dO h=1∨dO h=2:=by cases h <;> simp [dO]
 have d:dO h*n=1∨dO h*n=2∨dO h*n=4:=by rcases hh with e | e <;> rcases c with f | f <;> rw [e,f] <;> omega
 obtain ⟨u,g,i⟩:=Bu (z:=x+a.tmod 8*n) d (by rcases c with f | f <;> subst f <;> omega);obtain ⟨v,j,bv⟩:=Bu (z:=y+b.tmod 8*n) d (by rcases c with f | f <;> subst f <;> omega);exact ⟨u,v,⟨g,j⟩,i,bv⟩
theorem AI :∀ p∈cE m a b h,Qtr p:=by
 intro p c;obtain ⟨x,d,rfl⟩:=Pn.1 c;have:=J8 m x d;exact wb (.inl Z) om_ om_
theorem zu:Qtr (0,0):=⟨0,0,⟨by decide +kernel,by decide +kernel⟩,by decide,by decide⟩
theorem nR {P:α->Prop}{d:α}(h:∀ x∈l,P x)(a:P d):P (l.getD i d):=by
 rw [ax];cases h1:l[i]? with
 | none=>exact a
 | some x=>exact h x (Pe h1)
theorem uu (j:Nat):Qtr (cor (cE m a b h) t j):=nR AI zu
theorem Mq (n:Nat)(H:Hts):∀ q∈fsK n H,Hlf q:=by
 intro q a;obtain ⟨i,_,rfl⟩:=Pn.1 a;have b:=D6 ((Hw H).getD (i % 6) 0);generalize ((Hw H).getD (i % 6) 0).tmod 20=z at b ⊢;have c:((1:Int):Rat)=1:=rfl;have d:((2:Int):Rat)=2:=rfl;rcases tZ H.half with e | e
 ·have h:=nS (z:=z) (w:=1) dc_;rw [e];refine ⟨2*z, ?_,by omega⟩;rw [Qg,<- h,c,d];grind
 rw [e];exact ⟨z,nS dc_,by omega⟩
theorem sN:Hlf 0:=⟨0,by decide +kernel,by decide⟩
theorem LR:Hlf 1:=⟨2,by decide +kernel,by decide⟩
theorem Kx {H:Hts}(j:Nat):Hlf (fz (fsK n H) t j):=nR (Mq n H) sN
theorem zG (j:Nat):Hlf (fz (nq n k) t j):=nR (fun q a=>by
 rcases zH q a with rfl | rfl
 ·exact sN
 exact LR) sN
theorem AK (S:Sht)(s:Sgt)(a:SgtR s):Qtr (lj S s):=by
 unfold lj;split
 ·exact wb (.inr Z) a.px a.py
 exact nR AI zu
theorem tg {P:Rat->Prop}{m:List (Nat × Rat)}(a:P 0)(h:∀ x∈m,P x.2):∀ q∈ru n m,P q:=by
 intro q b;obtain ⟨j,_,rfl⟩:=Pn.1 b;cases h1:dQ m j with
 | none=>exact a
 | some v =>
  exact h _ (fU h1)
theorem oR {s p:Nat}{a:List (Nat × Rat)}{b c:Rat}(e:∀ x∈a,QB 1 x.2)(f:QB 3 b)(d:QB 1 c):M5 (gE s p k a b c):=by
 refine ⟨tg (QB_zero.le dc_) ?_,(jh d f).le dc_⟩;intro x g;obtain ⟨y,hy,rfl⟩:=Pn.1 g;exact (jh d (e y hy)).le dc_
theorem Ib {B:Bk}{o:Obs}{z:Rat}(c:∀ j,QB 1 (wgt B.pts t p j))(a:∀ j,QP 1 (slf B.pts t j))(d:QB 3 (kQ o z))(f:o.kind≠1->o.kind≠2->QB 3 (pV o)/\QB 3 (iR o)):∀ r∈rowsO B o p t z,M5 r:=by
 have e:∀ x∈atT t (wgt B.pts t p),QB 1 x.2:=ga (c 0) (c 1) (c 2);have g:∀ x∈atT t (fun j=>(slf B.pts t j).1),QB 1 x.2:=ga (a 0).1 (a 1).1 (a 2).1;have i:∀ x∈atT t (fun j=>(slf B.pts t j).2),QB 1 x.2:=ga (a 0).2 (a 1).2 (a 2).2;intro r hr;unfold rowsO at hr;split at hr
 ·rcases Px.1 hr with h | h
  ·split at h
   ·rw [PE.1 h];exact oR e d QB_one
   simp at h
  split at h
  ·rw [PE.1 h];exact oR e d mE
  simp at h
 rename_i h1;split at hr
 ·obtain ⟨k,_,h⟩:=List.mem_flatMap.1 hr;obtain ⟨sg,b,rfl⟩:=Pn.1 h;exact oR e d (rk sg b)
 rename_i h2;obtain ⟨l,m⟩:=f h1 h2;obtain ⟨k,_,h⟩:=List.mem_flatMap.1 hr;rcases Px.1 h with h | h
 ·obtain ⟨sg,b,rfl⟩:=Pn.1 h;exact oR g l (rk sg b)
 obtain ⟨sg,b,rfl⟩:=Pn.1 h;exact oR i m (rk sg b)
def tiK (S:Sht)(s:Sgt):Nat:=(kF (cE (S.kd % 8) S.a S.b S.h) (shT (S.kd % 8)) (lj S s)).headD 0
def tK (S:Sht)(s:Sgt):Tri:=(shT (S.kd % 8)).getD (tiK S s) (0,0,0)
def zK (S:Sht)(H:Hts)(s:Sgt):Rat:=onQ (cE (S.kd % 8) S.a S.b S.h) (fsK (cE (S.kd % 8) S.a S.b S.h).length H) (tK S s) (lj S s)
noncomputable def roK (S:Sht)(H:Hts)(l:List Sgt)(i:Nat):List RowQ:=rowsO (dT S H l) (fF S (l.getD i CM) i) (lj S (l.getD i CM)) (tK S (l.getD i CM)) (zK S H (l.getD i CM))
theorem LV (S:Sht)(s:Sgt)(i:Nat)(b:SgtR s):ObsAt (fF S s i) (lj S s):=by
 have a:=(tB S s b).1;refine ⟨?_, ?_,(EP a).1,(EP a).2, ?_⟩
 ·unfold fF;split
  ·rfl
  split <;> rfl
 ·unfold fF;split
  ·rfl
  split <;> rfl
 unfold fF;split
 ·intro h;exact absurd (show (1:Int)=2 from h) dc_
 split
 ·intro _;exact ok1 (sf s.depth)
 intro h;exact absurd (show (3:Int)=2 from h) dc_
theorem LU (S:Sht)(s:Sgt)(i:Nat):0<=jT (isU (fF S s i).upper) colK 0:=by
 have c:=Me s;have d:=KZ s;have a:=pH (s.u1 % 3) om_;have b:=pH (max (loU s) (upU s)) om_;unfold fF;split
 ·simp only;rw [a];omega
 split <;> (simp only;rw [b];omega)
theorem Fk (S:Sht)(s:Sgt)(i:Nat):(fF S s i).kind≠1->(fF S s i).kind≠2->(aW (fF S s i).nx=true/\aW (fF S s i).ny=true/\aW (fF S s i).nz=true)/\QB 1 (da (fF S s i).nx)/\QB 1 (da (fF S s i).ny)/\QB 1 (da (fF S s i).nz)/\da (fF S s i).nz≠0:=by
 have h0:=ns s.n0;have h1:=ns s.n1;have h2:=nQ s.n2;have a:=dX (s.n0.tmod 5) om_;have l1:=dX (s.n1.tmod 5) om_;have l2:=dX (fa s.n2) om_;have b:=tT s.n2;unfold fF;split
 ·intro h;exact absurd rfl h
 split
 ·intro _ h;exact absurd rfl h
 intro _ _;simp only;rw [cR (ok1 a),cR (ok1 l1),cR (ok1 l2)];exact ⟨⟨ok1 a,ok1 l1,ok1 l2⟩,a,l1,l2,by simpa using b⟩
theorem AW (S:Sht)(s:Sgt)(i:Nat):(fF S s i).kind=2->(fF S s i).depth=qtx (kM ((s.depth % 12:Nat):Int) 2):=by
 unfold fF;split
 ·intro h;exact absurd (show (1:Int)=2 from h) dc_
 split
 ·intro _;rfl
 intro h;exact absurd (show (3:Int)=2 from h) dc_
theorem IK (S:Sht)(s:Sgt)(i:Nat){z:Rat}(a:QB 1 z):QB 3 (kQ (fF S s i) z):=by
 unfold kQ;split
 ·rename_i h;rw [AW S s i h,cR (ok1 (sf s.depth))];have h:=fb a (sf s.depth);exact h.le dc_
 exact a.le dc_
theorem Fl (S:Sht)(s:Sgt)(i:Nat)(b:(fF S s i).kind≠1)(c:(fF S s i).kind≠2):QB 3 (pV (fF S s i))/\QB 3 (iR (fF S s i)):=by
 obtain ⟨_,d,l1,l2,a⟩:=Fk S s i b c;exact ⟨(ji (eX d) l2 a).le dc_,(ji (eX l1) l2 a).le dc_⟩
theorem locK (S:Sht)(s:Sgt)(c:SgtR s):(∃ r,kF (cE (S.kd % 8) S.a S.b S.h) (shT (S.kd % 8)) (lj S s)=tiK S s::r)/\(shT (S.kd % 8))[tiK S s]?=some (tK S s):=by
 have d:=(tB S s c).2;unfold tK tiK;cases h:kF (cE (S.kd % 8) S.a S.b S.h) (shT (S.kd % 8)) (lj S s) with
 | nil=>exact absurd h d
 | cons i r =>
  have hm:i∈kF (cE (S.kd % 8) S.a S.b S.h) (shT (S.kd % 8)) (lj S s):=by rw [h];exact Ph
  unfold kF at hm;have e:=PC.1 (QG.1 hm).1;refine ⟨⟨r,Z⟩, ?_⟩;simp only [List.headD_cons];rw [ax,ak e];rfl
theorem O3 (S:Sht)(H:Hts)(l:List Sgt)(s:Sgt)(i:Nat)(c:SgtR s) :
  Fine (dT S H l) (fsK (cE (S.kd % 8) S.a S.b S.h).length H) (fF S s i) (lj S s) (tiK S s) (tK S s) (zK S H s):=by
 obtain ⟨n,_⟩:=gj (S.kd % 8) (PY _ dc_) S.a S.b S.h;obtain ⟨⟨r,hr⟩,f⟩:=locK S s c;have d:=jG n.ok (Pe f);have g:=AK S s c;have k:∀ j,QB 1 (wgt (cE (S.kd % 8) S.a S.b S.h) (tK S s) (lj S s) j):=Nm (fun j=>uu j) d g;have m:∀ j,QP 1 (slf (cE (S.kd % 8) S.a S.b S.h) (tK S s) j):=fun j=>HW (fun j=>uu j) d (fun j=>zG j);have e:QB 1 (zK S H s):=OW (fun j=>uu j) d (fun j=>Kx j) g;have hh:=IK S s i e;refine ⟨LV S s i c,⟨r,hr⟩,f, ?_,e.le dc_,hh.le dc_,fun j=>(k j).le dc_,LU S s i,fun j=>(m j).le dc_, ?_, ?_⟩
 ·show DI (cE (S.kd % 8) S.a S.b S.h) (shT (S.kd % 8)) _ _=_;unfold DI;rw [hr];show CL (zK S H s)=_;unfold CL;rw [aL (ok1 e)]
 ·intro h1 h2;obtain ⟨h0,o,l1,l2,p⟩:=Fk S s i h1 h2;exact ⟨h0,o.le dc_,l1.le dc_,l2.le dc_,p⟩
 exact Ib k m hh (Fl S s i)
theorem Dv (S:Sht)(H:Hts)(l:List Sgt)(c:∀ s∈l,SgtR s):Rich (dT S H l) (fsK (cE (S.kd % 8) S.a S.b S.h).length H) (roK S H l):=by
 refine ⟨(gj (S.kd % 8) (PY _ dc_) S.a S.b S.h).1,MO S H l c,Du S H l c,⟨Z,ud _ _,fun q e=>(Gj _ H q e).le dc_⟩, ?_, ?_⟩
 ·have:=(JJ S H l).2;rw [BM];omega
 intro i o f;obtain ⟨g,s,d,rfl⟩:=lW f;refine ⟨_,_,_,_,O3 S H l s i (c s (Pe d)), ?_⟩;unfold roK;rw [ax,d];rfl
theorem CH (x y:Nat)(a:x<18446744073709551616)(b:y<18446744073709551616)(C:Mem):Gives cx.P 128 [.int .u64 x,.int .u64 y] C (.tuple #[.int .u64 ((x*y / 18446744073709551616:Nat):Int),.int .u64 ((x*y % 18446744073709551616:Nat):Int)]) :=
 Gives.ofCalls kr_ (fun w=>Any.bits_Mul Tryz.mul x y a b w) C
theorem EX {a:Value}{b:List Value}(_d:k+m<=n)(c:m<=k)(_e:b.length=n-k) :
  aE (List.replicate k a++b) ((List.replicate k a++b).take m) k=List.replicate (k+m) a++b.drop m:=by
 have h1:(List.replicate k a++b).take m=List.replicate m a:=by
  rw [List.take_append_of_le_length (by simpa using c),List.take_replicate,Qn c]
 have h2:(List.replicate k a++b).take k=List.replicate k a:=by
  rw [List.take_append_of_le_length am,List.take_replicate,Nat.min_self]
 have h3:(List.replicate k a++b).drop (k+m)=b.drop m:=by
  rw [RN,PB,QY am,Re];congr 1;omega
 unfold aE;rw [h1,h2,PB,h3,List.replicate_append_replicate]
theorem ER (a:Value)(n:Nat):ko [a] n=List.replicate n a:=by
 rw [eS];induction n with
 | zero=>rfl
 | succ n b=>rw [Qm,Qq,b,Qm];rfl
theorem Ix (n:Nat)(a:n<18446744073709551616)(C:Mem):Gives cx.P 128 [.int .u64 (1:Int),.int .u64 n] C (.tuple #[.int .u64 0,.int .u64 n]):=by
 have h:=CH 1 n om_ a C;have b:1*n / 18446744073709551616=0:=by omega
 have c:1*n % 18446744073709551616=n:=by omega
 rw [b,c] at h;exact h
theorem CF (C:Mem)(v:Value)(n:Nat)(s:Str)(g:Sl C 1 v [[af s]])(y:n<=1000000):Jog.Fn cx.P 64 [v,.int .i64 n] C [] fun u _z e=>∃ b,u=.slice (some ⟨b,0,none⟩) n n/\e=[.arr u 32 1 n (List.replicate n (af s))]:=by
 have p:=g;obtain ⟨A,c,rfl,_⟩:=p;refine S4 func64 48 U3 fun w0=>SR 1 [0,1] Z<|SR 2 [0,1,10] Z<|G.cd (fun h=>?_) fun h=>?_
 ·simp at h;omega
 refine SS 2 Z fun R d=>Tz (c:=1) U8 Z fl_<|SV U6<|Tz (c:=(n:Int)) U8 (by rw [IntKind.wrap_u64];omega) fl_<|Tb (Ix n om_ _) U7 fl_<|C6 5 [0,5,6] d Z<|SS 5 Z fun R d=>Tt U8<|SY [0,6,26] d Z<|G.cd (fun i=>?_) fun i=>?_
 ·simp at i;omega
 refine SS 1 Z fun R d=>Tz (c:=(n:Int)) U8 (by rw [IntKind.wrap_i64];omega) fl_<|TT U9 (Pf _) (by show 16*n<=281474976710656;omega) (by simp only [maxLen];omega) fl_ fun a=>C6 1 [0,7] d Z<|SS 2 Z fun R d=>UB (j:=0) (q:=min 1 n) U12 g U2 (by rw [cU];show 0+min 1 n*1<=n*1;omega) fl_<|C6 1 [7,8] d Z ?_;have r:aE (ko [af []] n) (([[af s]]:List (List Value)).take (min 1 n)).flatten 0=List.replicate (min 1 n) (af s)++List.replicate (n-min 1 n) (af []):=by
  rw [ER];cases n with
  | zero=>rfl
  | succ n=>rw [show min 1 (n+1)=1 by omega,Qm];rfl
 refine Tc (L':=[.arr (.slice (some ⟨a,0,none⟩) n n) 32 1 n (List.replicate (min 1 n) (af s)++List.replicate (n-min 1 n) (af []))]) (by rw [<- r];rfl)<|G.loop (fun fr B e t=>∃ (k:Nat),(k<=n/\min 1 n<=k)/\fr=[(7,[],.slice (some ⟨a,0,none⟩) n n),(8,[],.int .i64 k)]/\e=[.arr (.slice (some ⟨a,0,none⟩) n n) 32 1 n (List.replicate k (af s)++List.replicate (n-k) (af []))]/\t=n-k) (hn_ [7,8] Z) ⟨min 1 n,⟨Nat.min_le_right _ _,Pf _⟩,Z,Z,Z⟩ (fun fr D E m w x=>?_);obtain ⟨k,⟨l,F⟩,rfl,rfl,rfl⟩:=x;refine SR 4 [7,8,37] Z<|G.cd (fun f=>?_) fun f=>?_
 ·simp only [Pp] at f;have o:k<n:=by omega
  have H:1<=k:=by omega
  refine Tg [0,1,2,3,4,5,6,7,8,9] [] Z kr_ fun R I d=>SZ 3 Z<|TO k n n U12 (fun _=>⟨.inr ⟨_,Z⟩,.inl ⟨Z,Z⟩,.inl ⟨Z,Z⟩,l,Pf _,Pf _⟩) U2<|SZ 2 Z<|TO 0 k n U12 (fun _=>⟨.inl ⟨Z,Z⟩,.inr ⟨_,Z⟩,.inl ⟨Z,Z⟩,Pm _,l,Pf _⟩) U2 ?_;refine UA (j:=0) (off:=k) (g0:=a) (dl:=n-k) (dc:=n-k) (sl:=k-0) (sc:=n-0) (q:=min k (n-k)) U8 (by show some (Value.slice (if n=k then some (⟨a,0,none⟩:Addr) else (some (⟨a,0,none⟩:Addr)).map (·.add (k*1))) (n-k) (n-k))=_;rw [aF om_];simp [Addr.add_lit]) (by show some (Value.slice (if n=0 then some (⟨a,0,none⟩:Addr) else (some (⟨a,0,none⟩:Addr)).map (·.add (0*1))) (k-0) (n-0))=_;split <;> simp [Addr.add_lit]) U2 (by simp [na,af]) ap fl_ ?_;refine Ts (((k+min k (n-k):Nat):Int)) U4 om_ om_ om_ U2<|C6 1 [7,8] d Z<|Tc (L':=[.arr (.slice (some ⟨a,0,none⟩) n n) 32 1 n (List.replicate (k+min k (n-k)) (af s)++List.replicate (n-(k+min k (n-k))) (af []))]) (by rw [EX (n:=n) om_ (Nat.min_le_left _ _) am,List.drop_replicate,Nat.sub_sub];rfl)<|S6 (m':=n-(k+min k (n-k))) om_ w (hn_ [7,8] Z) ⟨k+min k (n-k),⟨by omega,by omega⟩,Z,Z,Z⟩
 simp only [PP] at f;have o:k=n:=by omega
 subst o;refine SR 2 [4] Z<|S7 (Tx Z Z ?_);exact ⟨a,Z,by simp⟩
theorem iL (C:Mem)(n:Nat)(a:n<=1000000):Jog.Fn cx.P 99 [.int .i64 n] C [] fun u _g c=>∃ b,u=.slice (some ⟨b,0,none⟩) n n/\c=[.arr u 32 1 n (List.replicate n (af [48]))]:=by
 refine S4 func99 6 U3 fun w0=>SR 1 [0] Z<|Tk [(2,3)] Z fun R d=>Th [[af [48]]] U12 fun h _ _ e=>SV U6<|D.call (CF _ _ n [48] e.m_ a) Z (.inr dc_) U6 (Pk _) fl_ fun i _ j _ f=>C6 1 [2] d Z ?_;obtain ⟨b,rfl,rfl⟩:=f;refine S7 (Tx Z Z ?_);exact ⟨b,Z,Z⟩
theorem kA {f:α->List Value}{x:α}(h:l[i]?=some x):(l.map f)[i]?=some (f x):=by rw [Pi,h];rfl
def mL (s:Str):List Value:=[af s]
def aP (q:Rat):List Value:=[af (qtx q)]
theorem pS (l:List Rat):l.map aP=(l.map qtx).map mL:=by rw [Qe];rfl
def Iz {α:Type}(p:α->Bool):List α->Nat->Int
 | [],_=>-1
 | x::l,k=>if p x then (k:Nat) else Iz p l (k+1)
theorem tF {a:Type}{p:a->Bool}:∀ {l:List a}{i k:Nat}{x:a},l[i]?=some x->p x=true->(∀ y∈l.take i,p y=false)->Iz p l k=((k+i:Nat):Int)
 | y::l,0,k,x,h,b,_=>by
  simp only [List.getElem?_cons_zero,PW] at h;subst h;simp [Iz,b]
 | y::l,i+1,k,x,h,b,c=>by
  simp only [QR] at h;have hy:p y=false:=c y am;have:=tF (k:=k+1) h b (fun z d=>c z (by simp [d]));simp only [Iz,hy,P8,QD,this];omega
theorem pe {a:Type}{p:a->Bool}:∀ {l:List a}{k:Nat},(∀ y∈l,p y=false)->Iz p l k=-1
 | [],_,_=>rfl
 | y::l,k,h=>by
  simp only [Iz,h y Ph,P8,QD];exact pe fun z b=>h z (Pr _ b)
theorem CI (p:α->Bool)(l:List α):(Iz p l 0=-1/\∀ y∈l,p y=false)∨∃ (i:Nat)(x:α),Iz p l 0=(i:Nat)/\l[i]?=some x/\p x=true/\∀ y∈l.take i,p y=false:=by
 by_cases h:∀ y∈l,p y=false
 ·exact .inl ⟨pe h,h⟩
 right;have d:∀ (l:List α),(¬ ∀ y∈l,p y=false)->∃ (i:Nat)(x:α),l[i]?=some x/\p x=true/\∀ y∈l.take i,p y=false:=by
  intro l;induction l with
  | nil=>intro h;exact absurd (fun y hy=>(by cases hy)) h
  | cons a l e =>
   intro h;by_cases b:p a=true
   ·exact ⟨0,a,Z,b,by simp⟩
   have c:p a=false:=by simpa using b
   obtain ⟨i,x,h1,h2,h3⟩:=e (fun h2=>h (fun y hy=>by
    rcases Ps.1 hy with rfl | hy
    ·exact c
    exact h2 y hy))
   refine ⟨i+1,x,by simpa using h1,h2,fun y hy=>?_⟩;rw [List.take_succ_cons] at hy;rcases Ps.1 hy with rfl | hy
   ·exact c
   exact h3 y hy
 obtain ⟨i,x,h1,h2,h3⟩:=d l h;exact ⟨i,x,by rw [tF h1 h2 h3,QE],h1,h2,h3⟩
theorem E4 (C:Mem)(v:Value)(l:List Str)(g:Nat)(d:List Value)(a:Str->Bool)(e:Sl C 1 v (l.map mL))(_A:Jog.Enters cx.P g=true)
  (n:∀ x∈l,∀ D:Mem,C.le D->Gives cx.P g (af x::d) D (.bool (a x))) :
  Gives cx.P 91 [v,.func (.func g) #[] ⟨d⟩] C (.int .i64 (Iz a l 0)):=by
 obtain ⟨o,c0,rfl,p,B,_⟩:=id e;have E:maxLen<=9223372036854775807:=by simp [maxLen]
 simp only [al] at e p ⊢;refine S4 func91 19 U3 fun w0=>SR 1 [0,1] Z<|SR 3 [0,1,7,8] Z<|G.loop (fun fr F q r=>∃ (i:Nat),(i<=l.length/\∀ y∈l.take i,a y=false)/\fr=[(0,[],.slice o l.length c0),(1,[],.func (.func g) #[] ⟨d⟩),(7,[],.int .i64 l.length),(8,[],.int .i64 i)]/\q=[]/\r=l.length-i) (hn_ [0,1,7,8] Z) ⟨0,⟨Pm _,by simp⟩,Z,Z,Z⟩ (fun fr H I m s t=>?_);obtain ⟨i,⟨J,b⟩,rfl,rfl,rfl⟩:=t;refine SR 1 [0,1,7,8,9] Z<|G.cd (fun f=>?_) fun f=>?_
 ·have h:i<l.length:=by simpa using f
  obtain ⟨x,c⟩:∃ x,l[i]?=some x:=⟨l[i],ak h⟩;refine SR 2 [0,1,5,7,8] Z<|SS 3 Z fun R j=>Ta e.m_ U10 om_ (kA c) fl_ fun K u=>SU u U8<|S8 (n x (Pe c) _ mup) U7<|SY [0,1,5,7,8,16] j Z<|G.cd (fun k=>?_) fun k=>?_
  ·have w:a x=true:=k;exact SR 2 [4] Z<|S3 U2<|⟨by rw [tF c w b,QE],Z⟩
  have z:a x=false:=k;refine SX fun R j=>S2 _ Z U6<|C6 1 [0,1,7,8] j Z<|S6 (m':=l.length-(i+1)) om_ s (hn_ [0,1,7,8] Z) ⟨i+1,⟨by omega,fun y hy=>by
   rw [PN,c] at hy;rcases Px.1 hy with hy | hy
   ·exact b y hy
   simp only [QF,PE] at hy;subst hy;exact z⟩,Z,Z,Z⟩
 have h:i=l.length:=by
  have:¬ i<l.length:=by simpa using f
  omega
 exact SR 1 [4] Z<|S3 U2<|⟨by rw [h,Pv] at b;rw [pe b],Z⟩
theorem E9 (C:Mem)(v:Value)(l:List Str)(g:Nat)(b:List Value)(a:Str->Bool)(c:Sl C 1 v (l.map mL))(d:Jog.Enters cx.P g=true)
  (e:∀ x∈l,∀ D:Mem,C.le D->Gives cx.P g (af x::b) D (.bool (a x))) :
  Gives cx.P 33 [v,.func (.func g) #[] ⟨b⟩] C (.bool (l.any a)):=by
 refine S4 func33 9 U3 fun w0=>SR 1 [0,1] Z<|SS 2 Z fun R f=>S8 (E4 _ v l g b a c.m_ d (fun x h D j=>e x h D (Mem.le.trans mup j))) U7<|C6 2 [4] f Z<|S3 U2<|⟨?_,Z⟩;congr 1;rcases CI a l with ⟨h1,h2⟩ | ⟨i,x,h1,h2,h3,_⟩
 ·rw [h1,List.any_eq_false.2 (fun y hy=>by rw [h2 y hy];decide)];rfl
 rw [h1,R5.2 ⟨x,Pe h2,h3⟩];exact PG om_
theorem oW (C:Mem)(a:Tabs C)(s:Str)(b:s.length<=999998):Gives cx.P 102 [af s] C (.bool (!aW s)):=by
 refine S4 func102 6 U3 fun w0=>SR 1 [0] Z<|SS 1 Z fun R c=>S8 (dA _ a.m_ s b) U7<|C6 2 [2] c Z<|S3 U2 ?_;exact ⟨by cases aW s <;> rfl,Z⟩
def iX (n:Int)(l:List Str):Int:=if (l.length:Int)=n then nV (l.all aW) else 5
theorem AO (C:Mem)(e:Tabs C)(v:Value)(n:Int)(l:List Str)(a:Sl C 1 v (l.map mL))(b:∀ s∈l,s.length<=999998):Gives cx.P 135 [v,.int .i64 n] C (.int .i64 (iX n l)):=by
 obtain ⟨o,c0,rfl,f,p,_⟩:=id a;have q:maxLen<=9223372036854775807:=by simp [maxLen]
 simp only [al] at a f ⊢;refine S4 func135 13 U3 fun w0=>SR 1 [0,1] Z<|SR 5 [0,5] Z<|G.cd (fun h5=>?_) fun h5=>?_
 ·have g:¬ (l.length:Int)=n:=by simpa using h5
  exact SR 1 [4] Z<|S3 U2<|⟨by unfold iX;rw [aF g],Z⟩
 have d:(l.length:Int)=n:=by simpa using h5
 refine SS 1 Z fun R h=>S8 (E9 _ _ l _ [] (fun s=>!aW s) a.m_ Z (fun s i D j=>oW D (e.mono (Mem.le.trans mup j)) s (b s i))) U7<|C6 1 [10] h Z<|G.cd (fun c=>?_) fun c=>?_
 ·have k:l.all aW=false:=by
   obtain ⟨s,h1,h2⟩:=R5.1 (show (l.any fun s=>!aW s)=true from c);exact RK.2 ⟨s,h1,by simpa using h2⟩
  exact SR 1 [4] Z<|S3 U2<|⟨by unfold iX;rw [aL d,k];rfl,Z⟩
 have m:l.all aW=true:=by
  have h1:=List.any_eq_false.1 (show (l.any fun s=>!aW s)=false from c);exact PD.2 fun s b=>by simpa using h1 s b
 exact SR 1 [4] Z<|S3 U2<|⟨by unfold iX;rw [aL d,m];rfl,Z⟩
end Go.Proofs.YtfjcldheldflbaaGreatDoor
