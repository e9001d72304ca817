/- Laws that the proofs of this seat share, part 11. -/
import Derived.Test.YtfjcldheldflbaaGreatDoorG10
import Derived.Test.YtfjcldheldflbaaGreatDoorShelf
import Derived.Test.YtfjcldheldflbaaGreatDoorCards
import Derived.Test.YtfjcldheldflbaaGreatDoorTie
import Derived.Stop.LaidErr
import Derived.Lib.LaidTab
import Derived.Carry
import Derived.Deep.Strs
import Derived.Laws.IdiomArrays
set_option maxHeartbeats 4000000
namespace Go.Proofs.YtfjcldheldflbaaGreatDoor
open Go.Proofs.Tryz
open Go Go.Jog
set_option maxRecDepth 100000
variable {i:Nat}{n:Int}{q:Rat}{s u x y:Str}{z:Int}
def FieldsIn (C:Mem)(v:Value)(ls:List (List Str)):Prop:=∃ vs:List Value,vs.length=ls.length/\(∀ (i:Nat)(w:Value)(l:List Str),vs[i]?=some w->ls[i]?=some l->Sl C 1 w (l.map gi))/\Sl C 1 v (vs.map fun w=>[w])
theorem FieldsIn.mono {C D:Mem}{v:Value}{a:List (List Str)}(h:FieldsIn C v a)(b:C.le D):FieldsIn D v a:=by
 obtain ⟨vs,h1,h2,h3⟩:=h;exact ⟨vs,h1,fun i w l h4 h5=>(h2 i w l h4 h5).mono b,h3.mono b⟩
theorem FieldsIn.m_ {C D:Mem}{v:Value}{a:List (List Str)}(h:FieldsIn C v a)(b:C.le D:=by exact mup):FieldsIn D v a:=FieldsIn.mono h b
def qX (s p:Nat)(l:List Str):Int:=if l.length=s*p then nC (l.all aV) else 5
def GM (p:Nat)(l:List Str)(j:Nat):List Str:=(l.take ((j+1)*p)).drop (j*p)
def chunks (s p:Nat)(l:List Str):List (List Str):=(List.range s).map (GM p l)
theorem LG {l:List Str}(h:l.all aV=true):l=(l.map dB).map qtx:=by
 rw [Qv];symm;have e:∀ s∈l,(qtx ∘ dB) s=id s:=fun s hs=>(dx (PT.1 h s hs)).1.symm;rw [List.map_congr_left e,List.map_id]
theorem wE (C:Mem)(hT:Tabs C)(E v:Value)(B:Bk)(l:List Str)(hB:BookIn C E B)(F:BookZ C E B 0)(aa:bs B*bp B<=60)(f:Sl C 1 v (l.map gi))(hs:∀ x∈l,x.length<=999998)(_au:l.length<=100000) :
  Pur cx.P 81 [E,v] C fun u D=>∃ w,u=.tuple #[w,.int .i64 (qX (bs B) (bp B) l)]/\FieldsIn D w (if qX (bs B) (bp B) l=0 then chunks (bs B) (bp B) l else []):=by
 have av:=F.lc;have aw:=F.lp;have ay:bs B<=1000:=by unfold bs;omega
 have az:bp B<=400:=by unfold bp;omega
 obtain ⟨v1,v2,tv,cv,ov,rfl,h1,h2,h3,h4,h5⟩:=id hB.ex;obtain ⟨c,c0,rfl,ab,aA,_⟩:=id f;have aB:maxLen<=9223372036854775807:=by simp [maxLen]
 simp only [am] at f ab ⊢;refine Tk func81 60 U3 fun w0=>Tf fun R a=>Tv U6 fun b2=>C6 2 [1,2] a Z<|Tf fun R a=>Ti ag U9<|To (N4 _ _ B F.m_ aa) U7<|Tg 3 Z<|Tq U5 fun N=>Tj (j:=0) U12<|C6 1 [1,6,7] a Z<|Tb 2 [1,6,7,19] Z<|G.cd (fun O=>?_) fun O=>?_
 ·exact absurd O dc_
 refine G.freeze 0 Z fun _ _ g=>Tc 2 Z fun R a=>Td (bkT g 2) U8<|Ts (iI _ (bs B) (bp B) om_) U7 fl_<|C6 1 [1,6,25] a Z<|G.cd (fun k=>?_) fun k=>?_
 ·have ac:l.length≠bs B*bp B:=by
   intro e;rw [e] at k;simp at k
  have b:qX (bs B) (bp B) l=5:=by unfold qX;rw [aF ac]
  refine Tb 2 [4,5] Z<|Tn (G.dropAll (TD U3 ?_));exact ⟨Z,.slice none 0 0,by rw [b],by rw [b];exact ⟨[],Z,fun i w l h1 _=>by simp at h1,Sl.nil _ _⟩⟩
 have Q:l.length=bs B*bp B:=by
  have h:((l.length:Nat):Int)=((bs B*bp B:Nat):Int):=by simpa using k
  omega
 refine Tb 3 [1,6,26,27,28] Z<|G.dropAll<|G.loop (fun fr S n H=>∃ (i:Nat),(i<=l.length/\(l.take i).all aV=true)/\fr=[(1,[],.slice c l.length c0),(6,[],.pointer (some ⟨N,0,none⟩)),(26,[],.slice c l.length c0),(27,[],.int .i64 l.length),(28,[],.int .i64 i)]/\n=[]/\H=l.length-i) (hn_ [1,6,26,27,28] Z) ⟨0,⟨PG _,by simp⟩,Z,Z,Z⟩ (fun fr aC aD m ad I=>?_);obtain ⟨i,⟨o,p⟩,rfl,rfl,rfl⟩:=I;refine Tb 1 [1,6,26,27,28,29] Z<|G.cd (fun J=>?_) fun J=>?_
 ·have K:i<l.length:=by
   have:=OQ J;omega
  obtain ⟨s,t⟩:∃ s,l[i]?=some s:=⟨l[i],al K⟩;refine Tf fun R a=>Tt f.m_ U10 om_ (bW t) fl_ fun aE ae=>Td ae U8<|C6 1 [1,6,9,26,27,28] a Z<|Tc 1 Z fun R a=>To (dF _ hT.m_ s (hs s (Px t))) U7<|C6 1 [1,6,10,26,27,28] a Z<|Tb 2 [1,6,10,26,27,28,35] Z<|G.cd (fun d=>?_) fun d=>?_
  ·have T:aV s=false:=by
    rcases eX (aV s) with ⟨h1,h2⟩ | ⟨h1,h2⟩
    ·rw [h1] at d;exact absurd d dc_
    exact h2
   have b:qX (bs B) (bp B) l=2:=by
    unfold qX;rw [aL Q,show l.all aV=false from RM.2 ⟨s,Px t,by rw [T];decide⟩];rfl
   refine Tb 3 [4,5] Z<|Tn (G.dropAll (TD U3 ?_));exact ⟨Z,.slice none 0 0,by rw [b,T];rfl,by rw [b];exact ⟨[],Z,fun i w l h1 _=>by simp at h1,Sl.nil _ _⟩⟩
  have af:aV s=true:=by
   rcases eX (aV s) with ⟨h1,h2⟩ | ⟨h1,h2⟩
   ·exact h2
   rw [h1] at d;exact absurd d dc_
  refine Tf fun R a=>Tm _ U7<|C6 1 [1,6,26,27,28] a Z<|Tp (m':=l.length-(i+1)) om_ ad (hn_ [1,6,26,27,28] Z) ⟨i+1,⟨by omega,by rw [P0,t,SY,p];simp [af]⟩,Z,Z,Z⟩
 have K:i=l.length:=by
  have:=PE J;omega
 subst K;rw [PO] at p;have b:qX (bs B) (bp B) l=0:=by unfold qX;rw [aL Q,p];rfl
 have ah:=LG p;refine Tb 1 [1,6,11] Z<|Tc 1 Z fun R a=>Td (bkT g 1) U8<|C6 1 [1,6,11,39,40] a Z<|G.nilArr 41 1<|G.loop (fun fr S n H=>∃ (j:Nat)(vs:List Value)(w:Value),(j<=bs B/\vs.length=j/\(∀ (i:Nat)(w:Value),vs[i]?=some w->Sl S 1 w ((GM (bp B) l i).map gi)))/\fr=[(1,[],.slice c l.length c0),(6,[],.pointer (some ⟨N,0,none⟩)),(11,[],w),(39,[],.int .i64 (bs B:Nat)),(40,[],.int .i64 j)]/\n=[.arr w 41 1 vs.length (vs.map fun w=>[w]).flatten]/\H=bs B-j) (hn_ [1,6,11,39,40] Z) ⟨0,[],_,⟨PG _,Z,fun i w h=>by simp at h⟩,Z,Z,Z⟩ (fun fr aG aH m _ I=>?_);obtain ⟨j,vs,w,⟨hj,U,V⟩,rfl,rfl,rfl⟩:=I;refine Tb 1 [1,6,11,39,40,41] Z<|G.cd (fun L=>?_) fun L=>?_
 ·have M:j<bs B:=by
   have:=OQ L;omega
  have aI:(j+1)*bp B<=bs B*bp B:=Qp _ M;have aK:(j+1)*bp B=j*bp B+bp B:=Nat.succ_mul _ _;have ai:=Sl.sub f (l:=j*bp B) (h:=(j+1)*bp B) (m:=c0) om_ aq om_ (Py _);have W:GM (bp B) l j=(((l.map dB).take ((j+1)*bp B)).drop (j*bp B)).map qtx:=by
   unfold GM
   conv=>lhs;rw [ah]
   rw [List.map_drop,RP]
  have aj:Sl C 1 (.slice (if c0=j*bp B then c else c.map (·.add (j*bp B*1))) ((j+1)*bp B-j*bp B) (c0-j*bp B)) ((((l.map dB).take ((j+1)*bp B)).drop (j*bp B)).map eh):=by
   rw [fH,<- W];unfold GM;rw [List.map_drop,RP];exact ai
  refine Tb 2 [1,6,11,12,39,40] Z<|TC [(12,3)] Z fun R a=>Tg 4 Z<|Td (bkT g 1) U8<|TL (((j*bp B:Nat):Int)) U4 (Qe _ _) om_ om_ U2<|Te U6<|TL (((j+1:Nat):Int)) U4 om_ om_ om_ U2<|Te U6<|Td (bkT g 1) U8<|TL ((((j+1)*bp B:Nat):Int)) U4 (Qe _ _) om_ om_ U2<|Ud (j*bp B) ((j+1)*bp B) c0 U12 (fun _=>⟨.inr ⟨_,Z⟩,.inr ⟨_,Z⟩,.inl ⟨Z,Z⟩,by omega,by omega,by omega⟩) U2<|D.call (qi _ _ _ aj.m_ aq) Z (.inr dc_) U6 (PC _) fl_ (fun aM _ aN _ ak=>?_);obtain ⟨z,A,cc,rfl,rfl⟩:=ak;refine Tz [[.slice z A cc]] U12 fun aO _ _ an=>D.append (j:=1) U11 an Z ax (by simp only [ba];omega) fl_ fun X=>C6 1 [1,6,11,39,40] a Z<|Tf fun R a=>Tm _ U7<|C6 1 [1,6,11,39,40] a Z<|G.freezeArr 1 ((((l.map dB).take ((j+1)*bp B)).drop (j*bp B)).map eh) rfl rfl (by intro r hr;obtain ⟨y,_,rfl⟩:=PF.1 hr;rfl) (by rw [am]) (fun Cz b Y=>?_);rw [fH,<- W] at Y;refine Tu (L':=[.arr X 41 1 (vs++[Value.slice z A cc]).length ((vs++[Value.slice z A cc]).map fun w=>[w]).flatten]) ap<|Tp (m':=bs B-(j+1)) om_ mup (hn_ [1,6,11,39,40] Z) ⟨j+1,vs++[.slice z A cc],X,⟨by omega,by simp [U],fun i w h=>by
   rcases P4 i vs.length with h1 | h1
   ·rw [Qh h1] at h;exact (V i w h).mono mup
   rw [PX h1] at h;cases o:i-vs.length with
   | zero =>
    rw [o] at h;simp at h;subst h;rw [show i=j by omega];exact Y
   | succ q=>rw [o] at h;simp at h⟩,rfl,rfl,rfl⟩
 have M:j=bs B:=by
  have:=PE L;omega
 have ao:(chunks (bs B) (bp B) l).length=bs B:=by simp [chunks]
 refine Tb 3 [4,5] Z<|G.freezeArr 0 (vs.map fun w=>[w]) rfl rfl (by intro r hr;obtain ⟨y,_,rfl⟩:=PF.1 hr;rfl) (by rw [am]) fun Cg hg ar=>Tn (G.dropAll (TD U3 ?_));refine ⟨Z,_,by rw [b], ?_⟩;rw [aL b];refine ⟨vs,by rw [ao,U,M],fun i w l2 h1 h2=>?_,ar⟩;unfold chunks at h2;rw [PD] at h2;have o:=(aJ.1 h1).1;rw [Qd om_] at h2;simp only [Q3,Qc] at h2;subst h2;exact (V i w h1).mono mup
def dotV (f x:List Rat):Nat->Rat
 | 0=>0
 | n+1=>dotV f x n+f.getD n 0*x.getD n 0
structure DotOk (r:RowQ)(x:List Rat):Prop where
 f:∀ q∈r.f,QB 22 q
 b:QB 22 r.b
 len:r.f.length=x.length
 s:∀ n,QB 2000 (dotV r.f x n)
def sqP:List (Int × Int):=[(0,0),(4,0),(4,4),(0,4)]
def shP:Nat->List (Int × Int)
 | 0=>sqP
 | 1=>sqP
 | 2=>sqP++[(2,1)]
 | 3=>[(0,0),(6,0),(0,4)]
 | 4=>[(0,0),(2,0),(4,0),(0,2),(2,2),(4,2)]
 | 5=>[(1,4),(5,3),(4,0),(0,0)]
 | 6=>sqP++[(2,0)]
 | _=>[(0,0),(6,0),(0,6),(2,2)]
def shT:Nat->List Tri
 | 0=>[(0,1,2),(0,2,3)]
 | 1=>[(0,1,3),(1,2,3)]
 | 2=>[(0,1,4),(1,2,4),(2,3,4),(3,0,4)]
 | 3=>[(2,0,1)]
 | 4=>[(0,1,4),(0,4,3),(1,2,5),(1,5,4)]
 | 5=>[(3,2,1),(3,1,0)]
 | 6=>[(0,4,3),(4,2,3),(4,1,2)]
 | _=>[(0,1,3),(1,2,3),(2,0,3)]
def Pc (p:Int × Int):List Value:=[.int .i64 p.1,.int .i64 p.2]
def ShIn (u:Value)(D:Mem)(m:Nat):Prop:=∃ pv tv,u=.tuple #[pv,tv]/\Sl D 2 pv ((shP m).map Pc)/\Sl D 3 tv ((shT m).map gz)
theorem B7 (C:Mem)(a:Nat)(_H:a<256):Pur cx.P 115 [.int .u8 a] C fun u D=>ShIn u D (a % 8):=by
 have I:a % 8<8:=P2 _ dc_;obtain ⟨m,hm⟩:∃ m,a % 8=m:=⟨_,rfl⟩;refine Tk func115 86 U3 fun w0=>Tb 2 [0] Z<|Tf fun R b=>Tw ([.int .i64 0,.int .i64 0]) U8<|Tw ([.int .i64 4,.int .i64 0]) U8<|Tw ([.int .i64 4,.int .i64 4]) U8<|Tw ([.int .i64 0,.int .i64 4]) U8<|Ub [[.int .i64 0,.int .i64 0],[.int .i64 4,.int .i64 0],[.int .i64 4,.int .i64 4],[.int .i64 0,.int .i64 4]] U12 fl_ fun J _ _ d=>C6 1 [0,4] b Z<|Tc 1 Z fun R b=>TS (a) (8) U6 om_ U2<|Th [4,11] b Z<|Tb 2 [4,11,12] Z<|G.cd (fun f=>?_) fun f=>?_
 ·have c:a % 8=0:=by
   have:=di f;omega
  refine Tc 1 Z fun R b=>Tw ([.int .i64 0,.int .i64 1,.int .i64 2]) U8<|Tw ([.int .i64 0,.int .i64 2,.int .i64 3]) U8<|Tz [[.int .i64 0,.int .i64 1,.int .i64 2],[.int .i64 0,.int .i64 2,.int .i64 3]] U12 fun K _ _ n=>C6 2 [2,3] b Z<|Tn (G.dropAll (TD U3 ?_));exact ⟨Z,by rw [c];exact ⟨_,_,Z,d.mono mup,n.mono mup⟩⟩
 have L:a % 8≠0:=by
  intro e;rw [e] at f;exact absurd f dc_
 refine Tb 2 [4,11,18] Z<|G.cd (fun g=>?_) fun g=>?_
 ·have c:a % 8=1:=by
   have:=di g;omega
  refine Tc 1 Z fun R b=>Tw ([.int .i64 0,.int .i64 1,.int .i64 3]) U8<|Tw ([.int .i64 1,.int .i64 2,.int .i64 3]) U8<|Tz [[.int .i64 0,.int .i64 1,.int .i64 3],[.int .i64 1,.int .i64 2,.int .i64 3]] U12 fun M _ _ o=>C6 2 [2,3] b Z<|Tn (G.dropAll (TD U3 ?_));exact ⟨Z,by rw [c];exact ⟨_,_,Z,d.mono mup,o.mono mup⟩⟩
 have N:a % 8≠1:=by
  intro e;rw [e] at g;exact absurd g dc_
 refine Tb 2 [4,11,24] Z<|G.cd (fun h=>?_) fun h=>?_
 ·have c:a % 8=2:=by
   have:=di h;omega
  refine Tc 1 Z fun R b=>Tw ([.int .i64 2,.int .i64 1]) U8<|Tz [[.int .i64 2,.int .i64 1]] U12 fun O _ _ p=>Vj Z Z Z Z Z Z Z Z Z Z d.m_ p.m_ (.inr dc_) (by simp only [PR,P6,maxLen];omega) dc_ fl_ fun Q _ _ q=>Tw ([.int .i64 0,.int .i64 1,.int .i64 4]) U8<|Tw ([.int .i64 1,.int .i64 2,.int .i64 4]) U8<|Tw ([.int .i64 2,.int .i64 3,.int .i64 4]) U8<|Tw ([.int .i64 3,.int .i64 0,.int .i64 4]) U8<|Tz [[.int .i64 0,.int .i64 1,.int .i64 4],[.int .i64 1,.int .i64 2,.int .i64 4],[.int .i64 2,.int .i64 3,.int .i64 4],[.int .i64 3,.int .i64 0,.int .i64 4]] U12 fun S _ _ r=>C6 2 [2,3] b Z<|Tn (G.dropAll (TD U3 ?_));exact ⟨Z,by rw [c];exact ⟨_,_,Z,q.mono mup,r.mono mup⟩⟩
 have T:a % 8≠2:=by
  intro e;rw [e] at h;exact absurd h dc_
 refine Tb 2 [4,11,35] Z<|G.cd (fun i=>?_) fun i=>?_
 ·have c:a % 8=3:=by
   have:=di i;omega
  refine Tf fun R b=>Tw ([.int .i64 0,.int .i64 0]) U8<|Tw ([.int .i64 6,.int .i64 0]) U8<|Tw ([.int .i64 0,.int .i64 4]) U8<|Tz [[.int .i64 0,.int .i64 0],[.int .i64 6,.int .i64 0],[.int .i64 0,.int .i64 4]] U12 fun U _ _ s=>Tw ([.int .i64 2,.int .i64 0,.int .i64 1]) U8<|Tz [[.int .i64 2,.int .i64 0,.int .i64 1]] U12 fun V _ _ t=>C6 2 [2,3] b Z<|Tn (G.dropAll (TD U3 ?_));exact ⟨Z,by rw [c];exact ⟨_,_,Z,s.mono mup,t.mono mup⟩⟩
 have W:a % 8≠3:=by
  intro e;rw [e] at i;exact absurd i dc_
 refine Tb 2 [4,11,43] Z<|G.cd (fun j=>?_) fun j=>?_
 ·have c:a % 8=4:=by
   have:=di j;omega
  refine Tf fun R b=>Tw ([.int .i64 0,.int .i64 0]) U8<|Tw ([.int .i64 2,.int .i64 0]) U8<|Tw ([.int .i64 4,.int .i64 0]) U8<|Tw ([.int .i64 0,.int .i64 2]) U8<|Tw ([.int .i64 2,.int .i64 2]) U8<|Tw ([.int .i64 4,.int .i64 2]) U8<|Tz [[.int .i64 0,.int .i64 0],[.int .i64 2,.int .i64 0],[.int .i64 4,.int .i64 0],[.int .i64 0,.int .i64 2],[.int .i64 2,.int .i64 2],[.int .i64 4,.int .i64 2]] U12 fun X _ _ v=>Tw ([.int .i64 0,.int .i64 1,.int .i64 4]) U8<|Tw ([.int .i64 0,.int .i64 4,.int .i64 3]) U8<|Tw ([.int .i64 1,.int .i64 2,.int .i64 5]) U8<|Tw ([.int .i64 1,.int .i64 5,.int .i64 4]) U8<|Tz [[.int .i64 0,.int .i64 1,.int .i64 4],[.int .i64 0,.int .i64 4,.int .i64 3],[.int .i64 1,.int .i64 2,.int .i64 5],[.int .i64 1,.int .i64 5,.int .i64 4]] U12 fun Y _ _ w=>C6 2 [2,3] b Z<|Tn (G.dropAll (TD U3 ?_));exact ⟨Z,by rw [c];exact ⟨_,_,Z,v.mono mup,w.mono mup⟩⟩
 have aa:a % 8≠4:=by
  intro e;rw [e] at j;exact absurd j dc_
 refine Tb 2 [4,11,57] Z<|G.cd (fun k=>?_) fun k=>?_
 ·have c:a % 8=5:=by
   have:=di k;omega
  refine Tf fun R b=>Tw ([.int .i64 1,.int .i64 4]) U8<|Tw ([.int .i64 5,.int .i64 3]) U8<|Tw ([.int .i64 4,.int .i64 0]) U8<|Tw ([.int .i64 0,.int .i64 0]) U8<|Tz [[.int .i64 1,.int .i64 4],[.int .i64 5,.int .i64 3],[.int .i64 4,.int .i64 0],[.int .i64 0,.int .i64 0]] U12 fun ab _ _ x=>Tw ([.int .i64 3,.int .i64 2,.int .i64 1]) U8<|Tw ([.int .i64 3,.int .i64 1,.int .i64 0]) U8<|Tz [[.int .i64 3,.int .i64 2,.int .i64 1],[.int .i64 3,.int .i64 1,.int .i64 0]] U12 fun ac _ _ y=>C6 2 [2,3] b Z<|Tn (G.dropAll (TD U3 ?_));exact ⟨Z,by rw [c];exact ⟨_,_,Z,x.mono mup,y.mono mup⟩⟩
 have ad:a % 8≠5:=by
  intro e;rw [e] at k;exact absurd k dc_
 refine Tb 2 [4,67] Z<|G.cd (fun l=>?_) fun l=>?_
 ·have c:a % 8=6:=by
   have:=di l;omega
  refine Tc 1 Z fun R b=>Tw ([.int .i64 2,.int .i64 0]) U8<|Tz [[.int .i64 2,.int .i64 0]] U12 fun ae _ _ z=>Vj Z Z Z Z Z Z Z Z Z Z d.m_ z.m_ (.inr dc_) (by simp only [PR,P6,maxLen];omega) dc_ fl_ fun af _ _ A=>Tw ([.int .i64 0,.int .i64 4,.int .i64 3]) U8<|Tw ([.int .i64 4,.int .i64 2,.int .i64 3]) U8<|Tw ([.int .i64 4,.int .i64 1,.int .i64 2]) U8<|Tz [[.int .i64 0,.int .i64 4,.int .i64 3],[.int .i64 4,.int .i64 2,.int .i64 3],[.int .i64 4,.int .i64 1,.int .i64 2]] U12 fun ag _ _ B=>C6 2 [2,3] b Z<|Tn (G.dropAll (TD U3 ?_));exact ⟨Z,by rw [c];exact ⟨_,_,Z,A.mono mup,B.mono mup⟩⟩
 have ah:a % 8≠6:=by
  intro e;rw [e] at l;exact absurd l dc_
 refine Tf fun R b=>Tw ([.int .i64 0,.int .i64 0]) U8<|Tw ([.int .i64 6,.int .i64 0]) U8<|Tw ([.int .i64 0,.int .i64 6]) U8<|Tw ([.int .i64 2,.int .i64 2]) U8<|Tz [[.int .i64 0,.int .i64 0],[.int .i64 6,.int .i64 0],[.int .i64 0,.int .i64 6],[.int .i64 2,.int .i64 2]] U12 fun ai _ _ E=>Tw ([.int .i64 0,.int .i64 1,.int .i64 3]) U8<|Tw ([.int .i64 1,.int .i64 2,.int .i64 3]) U8<|Tw ([.int .i64 2,.int .i64 0,.int .i64 3]) U8<|Tz [[.int .i64 0,.int .i64 1,.int .i64 3],[.int .i64 1,.int .i64 2,.int .i64 3],[.int .i64 2,.int .i64 0,.int .i64 3]] U12 fun aj _ _ F=>C6 2 [2,3] b Z<|Tn (G.dropAll (TD U3 ?_));exact ⟨Z,by rw [show a % 8=7 by omega];exact ⟨_,_,Z,E.mono mup,F.mono mup⟩⟩
theorem DG (a:-128<=n)(b:n<128):IntKind.i8.wrap n=n:=by
 simp [IntKind.wrap,IntKind.bits,IntKind.signed];omega
theorem NE:∀ m:Nat,∀ p∈shP m,0<=p.1/\p.1<=6/\0<=p.2/\p.2<=6
 | 0=>by decide
 | 1=>by decide
 | 2=>by decide
 | 3=>by decide
 | 4=>by decide
 | 5=>by decide
 | 6=>by decide
 | _+7=>by
  show ∀ p∈([(0,0),(6,0),(0,6),(2,2)]:List (Int × Int)),0<=p.1/\p.1<=6/\0<=p.2/\p.2<=6;decide
theorem El:∀ m:Nat,(shP m).length<=6
 | 0=>by decide
 | 1=>by decide
 | 2=>by decide
 | 3=>by decide
 | 4=>by decide
 | 5=>by decide
 | 6=>by decide
 | _+7=>by
  show ([(0,0),(6,0),(0,6),(2,2)]:List (Int × Int)).length<=6;decide
def df (m:Nat)(a b:Int)(h:Bool):List Pt:=(shP m).map fun p=>dQ a b h p.1 p.2 1
theorem lf (m:Nat)(a b:Int)(h:Bool):(df m a b h).length<=6:=by rw [df,am];exact El m
theorem pT {w:Int}(c:w≠0)(a:z.natAbs<1000000000)(b:w.natAbs<1000000000):QB 1 (mO z w):=by
 unfold mO;refine gT om_ ?_ ?_
 ·show _<B9 ^ 1;split
  ·rw [Sz];exact a
  exact a
 exact b
theorem Ay {a b:Int}{h:Bool}{x y:Int}(g:0<n)(i:n<=4)(j:-128<=x/\x<=127)(k:-128<=y/\y<=127):QP 1 (dQ a b h x y n):=by
 have c:=DZ a;have d:=DZ b;have hh:eN h=1∨eN h=2:=by cases h <;> simp [eN]
 have f:∀ z:Int, -8<z->z<8->-32<z*n/\z*n<32:=fun z h1 h2=>by
  rcases (by omega:n=1∨n=2∨n=3∨n=4) with e | e | e | e <;> subst e <;> omega
 have l:=f _ c.1 c.2;have m:=f _ d.1 d.2;have o:0<eN h*n/\eN h*n<=8:=by rcases hh with e | e <;> rw [e] <;> omega
 exact ⟨pT om_ om_ om_,pT om_ om_ om_⟩
theorem wi (C:Mem)(B:Tabs C)(d:Nat)(a b:Int)(h:Bool)(E:d<256):Pur cx.P 57 [J7 d a b h] C fun u D=>MeshIn D u (df (d % 8) a b h) (shT (d % 8)):=by
 have F:=NE (d % 8);have aa:=El (d % 8);refine Tk func57 42 U3 fun w0=>Tf fun R e=>Tv U6 fun b1=>Tq U5 fun b2=>Th [1,2] e Z<|G.freeze 1 Z fun _ _ t=>Tc 1 Z fun R e=>Td (bkT t 1) U8<|TM (B7 _ d E) U7 (fun ab _ _ H=>?_);obtain ⟨pv,tv,rfl,f,n⟩:=H;obtain ⟨I,J,rfl,K,ac,_⟩:=id f;obtain ⟨At,g,rfl,ad,ae,_⟩:=id n;simp only [am] at f n K ⊢;refine C6 5 [1,2,3,4] e Z<|Tc 1 Z fun R e=>Tw [.slice none 0 0,.slice At (shT (d % 8)).length g] U8<|Tq U5 fun k=>Tj (j:=0) U12<|Th [1,2,3,5] e Z<|Tb 1 [1,2,3,5,6] Z<|G.nilArr 34 2<|G.perm (L':=[.obj k (.cells ⟨[.slice none 0 0,.slice At (shT (d % 8)).length g]⟩ 39 (0,0)),.arr (.slice none 0 0) 34 2 0 [],.obj b2 (.cells ⟨[.slice none 0 0,.slice none 0 0]⟩ 39 (0,0))]) (List.Perm.swap _ _ _)<|G.loop (fun fr C' o L=>∃ (i:Nat)(w:Value),(i<=(shP (d % 8)).length)/\fr=[(1,[],.pointer (some ⟨b1,0,none⟩)),(2,[],.pointer (some ⟨b2,0,none⟩)),(3,[],.slice I (shP (d % 8)).length J),(5,[],.pointer (some ⟨k,0,none⟩)),(6,[],.int .i64 i)]/\o=[.obj k (.cells ⟨[w,.slice At (shT (d % 8)).length g]⟩ 39 (0,0)),.arr w 34 2 ((df (d % 8) a b h).take i).length (((df (d % 8) a b h).take i).map cY).flatten,.obj b2 (.cells ⟨[.slice none 0 0,.slice none 0 0]⟩ 39 (0,0))]/\L=(shP (d % 8)).length-i) (hn_ [1,2,3,5,6] Z) ⟨0,.slice none 0 0,PG _,Z,Z,Z⟩ (fun fr af ah m _ M=>?_);obtain ⟨i,w,hi,rfl,rfl,rfl⟩:=M;refine Tb 4 [1,2,3,5,6,18] Z<|G.cd (fun q=>?_) fun q=>?_
 ·have s:i<(shP (d % 8)).length:=by
   have:=OQ q;omega
  obtain ⟨p,l⟩:∃ p,(shP (d % 8))[i]?=some p:=⟨(shP (d % 8))[i],al s⟩;obtain ⟨ai,aj,ak,an⟩:=F p (Px l);have N:(df (d % 8) a b h)[i]?=some (dQ a b h p.1 p.2 1):=by unfold df;rw [PD,l];rfl
  have O:(df (d % 8) a b h).take (i+1)=(df (d % 8) a b h).take i++[dQ a b h p.1 p.2 1]:=by rw [P0,N];rfl
  have ao:((df (d % 8) a b h).take i).length<=6:=by rw [PM];have:=lf (d % 8) a b h;omega
  refine Tx [0,1,2,3,4,5,6,7,8,9,10,11,12,13,14,15,16,17,18,19,20] [(16,1),(8,0),(14,0)] Z kr_ fun R hB e=>Te U6<|Ti ag U9<|Td (bkT t 4) U8<|Tg 2 Z<|Tt f.m_ U10 om_ (bW l) fl_ fun ap Q=>UP U9 (fun _=>Q) (fun _=>⟨by omega,om_⟩) fl_ Z (fun aq S=>?_);have T:=S trivial;refine Td T U8<|Ul (c:=p.1) U8 (DG om_ om_) U2<|Tg 2 Z<|Tt f.m_ U10 om_ (bW l) fl_ fun ar U=>UP U9 (fun _=>U) (fun _=>⟨by omega,om_⟩) fl_ Z (fun au V=>?_);have W:=V trivial;refine Td W U8<|Ul (c:=p.2) U8 (DG om_ om_) U2<|Tw [.int .i8 p.1,.int .i8 p.2] U8<|TA (fun _=>(AA _ B.m_ d a b h p.1 p.2 1 dc_ dc_ ⟨by omega,by omega⟩ ⟨by omega,by omega⟩)) U9<|Tz [cY (dQ a b h p.1 p.2 1)] U12 fun av _ _ X=>TH (j:=1) U11 X.m_ Z ax (by simp only [ba];omega) fl_ fun v x z=>Te U6<|Tj (j:=1) U12<|Th [1,2,3,5,6] e Z<|Tc 1 Z fun R e=>Tm _ U7<|C6 1 [1,2,3,5,6] e Z<|Tu (L':=[.obj k (.cells ⟨[.slice v x z,.slice At (shT (d % 8)).length g]⟩ 39 (0,0)),.arr (.slice v x z) 34 2 ((df (d % 8) a b h).take (i+1)).length (((df (d % 8) a b h).take (i+1)).map cY).flatten,.obj b2 (.cells ⟨[.slice none 0 0,.slice none 0 0]⟩ 39 (0,0))]) (by rw [O,Qb,Qj,PH];rfl)<|Tp (m':=(shP (d % 8)).length-(i+1)) om_ mup (hn_ [1,2,3,5,6] Z) ⟨i+1,_,om_,Z,Z,Z⟩
 have s:i=(shP (d % 8)).length:=by
  have:=PE q;omega
 have Y:(df (d % 8) a b h).take i=df (d % 8) a b h:=Qg (by rw [s,df,am];exact Py _);rw [Y];refine G.freezeArr 1 ((df (d % 8) a b h).map cY) rfl rfl (by intro r hr;obtain ⟨y,_,rfl⟩:=PF.1 hr;rfl) (by rw [am]) (fun Cg hg A=>?_);obtain ⟨Aw,cw,rfl,_⟩:=id A;refine Tf fun R e=>Ti ag U9<|Tj (j:=1) U12<|Th [2] e Z<|Tn (TY ag U4 ?_);exact ⟨Z,_,_,Z,A,n.mono mup⟩
structure Hts where
 h0:Int
 h1:Int
 h2:Int
 h3:Int
 h4:Int
 h5:Int
 half:Bool
def Ky (H:Hts):List Int:=[H.h0,H.h1,H.h2,H.h3,H.h4,H.h5]
def Og (H:Hts):List Value:=[.int .i8 H.h0,.int .i8 H.h1,.int .i8 H.h2,.int .i8 H.h3,.int .i8 H.h4,.int .i8 H.h5,.bool H.half]
def OP (H:Hts):Prop:=∀ z∈Ky H, -128<=z/\z<=127
def fsK (n:Nat)(H:Hts):List Rat:=(List.range n).map fun i=>mO (((Ky H).getD (i % 6) 0).tmod 20) (eN H.half)
theorem J4 (a:Int):-20<a.tmod 20/\a.tmod 20<20:=by
 have h:(a.tmod 20).natAbs=a.natAbs % 20:=Sf a 20;omega
theorem AW (h:Bool):eN h=1∨eN h=2:=by cases h <;> simp [eN]
theorem pL (n:Nat)(H:Hts):(fsK n H).length=n:=by simp [fsK]
theorem F9 (n:Nat)(H:Hts):∀ q∈fsK n H,QB 1 q:=by
 intro q a;unfold fsK at a;obtain ⟨i,_,rfl⟩:=PF.1 a;have h1:=J4 ((Ky H).getD (i % 6) 0);have h2:=AW H.half;exact pT om_ om_ om_
theorem Mq (H:Hts)(j:Nat)(a:j<6):((Og H).drop j).take 1=[.int .i8 ((Ky H).getD j 0)]:=by
 rcases (by omega:j=0∨j=1∨j=2∨j=3∨j=4∨j=5) with rfl | rfl | rfl | rfl | rfl | rfl <;> rfl
theorem iX (C:Mem)(A:Tabs C)(o B:Value)(n:Nat)(E:Option Addr)(F:Nat)(H:Hts)(I:o=.slice E n F)(S:n<=400)(J:OP H):Pur cx.P 30 [.agg ⟨[o,B]⟩,.agg ⟨Og H⟩] C fun u D=>Sl D 1 u ((fsK n H).map eh):=by
 subst I;obtain ⟨h0,h1,h2,h3,h4,h5,a⟩:=H;have T:maxLen<=9223372036854775807:=by simp [maxLen]
 refine Tk func30 31 U3 fun w0=>Tf fun R b=>Tv U6 fun b2=>Tv U6 fun p=>C6 1 [2,3] b Z<|G.freeze 1 Z fun _ _ K=>G.freeze 0 Z fun _ _ q=>Tf fun R b=>Un [] U12 fl_ fun s=>C6 1 [2,3,5] b Z<|Tb 1 [2,3,5,6] Z<|Tc 1 Z fun R b=>Td (bkT q 1) U8<|Th [2,3,5,6,10] b Z<|G.cut (fun fr L d e=>(True)/\fr=[(2,[],.pointer (some ⟨b2,0,none⟩)),(3,[],.pointer (some ⟨p,0,none⟩)),(5,[],.slice (some ⟨s,0,none⟩) 0 0),(6,[],.int .i64 (eN a))]/\d=[.arr (.slice (some ⟨s,0,none⟩) 0 0) 32 1 0 []]) ?_ (fun fr _ U e _ f=>?_)
 ·refine G.cd (fun g=>?_) fun g=>?_
  ·have h1:a=true:=g;subst h1;refine Tb 1 [2,3,5,6] Z<|Tr 0 (Mem.le.refl _) (hn_ [2,3,5,6] Z) ⟨trivial,Z,Z⟩
  have h1:a=false:=g;subst h1;refine Tr 0 (Mem.le.refl _) (hn_ [2,3,5,6] Z) ⟨trivial,Z,Z⟩
 obtain ⟨_,rfl,rfl⟩:=f;refine Tb 1 [2,3,5,6,7] Z<|G.loop (fun fr L d e=>∃ (i:Nat)(w:Value),(i<=n)/\fr=[(2,[],.pointer (some ⟨b2,0,none⟩)),(3,[],.pointer (some ⟨p,0,none⟩)),(5,[],w),(6,[],.int .i64 (eN a)),(7,[],.int .i64 i)]/\d=[.arr w 32 1 ((fsK n ⟨h0,h1,h2,h3,h4,h5,a⟩).take i).length (((fsK n ⟨h0,h1,h2,h3,h4,h5,a⟩).take i).map eh).flatten]/\e=n-i) (hn_ [2,3,5,6,7] Z) ⟨0,_,PG _,Z,Z,Z⟩ (fun fr V W m _ f=>?_);obtain ⟨i,w,X,rfl,rfl,rfl⟩:=f;refine Tc 2 Z fun R b=>Td (bkT K 1) U8<|C6 2 [2,3,5,6,7,15] b Z<|G.cd (fun h=>?_) fun h=>?_
 ·have k:i<n:=by
   have:=OQ h;omega
  have t:i % 6<6:=P2 _ dc_;obtain ⟨z,l⟩:∃ z,(Ky ⟨h0,h1,h2,h3,h4,h5,a⟩).getD (i % 6) 0=z:=⟨_,rfl⟩;have v:=Mq ⟨h0,h1,h2,h3,h4,h5,a⟩ (i % 6) t;rw [l] at v;have M:z∈Ky ⟨h0,h1,h2,h3,h4,h5,a⟩:=by
   rw [<- l,ay,al (show i % 6<(Ky ⟨h0,h1,h2,h3,h4,h5,a⟩).length from t),QQ];exact Qq _
  have Y:=J z M;have aa:=J4 z;have ab:=AW a;have N:(fsK n ⟨h0,h1,h2,h3,h4,h5,a⟩).take (i+1)=(fsK n ⟨h0,h1,h2,h3,h4,h5,a⟩).take i++[mO (z.tmod 20) (eN a)]:=by
   rw [P0,show (fsK n ⟨h0,h1,h2,h3,h4,h5,a⟩)[i]?=some (mO (z.tmod 20) (eN a)) by unfold fsK;rw [PD,Qd k,<- l];rfl];rfl
  have ac:((fsK n ⟨h0,h1,h2,h3,h4,h5,a⟩).take i).length<=400:=by rw [PM,pL];omega
  refine Tc 2 Z fun R b=>TS (i) (6) U6 om_ U2<|Te U6<|Ty ((i % 6)) U9 (fun _=>⟨by omega,by omega,(by show i % 6=0+(i % 6)*1;omega)⟩) U2<|Uv (PtrTo.blockT (Mem.get q mup) (i % 6) 1) U6 (show cH _ (((Og ⟨h0,h1,h2,h3,h4,h5,a⟩).drop (i % 6)).take 1)=some (.int .i8 z) from by rw [v];rfl) Z<|TR (c:=z) U8 (wrap_i64 om_ om_) fl_<|Uo (z.tmod 20) U6 dc_ U3<|Te U6<|Ts (N7 _ A.m_ (z.tmod 20) (eN a) om_ om_ om_) U7 fl_<|Tz [eh (mO (z.tmod 20) (eN a))] U12 fun ad _ _ O=>D.append (j:=0) U11 O Z ax (by simp only [ba];omega) fl_ fun x=>C6 1 [2,3,5,6,7] b Z<|Tc 1 Z fun R b=>Tm _ U7<|C6 1 [2,3,5,6,7] b Z<|Tu (L':=[.arr x 32 1 ((fsK n ⟨h0,h1,h2,h3,h4,h5,a⟩).take (i+1)).length (((fsK n ⟨h0,h1,h2,h3,h4,h5,a⟩).take (i+1)).map eh).flatten]) (by rw [N,Qb,Qj,PH];rfl)<|Tp (m':=n-(i+1)) om_ mup (hn_ [2,3,5,6,7] Z) ⟨i+1,x,om_,Z,Z,Z⟩
 have k:i=n:=by
  have:=PE h;omega
 rw [show (fsK n ⟨h0,h1,h2,h3,h4,h5,a⟩).take i=fsK n ⟨h0,h1,h2,h3,h4,h5,a⟩ from Qg (by rw [k,pL];exact Py _)];exact Tb 2 [4] Z<|G.freezeArr 0 ((fsK n ⟨h0,h1,h2,h3,h4,h5,a⟩).map eh) rfl rfl (by intro r hr;obtain ⟨y,_,rfl⟩:=PF.1 hr;rfl) (by rw [am]) fun Cg hg Q=>Tl U2<|⟨Z,Q⟩
structure Sgt where
 kind:Nat
 px:Int
 py:Int
 u0:Nat
 u1:Nat
 depth:Nat
 n0:Int
 n1:Int
 n2:Int
def Nb (s:Sgt):List Value:=[.int .u8 s.kind,.int .i8 s.px,.int .i8 s.py,.int .u8 s.u0,.int .u8 s.u1,.int .u8 s.depth,.int .i8 s.n0,.int .i8 s.n1,.int .i8 s.n2]
structure SgtR (s:Sgt):Prop where
 kind:s.kind<256
 px:-128<=s.px/\s.px<=127
 py:-128<=s.py/\s.py<=127
 u0:s.u0<256
 u1:s.u1<256
 depth:s.depth<256
 n0:-128<=s.n0/\s.n0<=127
 n1:-128<=s.n1/\s.n1<=127
 n2:-128<=s.n2/\s.n2<=127
structure Sht where
 kd:Nat
 a:Int
 b:Int
 h:Bool
def LW (S:Sht)(H:Hts)(sv:Value):List Value:=[.int .u8 S.kd,.int .i8 S.a,.int .i8 S.b,.bool S.h,.int .i8 H.h0,.int .i8 H.h1,.int .i8 H.h2,.int .i8 H.h3,.int .i8 H.h4,.int .i8 H.h5,.bool H.half,sv]
def qT (i:Nat):Str:=[UInt8.ofNat (65+i)]
def xx (S:Sht)(s:Sgt):Pt :=
 if nt (df (S.kd % 8) S.a S.b S.h) (shT (S.kd % 8)) (dQ S.a S.b S.h s.px s.py 2)≠[] then dQ S.a S.b S.h s.px s.py 2
 else (df (S.kd % 8) S.a S.b S.h).getD (s.depth % (df (S.kd % 8) S.a S.b S.h).length) (0,0)
def pE (z:Int):Int:=if z.tmod 5=0 then 1 else z.tmod 5
def loU (s:Sgt):Nat:=if s.u0 % 3=s.u1 % 3 then 0 else s.u0 % 3
def upU (s:Sgt):Nat:=if s.u0 % 3=s.u1 % 3 then 1+s.u1 % 3 % 2 else s.u1 % 3
def xy (S:Sht)(s:Sgt)(i:Nat):Obs :=
 if s.kind % 3=0 then ⟨1,[111,UInt8.ofNat (49+i)],qtx (xx S s).1,qtx (xx S s).2,[],qT (s.u1 % 3),[],[],[],[]⟩
 else if s.kind % 3=1 then ⟨2,[111,UInt8.ofNat (49+i)],qtx (xx S s).1,qtx (xx S s).2,qtx (mO (s.depth % 12:Nat) 2),qT (max (loU s) (upU s)),qT (min (loU s) (upU s)),[],[],[]⟩
 else ⟨3,[111,UInt8.ofNat (49+i)],qtx (xx S s).1,qtx (xx S s).2,[],qT (max (loU s) (upU s)),qT (min (loU s) (upU s)),qtx ((s.n0.tmod 5:Int):Rat),qtx ((s.n1.tmod 5:Int):Rat),qtx ((pE s.n2:Int):Rat)⟩
theorem wrap_u8 (a:0<=n)(b:n<256):IntKind.u8.wrap n=n:=by
 simp only [IntKind.wrap,IntKind.bits,IntKind.signed];simp;omega
theorem mH (i:Nat)(a:i<6):([[.int .u8 111],[.int .u8 (49+(i:Int))]]:List (List Value))=(([111,UInt8.ofNat (49+i)]:Str).map fun b=>[.int .u8 b.toNat]):=by
 rcases (by omega:i=0∨i=1∨i=2∨i=3∨i=4∨i=5) with rfl | rfl | rfl | rfl | rfl | rfl <;> rfl
theorem AU (j:Nat)(a:j<3):(([ah [65],ah [66],ah [67]]:List Value).drop j).take 1=[ah (qT j)]:=by
 rcases (by omega:j=0∨j=1∨j=2) with rfl | rfl | rfl <;> rfl
theorem xS:∀ m:Nat,0<(shP m).length
 | 0=>by decide
 | 1=>by decide
 | 2=>by decide
 | 3=>by decide
 | 4=>by decide
 | 5=>by decide
 | 6=>by decide
 | _+7=>by
  show 0<([(0,0),(6,0),(0,6),(2,2)]:List (Int × Int)).length;decide
theorem vj (a:Int):-5<a.tmod 5/\a.tmod 5<5:=by
 have h:(a.tmod 5).natAbs=a.natAbs % 5:=Sf a 5;omega
theorem Oc (s:Sgt):loU s<=2:=by unfold loU;split <;> omega
theorem Ns (s:Sgt):upU s<=2:=by unfold upU;split <;> omega
theorem NX {p:Pt}(h:QP 1 p):QP 23 p/\PtR p:=⟨⟨h.1.le dc_,h.2.le dc_⟩,bC (h.1.le dc_),bC (h.2.le dc_)⟩
theorem qQ (C:Mem)(r:Tabs C)(S:Sht)(s:Sgt)(H:Hts)(sv:Value)(i:Nat)(U:i<6)(hk:S.kd<256)(q:SgtR s)(hG:Good (df (S.kd % 8) S.a S.b S.h) (shT (S.kd % 8))) :
  Pur cx.P 58 [.agg ⟨LW S H sv⟩,.agg ⟨Nb s⟩,.int .i64 i] C fun u _D=>u=.agg ⟨lP (xy S s i)⟩:=by
 have aE:=q.kind;have aG:=q.u0;have aH:=q.u1;have aI:=q.depth;have aJ:=vj s.n0;have aK:=vj s.n1;have aM:=vj s.n2;have an:=Oc s;have ao:=Ns s;have ap:QP 1 (dQ S.a S.b S.h s.px s.py 2):=Ay dc_ dc_ q.px q.py;obtain ⟨aq,ar⟩:=NX ap;obtain ⟨lo,v⟩:∃ n,loU s=n:=⟨_,rfl⟩;obtain ⟨up,w⟩:∃ n,upU s=n:=⟨_,rfl⟩;obtain ⟨p,x⟩:∃ p,xx S s=p:=⟨_,rfl⟩;obtain ⟨t,E⟩:∃ z,pE s.n2=z:=⟨_,rfl⟩;have aN:-5<t/\t<5:=by rw [<- E];unfold pE;split <;> omega
 rw [v] at an;rw [w] at ao;have af:0<(df (S.kd % 8) S.a S.b S.h).length:=by rw [df,am];exact xS _
 have aO:=lf (S.kd % 8) S.a S.b S.h;refine Tk func58 129 U3 fun w0=>Tf fun R d=>Tv U6 fun b3=>Tv U6 fun y=>Tq U5 fun g=>Th [2,3,4,6] d Z<|G.freeze 2 Z fun _ _ aj=>G.freeze 1 Z fun _ _ k=>Tc 1 Z fun R d=>Td (bkT aj 4) U8<|TM (wi _ r.m_ S.kd S.a S.b S.h hk) U7 (fun aP _ _ V=>?_);obtain ⟨v1,v2,rfl,W,au⟩:=id V.ex;obtain ⟨A1,c1,rfl,av,aQ,_⟩:=id W;obtain ⟨A2,c2,rfl,_,_,_⟩:=id au;simp only [am] at W av V ⊢;refine Tq U5 fun b7=>Tj (j:=0) U12<|Th [2,3,4,6,7] d Z<|G.freeze 0 Z fun _ _ X=>G.cut (fun fr F l m=>∃ (f:Nat),(True)/\fr=[(4,[],.pointer (some ⟨y,0,none⟩)),(6,[],.pointer (some ⟨g,0,none⟩)),(7,[],.pointer (some ⟨b7,0,none⟩)),(8,[],.pointer (some ⟨f,0,none⟩))]/\l=[.obj f (.cells ⟨[.int .i64 (1+((s.kind % 3:Nat):Int)),ah [111,UInt8.ofNat (49+i)],ah (qtx (dQ S.a S.b S.h s.px s.py 2).1),ah (qtx (dQ S.a S.b S.h s.px s.py 2).2),ah [],ah [],ah [],ah [],ah [],ah []]⟩ 126 (0,0)),.obj g (.cells ⟨[.int .i64 0,ah [],ah [],ah [],ah [],ah [],ah [],ah [],ah [],ah []]⟩ 126 (0,0))]) ?_ (fun fr aR aS m aT o=>?_)
 ·refine TX (.cut [0,1,2,3,4,5,6,7,10,11,12,13,14] (.alt 8 (.cut [] (.alt 9 (.fin [15,16,17]) (.alt 16 (.fin [9,15,17]) .stop))) (.alt 16 (.fin [8,9,15,17]) .stop))) [(14,1),(3,0),(6,0)] U2 kr_ fun R I d J=>Te U6<|Td (bkT k 1) U8<|TS (s.kind) (3) U6 om_ U2<|Ul (c:=((s.kind % 3:Nat):Int)) U8 (wrap_i64 om_ om_) U2<|Tm _ U7<|Te U6<|Ul (c:=(i:Int)) U8 (wrap_u8 om_ om_) U2<|D.int ((49+(i:Int))) U4 (wrap_u8 om_ om_) U2<|Te U6<|Td (bkT aj 4) U8<|Te U6<|Td (bkT k 2) U8<|TA (fun _=>(AA _ r.m_ S.kd S.a S.b S.h s.px s.py 2 dc_ dc_ q.px q.py)) U9<|TP J Z ⟨?_, ?_,trivial⟩
  ·refine Tz [[.int .u8 111],[.int .u8 (49+(i:Int))]] U12 fun aw ax _ K=>TP J Z ⟨?_, ?_,trivial⟩
   ·exact UH (show Sl _ 1 _ (([111,UInt8.ofNat (49+i)]:Str).map fun b=>[.int .u8 b.toNat]) from by rw [<- mH i U];exact K.mono mup) U11 fl_<|Tw [.int .i64 (1+((s.kind % 3:Nat):Int)),ah [111,UInt8.ofNat (49+i)],ah (qtx (dQ S.a S.b S.h s.px s.py 2).1),ah (qtx (dQ S.a S.b S.h s.px s.py 2).2),ah [],ah [],ah [],ah [],ah [],ah []] U8<|Tq U5 fun f=>Tj (j:=0) U12<|Th [4,6,7,8] d Z<|Tr 0 mup (hn_ [4,6,7,8] Z) ⟨f,trivial,Z,Z⟩
   exact Tq U5 fun f=>UH (show Sl _ 1 _ (([111,UInt8.ofNat (49+i)]:Str).map fun b=>[.int .u8 b.toNat]) from by rw [<- mH i U];exact K.mono mup) U11 fl_<|Tw [.int .i64 (1+((s.kind % 3:Nat):Int)),ah [111,UInt8.ofNat (49+i)],ah (qtx (dQ S.a S.b S.h s.px s.py 2).1),ah (qtx (dQ S.a S.b S.h s.px s.py 2).2),ah [],ah [],ah [],ah [],ah [],ah []] U8<|Tj (j:=0) U12<|Th [4,6,7,8] d Z<|Tr 0 mup (hn_ [4,6,7,8] Z) ⟨f,trivial,Z,Z⟩
  exact Tq U5 fun f=>Tz [[.int .u8 111],[.int .u8 (49+(i:Int))]] U12 fun aw ax _ K=>UH (show Sl _ 1 _ (([111,UInt8.ofNat (49+i)]:Str).map fun b=>[.int .u8 b.toNat]) from by rw [<- mH i U];exact K.mono mup) U11 fl_<|Tw [.int .i64 (1+((s.kind % 3:Nat):Int)),ah [111,UInt8.ofNat (49+i)],ah (qtx (dQ S.a S.b S.h s.px s.py 2).1),ah (qtx (dQ S.a S.b S.h s.px s.py 2).2),ah [],ah [],ah [],ah [],ah [],ah []] U8<|Tj (j:=0) U12<|Th [4,6,7,8] d Z<|Tr 0 mup (hn_ [4,6,7,8] Z) ⟨f,trivial,Z,Z⟩
 obtain ⟨f,_,rfl,rfl⟩:=o;refine Tf fun R d=>Td (bkT X 2) U8<|Te U6<|Ti ag U9<|To (pY _ r.m_ _ _ _ (dQ S.a S.b S.h s.px s.py 2) V.m_ hG aq ar) U7<|C6 5 [4,6,7,8,9] d Z<|Tb 2 [4,6,7,8,42] Z<|G.cut (fun fr F l m=>(True)/\fr=[(4,[],.pointer (some ⟨y,0,none⟩)),(6,[],.pointer (some ⟨g,0,none⟩)),(8,[],.pointer (some ⟨f,0,none⟩))]/\l=[.obj f (.cells ⟨[.int .i64 (1+((s.kind % 3:Nat):Int)),ah [111,UInt8.ofNat (49+i)],ah (qtx p.1),ah (qtx p.2),ah [],ah [],ah [],ah [],ah [],ah []]⟩ 126 (0,0)),.obj g (.cells ⟨[.int .i64 0,ah [],ah [],ah [],ah [],ah [],ah [],ah [],ah [],ah []]⟩ 126 (0,0))]) ?_ (fun fr _ aU m _ o=>?_)
 ·refine G.cd (fun Y=>?_) fun Y=>?_
  ·have az:nt (df (S.kd % 8) S.a S.b S.h) (shT (S.kd % 8)) (dQ S.a S.b S.h s.px s.py 2)=[]:=by simpa using Y
   have ak:s.depth % (df (S.kd % 8) S.a S.b S.h).length<(df (S.kd % 8) S.a S.b S.h).length:=P2 _ af;have aa:p=(df (S.kd % 8) S.a S.b S.h)[s.depth % (df (S.kd % 8) S.a S.b S.h).length]:=by
    rw [<- x,xx,aF (by rw [az];simp),ay,al ak,QQ]
   have hp:(df (S.kd % 8) S.a S.b S.h)[s.depth % (df (S.kd % 8) S.a S.b S.h).length]?=some p:=by rw [aa];exact al ak
   refine Tx [0,1,2,3,4,5,6,7,8,9,10,11,12] [(4,0)] Z kr_ fun R I d=>Te U6<|Td (bkT X 1) U8<|Te U6<|Td (bkT k 1) U8<|Ul (c:=(s.depth:Int)) U8 (wrap_i64 om_ om_) U2<|Te U6<|Td (bkT X 1) U8<|Te U6<|TS (s.depth) ((df (S.kd % 8) S.a S.b S.h).length) U6 af U2<|Tt W.m_ U10 om_ (bW hp) fl_ fun aV aA=>Td aA U8<|Te U6<|Tj (j:=0) U12<|Th [4,6,8] d Z<|Tr 0 (Mem.le.refl _) (hn_ [4,6,8] Z) ⟨trivial,Z,Z⟩
  have aB:nt (df (S.kd % 8) S.a S.b S.h) (shT (S.kd % 8)) (dQ S.a S.b S.h s.px s.py 2)≠[]:=by simpa using Y
  have aa:p=dQ S.a S.b S.h s.px s.py 2:=by rw [<- x,xx,aL aB]
  subst aa;refine Tr 0 (Mem.le.refl _) (hn_ [4,6,8] Z) ⟨trivial,Z,Z⟩
 obtain ⟨_,rfl,rfl⟩:=o;refine Tf fun R d=>Tw ([ah [65],ah [66],ah [67]]) U8<|Tq U5 fun aC=>Tj (j:=0) U12<|Th [4,6,8,11] d Z<|G.freeze 0 Z fun _ _ L=>Tx [0,1,2,3,4,5,6,7,8,9,10,11] [(4,0),(9,0)] Z kr_ fun R I d=>Te U6<|Ty (3) U9 ai U2<|Td (bkT k 1) U8<|TS (s.u0) (3) U6 om_ U2<|Ul (c:=((s.u0 % 3:Nat):Int)) U8 (wrap_i64 om_ om_) U2<|Te U6<|Ty (4) U9 ai U2<|Td (bkT k 1) U8<|TS (s.u1) (3) U6 om_ U2<|Ul (c:=((s.u1 % 3:Nat):Int)) U8 (wrap_i64 om_ om_) U2<|C6 2 [4,6,8,11,12,13] d Z<|Tc 1 Z fun R d=>Ti ag U9<|C6 1 [4,6,8,11,12,13,68] d Z<|G.cd (fun M=>?_) fun M=>?_
 ·have A:s.kind % 3=0:=by
   have:=di M;omega
  refine Tc 1 Z fun R d=>Ty ((s.u1 % 3)) U9 (fun _=>⟨by omega,by omega,(by show s.u1 % 3=0+(s.u1 % 3)*1;omega)⟩) U2<|Uv (PtrTo.blockT (Mem.get L mup) (s.u1 % 3) 1) U6 (show cH _ ((([ah [65],ah [66],ah [67]]:List Value).drop (s.u1 % 3)).take 1)=some (ah (qT (s.u1 % 3))) from by rw [AU _ om_];rfl) Z<|Te U6<|Tj (j:=0) U12<|Th [6,8] d Z<|Tf fun R d=>Ti ag U9<|Tj (j:=1) U12<|Th [6] d Z<|Tn (TY ag U4 ?_);exact ⟨Z,by unfold xy;rw [aL A,x,A];rfl⟩
 have A:¬ s.kind % 3=0:=by
  intro e;rw [e] at M;exact absurd M dc_
 refine Tb 3 [4,6,8,11,12,13,76] Z<|G.cut (fun fr F l m=>(True)/\fr=[(4,[],.pointer (some ⟨y,0,none⟩)),(6,[],.pointer (some ⟨g,0,none⟩)),(8,[],.pointer (some ⟨f,0,none⟩)),(11,[],.pointer (some ⟨aC,0,none⟩)),(12,[],.int .i64 (lo:Nat)),(13,[],.int .i64 (up:Nat))]/\l=[.obj f (.cells ⟨[.int .i64 (1+((s.kind % 3:Nat):Int)),ah [111,UInt8.ofNat (49+i)],ah (qtx p.1),ah (qtx p.2),ah [],ah [],ah [],ah [],ah [],ah []]⟩ 126 (0,0)),.obj g (.cells ⟨[.int .i64 0,ah [],ah [],ah [],ah [],ah [],ah [],ah [],ah [],ah []]⟩ 126 (0,0))]) ?_ (fun fr _ aW m _ o=>?_)
 ·refine G.cd (fun N=>?_) fun N=>?_
  ·have B:s.u0 % 3=s.u1 % 3:=by
    have:=di N;omega
   have ab:lo=0:=by rw [<- v,loU,aL B]
   have ac:up=1+s.u1 % 3 % 2:=by rw [<- w,upU,aL B]
   subst ab;subst ac;refine Tc 1 Z fun R d=>TS ((s.u1 % 3)) (2) U6 om_ U2<|Tm _ U7<|C6 2 [4,6,8,11,12,13] d Z<|Tr 0 (Mem.le.refl _) (hn_ [4,6,8,11,12,13] Z) ⟨trivial,Z,Z⟩
  have B:¬ s.u0 % 3=s.u1 % 3:=by
   intro e;rw [e,beq_self_eq_true] at N;exact absurd N dc_
  have ab:lo=s.u0 % 3:=by rw [<- v,loU,aF B]
  have ac:up=s.u1 % 3:=by rw [<- w,upU,aF B]
  subst ab;subst ac;refine Tr 0 (Mem.le.refl _) (hn_ [4,6,8,11,12,13] Z) ⟨trivial,Z,Z⟩
 obtain ⟨_,rfl,rfl⟩:=o;refine G.cut (fun fr F l m=>(True)/\fr=[(4,[],.pointer (some ⟨y,0,none⟩)),(6,[],.pointer (some ⟨g,0,none⟩)),(8,[],.pointer (some ⟨f,0,none⟩))]/\l=[.obj f (.cells ⟨[.int .i64 (1+((s.kind % 3:Nat):Int)),ah [111,UInt8.ofNat (49+i)],ah (qtx p.1),ah (qtx p.2),ah [],ah (qT (max lo up)),ah (qT (min lo up)),ah [],ah [],ah []]⟩ 126 (0,0)),.obj g (.cells ⟨[.int .i64 0,ah [],ah [],ah [],ah [],ah [],ah [],ah [],ah [],ah []]⟩ 126 (0,0))]) ?_ (fun fr aX aY m aZ o=>?_)
 ·refine TX (.cut [0,1,2,3,4,5,6,7,8,10] (.alt 9 (.fin [11,12,13]) (.alt 11 (.fin [9,12,13]) .stop))) [] U2 kr_ fun R I d J=>Tg 2 Z<|D.max (((max lo up:Nat):Int)) U6 om_ U2<|Ty ((max lo up)) U9 (fun _=>⟨by omega,by omega,(by show max lo up=0+(max lo up)*1;omega)⟩) U2<|Uv (PtrTo.blockT (Mem.get L mup) (max lo up) 1) U6 (show cH _ ((([ah [65],ah [66],ah [67]]:List Value).drop (max lo up)).take 1)=some (ah (qT (max lo up))) from by rw [AU _ om_];rfl) Z<|Tg 2 Z<|D.min (((min lo up:Nat):Int)) U6 om_ U2<|Ty ((min lo up)) U9 (fun _=>⟨by omega,by omega,(by show min lo up=0+(min lo up)*1;omega)⟩) U2<|Te U6<|TP J Z ⟨?_, ?_,trivial⟩
  ·exact Uv (PtrTo.blockT (Mem.get L mup) (min lo up) 1) U6 (show cH _ ((([ah [65],ah [66],ah [67]]:List Value).drop (min lo up)).take 1)=some (ah (qT (min lo up))) from by rw [AU _ om_];rfl) Z<|Tj (j:=0) U12<|Te U6<|Tj (j:=0) U12<|Th [4,6,8] d Z<|Tr 0 mup (hn_ [4,6,8] Z) ⟨trivial,Z,Z⟩
  exact Tj (j:=0) U12<|Uv (PtrTo.blockT (Mem.get L mup) (min lo up) 1) U6 (show cH _ ((([ah [65],ah [66],ah [67]]:List Value).drop (min lo up)).take 1)=some (ah (qT (min lo up))) from by rw [AU _ om_];rfl) Z<|Te U6<|Tj (j:=0) U12<|Th [4,6,8] d Z<|Tr 0 mup (hn_ [4,6,8] Z) ⟨trivial,Z,Z⟩
 obtain ⟨_,rfl,rfl⟩:=o;refine Tc 1 Z fun R d=>Ti ag U9<|C6 1 [4,6,8,94] d Z<|G.cd (fun O=>?_) fun O=>?_
 ·have Q:s.kind % 3=1:=by
   have:=di O;omega
  refine Tc 1 Z fun R d=>Td (bkT k 1) U8<|TS (s.depth) (12) U6 om_ U2<|TR (c:=((s.depth % 12:Nat):Int)) U8 (wrap_i64 om_ om_) fl_<|Ts (EA _ r.m_ ((s.depth % 12:Nat):Int) 2 om_ om_ om_) U7 fl_<|Tg 4 Z<|Tj (j:=0) U12<|Th [6,8] d Z<|Tf fun R d=>Ti ag U9<|Tj (j:=1) U12<|Th [6] d Z<|Tn (TY ag U4 ?_);exact ⟨Z,by unfold xy;rw [aF A,aL Q,x,v,w,Q];rfl⟩
 have Q:¬ s.kind % 3=1:=by
  intro e;rw [e] at O;exact absurd O dc_
 have aD:s.kind % 3=2:=by omega
 refine Tc 1 Z fun R d=>Ty (8) U9 ai U2<|Td (bkT k 1) U8<|Uo (s.n2.tmod 5) U6 dc_ U3<|TR (c:=(s.n2.tmod 5)) U8 (wrap_i64 om_ om_) fl_<|C6 1 [4,6,8,14] d Z<|Tb 2 [4,6,8,14,111] Z<|G.cut (fun fr F l m=>(True)/\fr=[(4,[],.pointer (some ⟨y,0,none⟩)),(6,[],.pointer (some ⟨g,0,none⟩)),(8,[],.pointer (some ⟨f,0,none⟩)),(14,[],.int .i64 t)]/\l=[.obj f (.cells ⟨[.int .i64 (1+((s.kind % 3:Nat):Int)),ah [111,UInt8.ofNat (49+i)],ah (qtx p.1),ah (qtx p.2),ah [],ah (qT (max lo up)),ah (qT (min lo up)),ah [],ah [],ah []]⟩ 126 (0,0)),.obj g (.cells ⟨[.int .i64 0,ah [],ah [],ah [],ah [],ah [],ah [],ah [],ah [],ah []]⟩ 126 (0,0))]) ?_ (fun fr _ a0 m _ o=>?_)
 ·refine G.cd (fun T=>?_) fun T=>?_
  ·have ad:s.n2.tmod 5=0:=di T;have ae:t=1:=by rw [<- E,pE,aL ad]
   subst ae;refine Tb 1 [4,6,8,14] Z<|Tr 0 (Mem.le.refl _) (hn_ [4,6,8,14] Z) ⟨trivial,Z,Z⟩
  have ad:¬ s.n2.tmod 5=0:=by
   intro e;rw [e] at T;exact absurd T dc_
  have ae:t=s.n2.tmod 5:=by rw [<- E,pE,aF ad]
  subst ae;refine Tr 0 (Mem.le.refl _) (hn_ [4,6,8,14] Z) ⟨trivial,Z,Z⟩
 obtain ⟨_,rfl,rfl⟩:=o;refine Tx [0,1,2,3,4,5,6,7,8,9,10,11,12,13,14,15,16] [(5,1),(11,1),(13,1),(4,0),(10,0)] Z kr_ fun R I d=>Te U6<|Ty (6) U9 ai U2<|Td (bkT k 1) U8<|Uo (s.n0.tmod 5) U6 dc_ U3<|Ul (c:=(s.n0.tmod 5)) U8 (wrap_i64 om_ om_) U2<|TA (fun _=>(sX _ r.m_ (s.n0.tmod 5) om_)) U9<|Te U6<|Ty (7) U9 ai U2<|Td (bkT k 1) U8<|Uo (s.n1.tmod 5) U6 dc_ U3<|Ul (c:=(s.n1.tmod 5)) U8 (wrap_i64 om_ om_) U2<|TA (fun _=>(sX _ r.m_ (s.n1.tmod 5) om_)) U9<|Te U6<|TA (fun _=>(sX _ r.m_ t om_)) U9<|Tw [ah (qtx ((s.n0.tmod 5:Int):Rat)),ah (qtx ((s.n1.tmod 5:Int):Rat)),ah (qtx ((t:Int):Rat))] U8<|Te U6<|Tj (j:=0) U12<|Th [6,8] d Z<|Tf fun R d=>Ti ag U9<|Tj (j:=1) U12<|Th [6] d Z<|Tn (TY ag U4 ?_);exact ⟨Z,by unfold xy;rw [aF A,aF Q,x,v,w,E,aD];rfl⟩
def N8:Sgt:=⟨0,0,0,0,0,0,0,0,0⟩
def colK:List Lay:=[⟨[65],0,none⟩,⟨[66],0,some 5⟩,⟨[67],1,none⟩]
theorem Ih:qtx 5=[53]:=by
 show qtx ((5:Int):Rat)=_;rw [mF];decide +kernel
theorem Jz:colK.map lQ=[[ah [65],ah [48],ah []],[ah [66],ah [48],ah [53]],[ah [67],ah [49],ah []]]:=by
 simp only [colK,List.map,lQ,uR,qtx_zero,dG,Ih]
def rI (S:Sht)(l:List Sgt):List Obs:=(List.range (min l.length 6)).map fun i=>xy S (l.getD i N8) i
def bx (S:Sht)(H:Hts)(l:List Sgt):Bk:=⟨df (S.kd % 8) S.a S.b S.h,shT (S.kd % 8),(fsK (df (S.kd % 8) S.a S.b S.h).length H).map qtx,colK,rI S l⟩
theorem jB (S:Sht)(l:List Sgt):(rI S l).length=min l.length 6:=by simp [rI]
theorem Fc (S:Sht){l:List Sgt}{s:Sgt}(h:l[i]?=some s)(a:i<6):(rI S l)[i]?=some (xy S s i):=by
 have h1:=(aJ.1 h).1;rw [rI,PD,Qd om_];show some (xy S (l.getD i N8) i)=_;rw [ay,h];rfl
theorem Ft (C:Mem)(q:Tabs C)(S:Sht)(H:Hts)(U:Value)(l:List Sgt)(V:S.kd<256)(z:OP H)(K:Sl C 9 U (l.map Nb))(hs:∀ s∈l,SgtR s)(hG:Good (df (S.kd % 8) S.a S.b S.h) (shT (S.kd % 8))) :
  Pur cx.P 12 [.agg ⟨LW S H U⟩] C fun u D=>BookIn D u (bx S H l):=by
 obtain ⟨As,cs,rfl,ae,ar,_⟩:=id K;have au:maxLen<=9223372036854775807:=by simp [maxLen]
 simp only [am] at K ae ⊢;have av:=lf (S.kd % 8) S.a S.b S.h;refine Tk func12 44 U3 fun w0=>Tf fun R f=>Tv U6 fun b1=>Tq U5 fun b2=>Th [1,2] f Z<|G.freeze 1 Z fun _ _ A=>Tc 1 Z fun R f=>Td (bkT A 4) U8<|TM (wi _ q.m_ S.kd S.a S.b S.h V) U7 (fun v8 _ _ W=>?_);obtain ⟨v1,v2,rfl,L,M⟩:=id W.ex;obtain ⟨k,n,rfl,af,aw,_⟩:=id L;obtain ⟨A2,c2,rfl,_,_,_⟩:=id M;simp only [am] at L M af W ⊢;refine Tq U5 fun b3=>Tj (j:=0) U12<|Th [1,2,3] f Z<|G.freeze 0 Z fun _ _ X=>G.cut (fun fr N B O=>∃ (c:Option Addr)(d:Nat)(v:Value)(g:Nat),(Sl N 1 (.slice c (fsK (df (S.kd % 8) S.a S.b S.h).length H).length d) ((fsK (df (S.kd % 8) S.a S.b S.h).length H).map eh)/\Sl N 3 v [[ah [65],ah [48],ah []],[ah [66],ah [48],ah [53]],[ah [67],ah [49],ah []]])/\fr=[(1,[],.pointer (some ⟨b1,0,none⟩)),(2,[],.pointer (some ⟨b2,0,none⟩)),(4,[],.pointer (some ⟨g,0,none⟩))]/\B=[.obj g (.cells ⟨[.slice k (df (S.kd % 8) S.a S.b S.h).length n,.slice A2 (shT (S.kd % 8)).length c2,.slice c (fsK (df (S.kd % 8) S.a S.b S.h).length H).length d,v,.slice none 0 0]⟩ 45 (0,0)),.obj b2 (.cells ⟨[.slice none 0 0,.slice none 0 0,.slice none 0 0,.slice none 0 0,.slice none 0 0]⟩ 45 (0,0))]) ?_ (fun fr ay az O aA Q=>?_)
 ·refine TX (.cut [0,1,2,3,5,6,7] (.alt 4 (.cut [] (.alt 8 (.fin [9,10,11]) (.alt 10 (.fin [8,9,11]) .stop))) (.alt 8 (.cut [] (.alt 4 (.fin [9,10,11]) (.alt 10 (.fin [4,9,11]) .stop))) (.alt 10 (.cut [] (.alt 4 (.fin [8,9,11]) (.alt 8 (.fin [4,9,11]) .stop))) .stop)))) [] U2 kr_ fun R hB f E=>Td (bkT X 2) U8<|Td (bkT X 2) U8<|Te U6<|Td (bkT A 7) U8<|Tw ([ah [65],ah [48],ah []]) U8<|Tw ([ah [66],ah [48],ah [53]]) U8<|Tw ([ah [67],ah [49],ah []]) U8<|TP E Z ⟨?_, ?_, ?_,trivial⟩
  ·refine TG (iX _ q.m_ _ _ (df (S.kd % 8) S.a S.b S.h).length k n H Z om_ z) U7 fl_ fun F I _ e=>TP E Z ⟨?_, ?_,trivial⟩
   ·refine Ub [[ah [65],ah [48],ah []],[ah [66],ah [48],ah [53]],[ah [67],ah [49],ah []]] U12 fl_ (fun o J _ p=>?_);obtain ⟨c,d,rfl,_,_,_⟩:=id e;simp only [am] at e ⊢;exact Tw [.slice k (df (S.kd % 8) S.a S.b S.h).length n,.slice A2 (shT (S.kd % 8)).length c2,.slice c (fsK (df (S.kd % 8) S.a S.b S.h).length H).length d,.slice (some ⟨o,0,none⟩) 3 3,.slice none 0 0] U8<|Tq U5 fun g=>Tj (j:=0) U12<|Th [1,2,4] f Z<|Tr 0 mup (hn_ [1,2,4] Z) ⟨c,d,_,g,⟨e.mono mup,p.mono mup⟩,Z,Z⟩
   refine Tq U5 fun g=>Ub [[ah [65],ah [48],ah []],[ah [66],ah [48],ah [53]],[ah [67],ah [49],ah []]] U12 fl_ (fun o J _ p=>?_);obtain ⟨c,d,rfl,_,_,_⟩:=id e;simp only [am] at e ⊢;exact Tw [.slice k (df (S.kd % 8) S.a S.b S.h).length n,.slice A2 (shT (S.kd % 8)).length c2,.slice c (fsK (df (S.kd % 8) S.a S.b S.h).length H).length d,.slice (some ⟨o,0,none⟩) 3 3,.slice none 0 0] U8<|Tj (j:=0) U12<|Th [1,2,4] f Z<|Tr 0 mup (hn_ [1,2,4] Z) ⟨c,d,_,g,⟨e.mono mup,p.mono mup⟩,Z,Z⟩
  ·refine Ub [[ah [65],ah [48],ah []],[ah [66],ah [48],ah [53]],[ah [67],ah [49],ah []]] U12 fl_ fun o J _ p=>TP E Z ⟨?_, ?_,trivial⟩
   ·refine TG (iX _ q.m_ _ _ (df (S.kd % 8) S.a S.b S.h).length k n H Z om_ z) U7 fl_ (fun F I _ e=>?_);obtain ⟨c,d,rfl,_,_,_⟩:=id e;simp only [am] at e ⊢;exact Tw [.slice k (df (S.kd % 8) S.a S.b S.h).length n,.slice A2 (shT (S.kd % 8)).length c2,.slice c (fsK (df (S.kd % 8) S.a S.b S.h).length H).length d,.slice (some ⟨o,0,none⟩) 3 3,.slice none 0 0] U8<|Tq U5 fun g=>Tj (j:=0) U12<|Th [1,2,4] f Z<|Tr 0 mup (hn_ [1,2,4] Z) ⟨c,d,_,g,⟨e.mono mup,p.mono mup⟩,Z,Z⟩
   refine Tq U5 fun g=>TG (iX _ q.m_ _ _ (df (S.kd % 8) S.a S.b S.h).length k n H Z om_ z) U7 fl_ (fun F I _ e=>?_);obtain ⟨c,d,rfl,_,_,_⟩:=id e;simp only [am] at e ⊢;exact Tw [.slice k (df (S.kd % 8) S.a S.b S.h).length n,.slice A2 (shT (S.kd % 8)).length c2,.slice c (fsK (df (S.kd % 8) S.a S.b S.h).length H).length d,.slice (some ⟨o,0,none⟩) 3 3,.slice none 0 0] U8<|Tj (j:=0) U12<|Th [1,2,4] f Z<|Tr 0 mup (hn_ [1,2,4] Z) ⟨c,d,_,g,⟨e.mono mup,p.mono mup⟩,Z,Z⟩
  refine Tq U5 fun g=>TP E Z ⟨?_, ?_,trivial⟩
  ·refine TG (iX _ q.m_ _ _ (df (S.kd % 8) S.a S.b S.h).length k n H Z om_ z) U7 fl_ fun F I _ e=>Ub [[ah [65],ah [48],ah []],[ah [66],ah [48],ah [53]],[ah [67],ah [49],ah []]] U12 fl_ (fun o J _ p=>?_);obtain ⟨c,d,rfl,_,_,_⟩:=id e;simp only [am] at e ⊢;exact Tw [.slice k (df (S.kd % 8) S.a S.b S.h).length n,.slice A2 (shT (S.kd % 8)).length c2,.slice c (fsK (df (S.kd % 8) S.a S.b S.h).length H).length d,.slice (some ⟨o,0,none⟩) 3 3,.slice none 0 0] U8<|Tj (j:=0) U12<|Th [1,2,4] f Z<|Tr 0 mup (hn_ [1,2,4] Z) ⟨c,d,_,g,⟨e.mono mup,p.mono mup⟩,Z,Z⟩
  refine Ub [[ah [65],ah [48],ah []],[ah [66],ah [48],ah [53]],[ah [67],ah [49],ah []]] U12 fl_ fun o J _ p=>TG (iX _ q.m_ _ _ (df (S.kd % 8) S.a S.b S.h).length k n H Z om_ z) U7 fl_ (fun F I _ e=>?_);obtain ⟨c,d,rfl,_,_,_⟩:=id e;simp only [am] at e ⊢;exact Tw [.slice k (df (S.kd % 8) S.a S.b S.h).length n,.slice A2 (shT (S.kd % 8)).length c2,.slice c (fsK (df (S.kd % 8) S.a S.b S.h).length H).length d,.slice (some ⟨o,0,none⟩) 3 3,.slice none 0 0] U8<|Tj (j:=0) U12<|Th [1,2,4] f Z<|Tr 0 mup (hn_ [1,2,4] Z) ⟨c,d,_,g,⟨e.mono mup,p.mono mup⟩,Z,Z⟩
 obtain ⟨c,d,v,g,⟨ai,Y⟩,rfl,rfl⟩:=Q;refine Tb 1 [1,2,4,5] Z<|G.nilArr 126 10<|G.perm (L':=[.obj g (.cells ⟨[.slice k (df (S.kd % 8) S.a S.b S.h).length n,.slice A2 (shT (S.kd % 8)).length c2,.slice c (fsK (df (S.kd % 8) S.a S.b S.h).length H).length d,v,.slice none 0 0]⟩ 45 (0,0)),.arr (.slice none 0 0) 126 10 0 [],.obj b2 (.cells ⟨[.slice none 0 0,.slice none 0 0,.slice none 0 0,.slice none 0 0,.slice none 0 0]⟩ 45 (0,0))]) (List.Perm.swap _ _ _)<|G.loop (fun fr N B O=>∃ (i:Nat)(w:Value),(i<=l.length/\i<=6)/\fr=[(1,[],.pointer (some ⟨b1,0,none⟩)),(2,[],.pointer (some ⟨b2,0,none⟩)),(4,[],.pointer (some ⟨g,0,none⟩)),(5,[],.int .i64 i)]/\B=[.obj g (.cells ⟨[.slice k (df (S.kd % 8) S.a S.b S.h).length n,.slice A2 (shT (S.kd % 8)).length c2,.slice c (fsK (df (S.kd % 8) S.a S.b S.h).length H).length d,v,w]⟩ 45 (0,0)),.arr w 126 10 ((rI S l).take i).length (((rI S l).take i).map lP).flatten,.obj b2 (.cells ⟨[.slice none 0 0,.slice none 0 0,.slice none 0 0,.slice none 0 0,.slice none 0 0]⟩ 45 (0,0))]/\O=6-i) (hn_ [1,2,4,5] Z) ⟨0,.slice none 0 0,⟨PG _,PG _⟩,Z,Z,Z⟩ (fun fr aB aC m _ Q=>?_);obtain ⟨i,w,⟨hi,aD⟩,rfl,rfl,rfl⟩:=Q;refine Tc 2 Z fun R f=>Td (bkT A 1) U8<|Tg 5 Z<|TB U8<|Th [1,2,4,5,27] f Z<|G.cd (fun t=>?_) fun t=>?_
 ·have x:i<l.length/\i<6:=by
   by_cases h1:((i:Nat):Int)<(l.length:Nat)
   ·rw [PV h1] at t;have h2:=OQ t;omega
   rw [P7 h1] at t;exact absurd t ap
  obtain ⟨s,T⟩:∃ s,l[i]?=some s:=⟨l[i]'x.1,al x.1⟩;have aj:(rI S l).take (i+1)=(rI S l).take i++[xy S s i]:=by rw [P0,Fc S T x.2];rfl
  have aE:((rI S l).take i).length<=6:=by rw [PM,jB];omega
  refine Tx [0,1,2,3,4,5,6,7,8,9,10,11,12,13] [] Z kr_ fun R hB f=>Te U6<|Ti ag U9<|Td (bkT A 12) U8<|Te U6<|Td (bkT A 1) U8<|Te U6<|Tt K.m_ U10 om_ (bW T) fl_ fun aF ak=>Td ak U8<|Te U6<|TM (qQ _ q.m_ S s H _ i x.2 V (hs s (Px T)) hG) U7 (fun aG _ _ an=>?_);subst an;refine Tz [lP (xy S s i)] U12 fun aH _ _ ao=>TH (j:=1) U11 ao.m_ Z ax (by simp only [ba];omega) fl_ fun aa ab ac=>Te U6<|Tj (j:=1) U12<|Th [1,2,4,5] f Z<|Tc 1 Z fun R f=>Tm _ U7<|C6 1 [1,2,4,5] f Z<|Tu (L':=[.obj g (.cells ⟨[.slice k (df (S.kd % 8) S.a S.b S.h).length n,.slice A2 (shT (S.kd % 8)).length c2,.slice c (fsK (df (S.kd % 8) S.a S.b S.h).length H).length d,v,.slice aa ab ac]⟩ 45 (0,0)),.arr (.slice aa ab ac) 126 10 ((rI S l).take (i+1)).length (((rI S l).take (i+1)).map lP).flatten,.obj b2 (.cells ⟨[.slice none 0 0,.slice none 0 0,.slice none 0 0,.slice none 0 0,.slice none 0 0]⟩ 45 (0,0))]) (by rw [aj,Qb,Qj,PH];rfl)<|Tp (m':=6-(i+1)) om_ mup (hn_ [1,2,4,5] Z) ⟨i+1,_,⟨by omega,by omega⟩,Z,Z,Z⟩
 have x:i=min l.length 6:=by
  by_cases h1:((i:Nat):Int)<(l.length:Nat)
  ·rw [PV h1] at t;have h2:=PE t;omega
  omega
 have aq:(rI S l).take i=rI S l:=Qg (by rw [x,jB];exact Py _);rw [aq];refine G.freezeArr 1 ((rI S l).map lP) rfl rfl (by intro r hr;obtain ⟨y,_,rfl⟩:=PF.1 hr;rfl) (by rw [am]) (fun Cg hg ad=>?_);obtain ⟨Aw,cw,rfl,_⟩:=id ad;obtain ⟨Ap,cp,rfl,_⟩:=id Y;refine Tf fun R f=>Ti ag U9<|Tj (j:=1) U12<|Th [2] f Z<|Tn (TY ag U4 ?_);exact ⟨Z,_,_,_,_,_,Z,L.mono mup,M.mono mup,(by rw [bx,<- fH];exact ai.mono mup),(by rw [bx,Jz];exact Y.mono mup),ad⟩
instance:DecidableEq RowQ:=fun a b=>decidable_of_iff (a.f=b.f/\a.b=b.b) (by cases a;cases b;simp)
instance (k:Nat) (q:Rat):Decidable (QB k q):=by unfold QB;infer_instance
instance (k:Nat) (p:Pt):Decidable (QP k p):=by unfold QP;infer_instance
instance (n:Nat) (t:Tri):Decidable (mV n t):=by unfold mV;infer_instance
theorem gK (h:txt z=s):qtx ((z:Int):Rat)=s:=by rw [mF,h]
theorem LI (q:Rat)(h:qtx q=s)(a:QB 22 q):dB s=q:=by rw [<- h];exact gt (bC a)
theorem K1 (a:List Pt)(t:Tri)(p:Pt)(j:Nat):wgt a t p j=wgt a t p (j % 3):=by
 unfold wgt;rw [show (j+1) % 3=(j % 3+1) % 3 by omega,show (j+2) % 3=(j % 3+2) % 3 by omega]
theorem HC (t:Tri)(j:Nat):iq t j=iq t (min j 2):=by
 unfold iq;rcases (by omega:j=0∨j=1∨2<=j) with h | h | h
 ·subst h;rfl
 ·subst h;rfl
 rw [Nat.min_eq_right h,aF om_,aF om_];rfl
theorem q6:qtx 6=[54]:=by decide +kernel
def vS (m:Nat)(u v:Int)(h:Bool):List Pt:=(shP m).map fun p=>(mO (p.1+u*1) (eN h*1),mO (p.2+v*1) (eN h*1))
theorem Ki (m:Nat)(a b:Int)(h:Bool):df m a b h=vS m (a.tmod 8) (b.tmod 8) h:=rfl
def pH (pts:List Pt)(tris:List Tri):Bool :=
 pts.all (fun p=>decide (QP 1 p)) && (decide pts.Nodup && (tris.all (fun t=>decide (mV pts.length t)) && (tris.all (fun t=>decide (0<cW (pts.getD t.1 (0,0)) (pts.getD t.2.1 (0,0)) (pts.getD t.2.2 (0,0)))) && (decide (bO tris).Nodup && (kP pts tris && pts.all fun p=>decide (nt pts tris p≠[]))))))
theorem all0:∀ i<15,∀ j<15,∀ h:Bool,pH (vS 0 ((i:Nat)-7) ((j:Nat)-7) h) (shT 0)=true:=by decide +kernel
theorem sh1 {n:Str}(a:cV n=true)(b:cV u=true)(c:aV x=true)(d:aV y=true):dD ⟨1,n,x,y,[],u,[],[],[],[]⟩=0:=by
 unfold dD;rw [aF ap,aF (by simp [kz,a,b]),aF (by simp [li,c,d]),aF (by simp [kE])]
theorem sh2 {n d l:Str}(a:cV n=true)(b:cV u=true)(c:cV l=true)(e:aV x=true)(f:aV y=true)(g:aV d=true):dD ⟨2,n,x,y,d,u,l,[],[],[]⟩=0:=by
 unfold dD;rw [aF ap,aF (by simp [kz,a,b,c]),aF (by simp [li,e,f,g]),aF (by simp [kE])]
theorem sh3 {n l a b c:Str}(d:cV n=true)(e:cV u=true)(f:cV l=true)(g:aV x=true)(h:aV y=true)(i:aV a=true)(j:aV b=true)(k:aV c=true):dD ⟨3,n,x,y,[],u,l,a,b,c⟩=0:=by
 unfold dD;rw [aF ap,aF (by simp [kz,d,e,f]),aF (by simp [li,g,h,i,j,k]),aF (by simp [kE])]
theorem yr (j:Nat)(a:j<3):jS (isU (qT j)) colK 0=(j:Int):=by
 rcases (by omega:j=0∨j=1∨j=2) with rfl | rfl | rfl <;> decide +kernel
theorem tY (j:Nat)(a:j<3):cV (qT j)=true:=by
 rcases (by omega:j=0∨j=1∨j=2) with rfl | rfl | rfl <;> decide +kernel
theorem Me (i:Nat)(a:i<6):cV [111,UInt8.ofNat (49+i)]=true:=by
 rcases (by omega:i=0∨i=1∨i=2∨i=3∨i=4∨i=5) with rfl | rfl | rfl | rfl | rfl | rfl <;> decide +kernel
theorem N9 {j:Nat}(c:i<6)(d:j<6)(h:([111,UInt8.ofNat (49+i)]:Str)=[111,UInt8.ofNat (49+j)]):i=j:=by
 have e:∀ a<6,∀ b<6,([111,UInt8.ofNat (49+a)]:Str)=[111,UInt8.ofNat (49+b)]->a=b:=by decide
 exact e i c j d h
theorem IS (s:Sgt):min (loU s) (upU s)<max (loU s) (upU s):=by
 unfold loU upU;split <;> omega
theorem jz (z:Int)(h:z.natAbs<100):QB 1 ((z:Int):Rat):=by
 refine ⟨?_, ?_⟩
 ·show z.natAbs<B9 ^ 1;have:B9 ^ 1=1000000000:=by decide
  omega
 show 1<B9 ^ 1;decide
theorem IY (z:Int):pE z≠0:=by
 unfold pE;split
 ·decide
 assumption
theorem AT (z:Int):-5<pE z/\pE z<5:=by
 have:=vj z;unfold pE;split <;> omega
theorem ok1 (h:QB 1 q):aV (qtx q)=true:=bC (h.le dc_)
theorem KF (n:Nat):QB 1 (mO ((n % 12:Nat):Int) 2):=pT dc_ om_ dc_
theorem MH (n:Nat):¬ (mO ((n % 12:Nat):Int) 2<0):=by
 have a:∀ k<12,¬ (mO ((k:Nat):Int) 2<0):=by decide +kernel
 exact a _ (P2 _ dc_)
theorem IH (S:Sht)(s:Sgt)(i:Nat)(m:i<6)(j:QP 1 (xx S s))(n:nt (df (S.kd % 8) S.a S.b S.h) (shT (S.kd % 8)) (xx S s)≠[]) :
  gd (df (S.kd % 8) S.a S.b S.h) (shT (S.kd % 8)) colK (xy S s i)=0:=by
 have f:=Me i m;have c:=ok1 j.1;have hy:=ok1 j.2;have q:=IS s;have r:=Oc s;have t:=Ns s;have g:∀ o:Obs,o.x=qtx (xx S s).1->o.y=qtx (xx S s).2->Jw (df (S.kd % 8) S.a S.b S.h) (shT (S.kd % 8)) o=true:=by
  intro o h1 h2;unfold Jw ptO;rw [h1,h2,gt c,gt hy];exact PV n
 have p:=yr (s.u1 % 3) om_;have d:=yr (max (loU s) (upU s)) om_;have e:=yr (min (loU s) (upU s)) om_;have n1:=tY (s.u1 % 3) om_;have n2:=tY (max (loU s) (upU s)) om_;have k:=tY (min (loU s) (upU s)) om_;unfold xy gd;split
 ·rw [aF (by rw [sh1 f n1 c hy];decide),aF (by rw [g _ rfl rfl];decide),aF (by simp [J1,p] <;> omega),aF (by simp [ordB]),aF (by simp [depB]),aF (by simp [Hs])]
 split
 ·have l:=ok1 (KF s.depth);rw [aF (by rw [sh2 f n2 k c hy l];decide),aF (by rw [g _ rfl rfl];decide),aF (by simp only [J1,d,e];simp <;> omega),aF (by simp only [ordB,d,e];simp <;> omega),aF (by simp only [depB];rw [gt l,P7 (MH s.depth)];decide),aF (by simp [Hs])]
 have h0:=vj s.n0;have h1:=vj s.n1;have h2:=AT s.n2;rw [aF (by rw [sh3 f n2 k c hy (ok1 (jz _ om_)) (ok1 (jz _ om_)) (ok1 (jz _ om_))];decide),aF (by rw [g _ rfl rfl];decide),aF (by simp only [J1,d,e];simp <;> omega),aF (by simp only [ordB,d,e];simp <;> omega),aF (by simp [depB]),aF ?_];intro h;simp only [Hs,PL,PI] at h;have h3:=h.2;rw [<- qtx_zero] at h3;have h4:=iM h3;have h5:=IY s.n2;exact h5 (by exact_mod_cast h4)
theorem all1:∀ i<15,∀ j<15,∀ h:Bool,pH (vS 1 ((i:Nat)-7) ((j:Nat)-7) h) (shT 1)=true:=by decide +kernel
theorem all2:∀ i<15,∀ j<15,∀ h:Bool,pH (vS 2 ((i:Nat)-7) ((j:Nat)-7) h) (shT 2)=true:=by decide +kernel
theorem all3:∀ i<15,∀ j<15,∀ h:Bool,pH (vS 3 ((i:Nat)-7) ((j:Nat)-7) h) (shT 3)=true:=by decide +kernel
theorem all4:∀ i<15,∀ j<15,∀ h:Bool,pH (vS 4 ((i:Nat)-7) ((j:Nat)-7) h) (shT 4)=true:=by decide +kernel
theorem all5:∀ i<15,∀ j<15,∀ h:Bool,pH (vS 5 ((i:Nat)-7) ((j:Nat)-7) h) (shT 5)=true:=by decide +kernel
theorem all6:∀ i<15,∀ j<15,∀ h:Bool,pH (vS 6 ((i:Nat)-7) ((j:Nat)-7) h) (shT 6)=true:=by decide +kernel
theorem all7:∀ i<15,∀ j<15,∀ h:Bool,pH (vS 7 ((i:Nat)-7) ((j:Nat)-7) h) (shT 7)=true:=by decide +kernel
theorem kU (a:Int):∃ i:Nat,i<15/\a.tmod 8=(i:Int)-7:=by
 have h:=DZ a;exact ⟨(a.tmod 8+7).toNat,by omega,by omega⟩
theorem xQ (m:Nat)(g:m<8)(a b:Int)(h:Bool):pH (df m a b h) (shT m)=true:=by
 obtain ⟨i,c,e⟩:=kU a;obtain ⟨j,d,f⟩:=kU b;rw [Ki,e,f];rcases (by omega:m=0∨m=1∨m=2∨m=3∨m=4∨m=5∨m=6∨m=7) with rfl | rfl | rfl | rfl | rfl | rfl | rfl | rfl
 ·exact all0 i c j d h
 ·exact all1 i c j d h
 ·exact all2 i c j d h
 ·exact all3 i c j d h
 ·exact all4 i c j d h
 ·exact all5 i c j d h
 ·exact all6 i c j d h
 exact all7 i c j d h
theorem Ek:∀ m:Nat,m<8->shT m≠[]/\(shT m).length<=800:=by decide
theorem F1 {a:List Pt}{b:List Tri}(h:pH a b=true)(c:b≠[])(d:b.length<=800)(e:a.length<=400):Good a b/\∀ p∈a,nt a b p≠[]:=by
 unfold pH at h;simp only [PL,PT,PI] at h;obtain ⟨f,g,i,j,k,l,m⟩:=h;exact ⟨⟨⟨f,g,i,j,k,d,e⟩,c,l⟩,m⟩
theorem mA (m:Nat)(c:m<8)(a b:Int)(h:Bool):Good (df m a b h) (shT m)/\∀ p∈df m a b h,nt (df m a b h) (shT m) p≠[]:=by
 have d:=lf m a b h;obtain ⟨h0,h1⟩:=Ek m c;exact F1 (xQ m c a b h) h0 h1 om_
theorem EQ (S:Sht)(s:Sgt)(c:SgtR s):QP 1 (xx S s)/\nt (df (S.kd % 8) S.a S.b S.h) (shT (S.kd % 8)) (xx S s)≠[]:=by
 obtain ⟨d,e⟩:=mA (S.kd % 8) (P2 _ dc_) S.a S.b S.h;have f:0<(df (S.kd % 8) S.a S.b S.h).length:=by rw [df,am];exact xS _
 unfold xx;split
 ·rename_i h;exact ⟨Ay dc_ dc_ c.px c.py,h⟩
 have g:s.depth % (df (S.kd % 8) S.a S.b S.h).length<(df (S.kd % 8) S.a S.b S.h).length:=P2 _ f;rw [ay,al g,QQ];exact ⟨d.ok.q _ (Qq _),e _ (Qq _)⟩
theorem gX (h:QB 1 q):(qtx q).length<=999998:=vM (fs:=[q]) (k:=1) dc_ (by intro y hy;rw [PU] at hy;rw [hy];exact h) _ (PU.2 rfl)
theorem O8 (S:Sht)(s:Sgt)(i:Nat)(c:SgtR s):ObsR (xy S s i):=by
 have b:=(EQ S s c).1;have a:=gX b.1;have hy:=gX b.2;have d:=gX (KF s.depth);have h0:=vj s.n0;have h1:=vj s.n1;have h2:=AT s.n2;have e:=gX (jz (s.n0.tmod 5) om_);have l1:=gX (jz (s.n1.tmod 5) om_);have l2:=gX (jz (pE s.n2) om_);unfold xy;split
 ·exact ⟨by simp,a,hy,by simp,by simp [qT],by simp,by simp,by simp,by simp⟩
 split
 ·exact ⟨by simp,a,hy,d,by simp [qT],by simp [qT],by simp,by simp,by simp⟩
 exact ⟨by simp,a,hy,by simp,by simp [qT],by simp [qT],e,l1,l2⟩
theorem vZ (S:Sht)(s:Sgt)(i:Nat):(xy S s i).name=[111,UInt8.ofNat (49+i)]:=by
 unfold xy;split
 ·rfl
 split <;> rfl
theorem qt {S:Sht}{H:Hts}{l:List Sgt}{o:Obs}(h:(bx S H l).obs[i]?=some o):i<6/\∃ s,l[i]?=some s/\o=xy S s i:=by
 have h1:=(aJ.1 h).1;have h2:i<(rI S l).length:=h1;rw [jB] at h2;have h3:=Fc S (al (show i<l.length by omega)) (show i<6 by omega);have h4:(rI S l)[i]?=some o:=h;rw [h3] at h4;exact ⟨by omega,_,al om_,(Q8 h4).symm⟩
theorem Dk (S:Sht)(H:Hts)(l:List Sgt)(e:∀ s∈l,SgtR s):fK (bx S H l)=0:=by
 have f:∀ n,n<=(bx S H l).obs.length->tN (bx S H l) n=0:=by
  intro n;induction n with
  | zero=>intro _;rfl
  | succ n g =>
   intro i;have h0:=g om_;have a:(bx S H l).obs[n]?=some (bx S H l).obs[n]:=al i;rw [tM h0 a];obtain ⟨b,s,j,m⟩:=qt a;rw [m];have c:=EQ S s (e s (Px j));unfold obZ;rw [aF (by
    have:=IH S s n b c.1 c.2;intro h;exact h this),aF]
   intro hm;obtain ⟨o,p,d⟩:=PF.1 hm;obtain ⟨k,x,r⟩:=List.mem_take_iff_getElem.1 p;have t:(bx S H l).obs[k]?=some o:=by rw [<- r];exact al _
   obtain ⟨u,y,_,v⟩:=qt t;rw [v,vZ,vZ] at d;have:=N9 u b d;omega
 unfold fK;have z:(bx S H l).obs.length<=6:=by
  show (rI S l).length<=6;rw [jB];omega
 have h1:uf (bx S H l).pts.length (bx S H l).terr=0:=by
  unfold uf;rw [aL (by show ((fsK _ H).map qtx).length=_;rw [am,pL];rfl)];show nC (((fsK _ H).map qtx).all aV)=0;rw [qE (fun q w=>ok1 (F9 _ H q w))];rfl
 have h2:nY (bx S H l).col=0:=by
  show nY colK=0;decide +kernel
 rw [aF (by rw [h1];decide),aF (by rw [h2];decide),aF om_];exact f _ (Py _)
theorem Pg:∀ x∈colK,Nf x:=by
 intro x a;simp only [colK,PN,QH,R8] at a;rcases a with rfl | rfl | rfl
 ·exact ⟨by decide +kernel,fun q h=>by simp at h,by decide⟩
 ·exact ⟨by decide +kernel,fun q h=>by simp at h;subst h;decide +kernel,by decide⟩
 exact ⟨by decide +kernel,fun q h=>by simp at h,by decide⟩
theorem MT (S:Sht)(H:Hts)(l:List Sgt)(a:∀ s∈l,SgtR s):BookR (bx S H l):=by
 refine ⟨?_,Pg,(by show colK.length<=1000000;decide), ?_⟩
 ·intro s h;obtain ⟨q,b,rfl⟩:=PF.1 h;exact gX (F9 _ H q b)
 intro o c;obtain ⟨i,d⟩:=List.mem_iff_getElem?.1 c;obtain ⟨_,s,e,rfl⟩:=qt d;exact O8 S s i (a s (Px e))
theorem JH (S:Sht)(H:Hts)(l:List Sgt):bs (bx S H l)=2:=rfl
theorem uH (S:Sht)(H:Hts)(l:List Sgt):0<bp (bx S H l)/\bp (bx S H l)<=6:=by
 refine ⟨?_,lf _ _ _ _⟩;show 0<(df (S.kd % 8) S.a S.b S.h).length;rw [df,am];exact xS _
def Hd (C:Mem)(pv:Value)(S:Sht)(H:Hts)(l:List Sgt):Prop:=∃ A c,pv=.agg ⟨LW S H (.slice A l.length c)⟩/\Sl C 9 (.slice A l.length c) (l.map Nb)
structure PlanR (S:Sht)(H:Hts)(l:List Sgt):Prop where
 kd:S.kd<256
 h:OP H
 s:∀ s∈l,SgtR s
def JZ (s p:Nat)(a b:Int):Prop:=a<0∨(s:Int)<=a∨b<0∨(p:Int)<=b
instance (s p:Nat) (a b:Int):Decidable (JZ s p a b):=by unfold JZ;infer_instance
def Km (n:Nat)(x:Int):Prop:=x<0∨(n:Int)<=x
instance (n:Nat) (x:Int):Decidable (Km n x):=by unfold Km;infer_instance
open Go Go.Jog Go.ChangeShapes Go.WideShapes Go.ChangeAt Go.RowKit
set_option maxRecDepth 100000
theorem own:ownKnob Tryz.prog.godebug=none:=by kernel_rfl
section
variable {H:Type} {enc:TypeId × Value->H} {W:World} {spare:Nat->Bool} {held:Bool}
theorem K4 {n:Nat}{c:Value}{y:DataW H × List MemPlace}(h:DataW.trod enc Tryz.prog W 0 spare held n 5 [c]=some y):∃ b:UInt8,c=.int .u8 b.toNat:=by
 obtain ⟨m,h1,_,h3⟩:=DataW.trod_int Tryz.underlying5 h;simp only [RY,SZ] at h1;subst h1;have a:0<=m/\m<256:=by
  simp [Lit.wf,IntKind.min,IntKind.max,IntKind.signed,IntKind.bits] at h3;omega
 refine ⟨UInt8.ofNat m.toNat, ?_⟩;congr 1;simp only [UInt8.toNat_ofNat'];omega
theorem vg {n:Nat}{c:Value}{y:DataW H × List MemPlace}(h:DataW.trod enc Tryz.prog W 0 spare held n 5 [c]=some y):∃ m:Nat,c=.int .u8 m/\m<256:=by
 obtain ⟨b,rfl⟩:=K4 h;exact ⟨b.toNat,Z,b.toNat_lt⟩
theorem mK {n:Nat}{c:Value}{y:DataW H × List MemPlace}(h:DataW.trod enc Tryz.prog W 0 spare held n 22 [c]=some y):∃ m:Int,c=.int .i8 m/\-128<=m/\m<=127:=by
 obtain ⟨m,h1,_,h3⟩:=DataW.trod_int Tryz.underlying22 h;simp only [RY,SZ] at h1;refine ⟨m,h1, ?_⟩;simp [Lit.wf,IntKind.min,IntKind.max,IntKind.signed,IntKind.bits] at h3;omega
theorem G5 {n:Nat}{c:Value}{y:DataW H × List MemPlace}(h:DataW.trod enc Tryz.prog W 0 spare held n 4 [c]=some y):∃ b:Bool,c=.bool b:=by
 obtain ⟨b,h1,_⟩:=DataW.trod_bool Tryz.underlying4 h;simp only [RY,SZ] at h1;exact ⟨b,h1⟩
theorem xk {t e:TypeId}{k n:Nat}{a:List Value}{y:DataW H × List MemPlace}(b:Tryz.prog.underlying t=some (.array k e))(c:Tryz.prog.cellsOf e=1)(h:DataW.trod enc Tryz.prog W 0 spare held n t a=some y) :
  ∃ m,∀ i,i<k->∃ z,DataW.trod enc Tryz.prog W 0 spare held m e ((a.drop i).take 1)=some z:=by
 obtain ⟨xs,m,_,_,_,g,d⟩:=DataW.trod_array b h;refine ⟨m,fun i f=>?_⟩;have h1:=d i f;rw [c,QG] at h1;rw [h1,al om_];exact ⟨_,Z⟩
theorem uD:Tryz.prog.cellsOf 5=1:=by kernel_rfl
theorem nZ:Tryz.prog.cellsOf 22=1:=by kernel_rfl
theorem sC:Tryz.prog.cellsOf 4=1:=by kernel_rfl
theorem xa:Tryz.prog.cellsOf 23=2:=by kernel_rfl
theorem GP:Tryz.prog.cellsOf 135=2:=by kernel_rfl
theorem JC:Tryz.prog.cellsOf 136=3:=by kernel_rfl
theorem JB:Tryz.prog.cellsOf 26=6:=by kernel_rfl
theorem HY {n:Nat}{c d e f:Value}{y:DataW H × List MemPlace}(h:DataW.trod enc Tryz.prog W 0 spare held n 25 [c,d,e,f]=some y):∃ S:Sht,[c,d,e,f]=([.int .u8 S.kd,.int .i8 S.a,.int .i8 S.b,.bool S.h]:List Value)/\S.kd<256:=by
 obtain ⟨l,o,p,q,_,r,h0,h1,h2⟩:=Go.Deep.trod_struct3 Tryz.underlying25 h;simp only [uD,xa,sC] at h0 h1 h2;obtain ⟨kd,rfl,i⟩:=vg h0;obtain ⟨m,g⟩:=xk Tryz.underlying23 nZ h1;obtain ⟨s,j⟩:=g 0 dc_;obtain ⟨t,k⟩:=g 1 dc_;obtain ⟨a,rfl,_⟩:=mK j;obtain ⟨b,rfl,_⟩:=mK k;obtain ⟨hh,rfl⟩:=G5 h2;exact ⟨⟨kd,a,b,hh⟩,Z,i⟩
theorem CL {n:Nat}{b c d e f g i:Value}{y:DataW H × List MemPlace}(h:DataW.trod enc Tryz.prog W 0 spare held n 28 [b,c,d,e,f,g,i]=some y):∃ G:Hts,[b,c,d,e,f,g,i]=Og G/\OP G:=by
 obtain ⟨A,B,C,_,D,h0,h1⟩:=Go.ChangeShapes.trod_struct2 Tryz.underlying28 h;simp only [JB,sC] at h0 h1;obtain ⟨m,a⟩:=xk Tryz.underlying26 nZ h0;obtain ⟨E,k⟩:=a 0 dc_;obtain ⟨F,l⟩:=a 1 dc_;obtain ⟨I,o⟩:=a 2 dc_;obtain ⟨J,p⟩:=a 3 dc_;obtain ⟨K,q⟩:=a 4 dc_;obtain ⟨L,r⟩:=a 5 dc_;obtain ⟨s,rfl,g0⟩:=mK k;obtain ⟨t,rfl,M⟩:=mK l;obtain ⟨u,rfl,N⟩:=mK o;obtain ⟨v,rfl,O⟩:=mK p;obtain ⟨w,rfl,P⟩:=mK q;obtain ⟨x,rfl,Q⟩:=mK r;obtain ⟨hh,rfl⟩:=G5 h1;refine ⟨⟨s,t,u,v,w,x,hh⟩,Z, ?_⟩;intro z j;simp only [Ky,PN,QH,R8] at j;rcases j with rfl | rfl | rfl | rfl | rfl | rfl <;> assumption
theorem vh {P:Program}{t:TypeId}{b c d e f:Field}{o:Nat}{a:List Value}{x:DataW H × List MemPlace}(p:P.underlying t=some (.struct #[b,c,d,e,f]))(h:DataW.trod enc P W 0 spare held o t a=some x) :
  ∃ i j k l m n,DataW.trod enc P W 0 spare held n b.type ((a.drop b.offset).take (P.cellsOf b.type))=some i/\DataW.trod enc P W 0 spare held n c.type ((a.drop c.offset).take (P.cellsOf c.type))=some j/\DataW.trod enc P W 0 spare held n d.type ((a.drop d.offset).take (P.cellsOf d.type))=some k /\
   DataW.trod enc P W 0 spare held n e.type ((a.drop e.offset).take (P.cellsOf e.type))=some l/\DataW.trod enc P W 0 spare held n f.type ((a.drop f.offset).take (P.cellsOf f.type))=some m:=by
 obtain ⟨xs,n,_,rfl,r,q,g⟩:=DataW.trod_struct p h
 match xs,q with
 | [i,j,k,l,m],_=>exact ⟨i,j,k,l,m,n,by simpa using g 0 b rfl,by simpa using g 1 c rfl,by simpa using g 2 d rfl,by simpa using g 3 e rfl,by simpa using g 4 f rfl⟩
theorem HU {n:Nat}{a:List Value}{y:DataW H × List MemPlace}(b:a.length=9)(h:DataW.trod enc Tryz.prog W 0 spare held n 138 a=some y):∃ s:{s:Sgt // SgtR s},a=Nb s.1:=by
 obtain ⟨w,x,z,A,B,C,h0,h1,h2,h3,h4⟩:=vh Tryz.underlying138 h
 match a,b with
 | [c0,D,c2,E,F,G,I,J,K],_ =>
   simp only [uD,xa,GP,JC] at h0 h1 h2 h3 h4;obtain ⟨kd,rfl,c⟩:=vg h0;obtain ⟨L,a1⟩:=xk Tryz.underlying23 nZ h1;obtain ⟨w0,e⟩:=a1 0 dc_;obtain ⟨w1,f⟩:=a1 1 dc_;obtain ⟨px,rfl,g⟩:=mK e;obtain ⟨py,rfl,i⟩:=mK f;obtain ⟨M,a2⟩:=xk Tryz.underlying135 uD h2;obtain ⟨N,j⟩:=a2 0 dc_;obtain ⟨O,k⟩:=a2 1 dc_;obtain ⟨u0,rfl,l⟩:=vg j;obtain ⟨u1,rfl,m⟩:=vg k;obtain ⟨d,rfl,o⟩:=vg h3;obtain ⟨P,a4⟩:=xk Tryz.underlying136 nZ h4;obtain ⟨Q,p⟩:=a4 0 dc_;obtain ⟨R,q⟩:=a4 1 dc_;obtain ⟨S,r⟩:=a4 2 dc_;obtain ⟨n0,rfl,t⟩:=mK p;obtain ⟨n1,rfl,u⟩:=mK q;obtain ⟨n2,rfl,v⟩:=mK r;exact ⟨⟨⟨kd,px,py,u0,u1,d,n0,n1,n2⟩,⟨c,g,i,l,m,o,t,u,v⟩⟩,Z⟩
theorem Ej {b:Nat}{v:Value}{x:DataW H × List MemPlace}(h:DataW.trod enc Tryz.prog W 0 spare held b 29 [v]=some x):∃ l:List Sgt,Sl (qS W) 9 v (l.map Nb)/\∀ s∈l,SgtR s:=by
 obtain ⟨l,a⟩:=Ei (fun s:{s:Sgt // SgtR s}=>Nb s.1) Tryz.underlying29 kr_ dc_ (fun n cs y a hy=>HU a hy) h;refine ⟨l.map (·.1),by rw [Qv];exact a,fun s hs=>?_⟩;obtain ⟨z,_,rfl⟩:=PF.1 hs;exact z.2
theorem LV {n:Nat}{a:List Value}{y:DataW H × List MemPlace}(h:DataW.trod enc Tryz.prog W 0 spare held n 31 a=some y):∃ S G l,Hd (qS W) (.agg ⟨a⟩) S G l/\PlanR S G l:=by
 obtain ⟨o,p,q,r,_,d,h0,h1,h2⟩:=Go.Deep.trod_struct3 Tryz.underlying31 h;have g:Tryz.prog.cellsOf 31=12:=by kernel_rfl
 have h4:Tryz.prog.cellsOf 25=4:=by kernel_rfl
 have i:Tryz.prog.cellsOf 28=7:=by kernel_rfl
 have hs:Tryz.prog.cellsOf 29=1:=by kernel_rfl
 rw [g] at d
 match a,d with
 | [c0,s,c2,t,u,v,w,x,z,B,C,D],_ =>
  simp only [h4,i,hs] at h0 h1 h2;obtain ⟨S,e,j⟩:=HY h0;obtain ⟨G,f,k⟩:=CL h1;obtain ⟨l,b,m⟩:=Ej h2;obtain ⟨A,c,rfl,_⟩:=id b;simp only [RY,SZ] at e;obtain ⟨rfl,rfl,rfl,rfl⟩:=e;simp only [Og,RY,SZ] at f;obtain ⟨rfl,rfl,rfl,rfl,rfl,rfl,rfl⟩:=f;simp only [am] at b ⊢;exact ⟨S,G,l,⟨A,c,Z,b⟩,j,k,m⟩
end
def lF (cs:Array Value):Obj->Obj
 | .cells _ t frozen=>.cells cs t frozen
 | o=>o
def Gy:Array Value:=(Lib.deBruijn32tab.map fun z:Nat=>Value.int .u8 (z:Int)).toArray
def Gx:Array Value:=(Lib.deBruijn64tab.map fun z:Nat=>Value.int .u8 (z:Int)).toArray
def Co:Array Value:=(Lib.pow10Tab.map fun z=>Value.int .u64 z).toArray
def EF:ByteArray:=⟨#[118,97,108,117,101,32,111,117,116,32,111,102,32,114,97,110,103,101]⟩
def BS:ByteArray:=⟨#[105,110,118,97,108,105,100,32,115,121,110,116,97,120]⟩
noncomputable def low:Nat:=(World.holding Tryz.prog default ⟨#[],#[],[]⟩).heap.size
noncomputable def pF (os:Os):World :=
 let w0:=World.holding Tryz.prog os ⟨#[.cells #[.string EF] 416,.cells #[.string BS] 416],#[],[]⟩
 { w0 with heap:=((((w0.heap.modify 4 (lF Gy)).modify 5 (lF Gx)).modify 3 (lF Co)).modify 2 (lF #[.iface 414 (.pointer (some ⟨low,0,none⟩))])).modify 1 (lF #[.iface 414 (.pointer (some ⟨low+1,0,none⟩))]) }
theorem K9 {W : World} (h : laidMet Tryz.prog [("math/bits.deBruijn32tab", Rows.laid_math_bits_deBruijn32tab), ("math/bits.deBruijn64tab", Rows.laid_math_bits_deBruijn64tab), ("internal/strconv.uint64pow10", Rows.laid_internal_strconv_uint64pow10), ("strconv.ErrRange", Rows.laid_strconv_ErrRange), ("strconv.ErrSyntax", Rows.laid_strconv_ErrSyntax)] W) : Tabs (qS W) := by
 have h1:=h.tail;have h2:=h1.tail;have b:(Rows.laid_math_bits_deBruijn64tab:DataW Unit)=Lib.tabData .u8 (Lib.deBruijn64tab.map fun z:Nat=>(z:Int)):=by rfl
 rw [b] at h1;have a:=Lib.tabIs_of_head (g:=5) (t:=418) (e:=5) (n:=64) kr_ kr_ Tryz.underlying418 Tryz.underlying5 kr_ kr_ h1;have c:(Rows.laid_internal_strconv_uint64pow10:DataW Unit)=Lib.tabData .u64 Lib.pow10Tab:=by rfl
 rw [c] at h2;have d:=Lib.tabIs_of_head (g:=3) (t:=412) (e:=285) (n:=20) kr_ kr_ Tryz.underlying412 Tryz.underlying285 kr_ kr_ h2;refine ⟨VarC.ofWorld d, ?_⟩;unfold Lib.TabIs at a;rw [Qv] at a;exact VarC.ofWorld a
theorem tX:laidOutB Tryz.prog=true:=by kernel_rfl
end Go.Proofs.YtfjcldheldflbaaGreatDoor
namespace Go.Proofs.YtfjcldheldflbaaGreatDoor
open Go.Proofs.Tryz
open Go Go.Jog
set_option maxRecDepth 100000
variable {q:Rat}{w z:Int}{α:Type}
/-! Small parts: numbers of quarters and of halves. -/
theorem Ig (a:w≠0)(h:q*w=z):q=mO z w:=by
 have c:(w:Rat)≠0:=by simpa using a
 unfold mO;rw [Rat.mkRat_eq_div];have b:q=z / w:=by grind
 rw [b];split
 ·rename_i d;have:((w.natAbs:Nat):Int)=-w:=by omega
  rw [show ((w.natAbs:Nat):Rat)=(((w.natAbs:Nat):Int):Rat) from rfl,this];simp only [Rat.intCast_neg];grind
 have:((w.natAbs:Nat):Int)=w:=by omega
 rw [show ((w.natAbs:Nat):Rat)=(((w.natAbs:Nat):Int):Rat) from rfl,this]
theorem LL (a:w≠0)(h:q*w=z)(b:z.natAbs<1000000000)(c:w.natAbs<1000000000):QB 1 q:=by
 rw [Ig a h];exact pT a b c
theorem Cp (x y:Nat)(a:x<18446744073709551616)(b:y<18446744073709551616)(C:Mem):Gives cx.P 128 [.int .u64 x,.int .u64 y] C (.tuple #[.int .u64 ((x*y / 18446744073709551616:Nat):Int),.int .u64 ((x*y % 18446744073709551616:Nat):Int)]) :=
 Gives.ofCalls kr_ (fun w=>Any.bits_Mul Tryz.mul x y a b w) C
theorem ET {a:Value}{n k m:Nat}{b:List Value}(_d:k+m<=n)(c:m<=k)(_e:b.length=n-k) :
  aD (List.replicate k a++b) ((List.replicate k a++b).take m) k=List.replicate (k+m) a++b.drop m:=by
 have h1:(List.replicate k a++b).take m=List.replicate m a:=by
  rw [List.take_append_of_le_length (by simpa using c),List.take_replicate,QD c]
 have h2:(List.replicate k a++b).take k=List.replicate k a:=by
  rw [List.take_append_of_le_length ap,List.take_replicate,Nat.min_self]
 have h3:(List.replicate k a++b).drop (k+m)=b.drop m:=by
  rw [R5,P9,Rf ap,Rw];congr 1;omega
 unfold aD;rw [h1,h2,P9,h3,List.replicate_append_replicate]
theorem EM (a:Value)(n:Nat):kf [a] n=List.replicate n a:=by
 rw [eS];induction n with
 | zero=>rfl
 | succ n b=>rw [QC,QI,b,QC];rfl
theorem Iv (n:Nat)(a:n<18446744073709551616)(C:Mem):Gives cx.P 128 [.int .u64 (1:Int),.int .u64 n] C (.tuple #[.int .u64 0,.int .u64 n]):=by
 have h:=Cp 1 n om_ a C;have b:1*n / 18446744073709551616=0:=by omega
 have c:1*n % 18446744073709551616=n:=by omega
 rw [b,c] at h;exact h
theorem Cl (C:Mem)(v:Value)(n:Nat)(s:Str)(g:Sl C 1 v [[ah s]])(y:n<=1000000):Jog.Fn cx.P 64 [v,.int .i64 n] C [] fun u _z e=>∃ b,u=.slice (some ⟨b,0,none⟩) n n/\e=[.arr u 32 1 n (List.replicate n (ah s))]:=by
 have p:=g;obtain ⟨A,c,rfl,_⟩:=p;refine Tk func64 48 U3 fun w0=>Tb 1 [0,1] Z<|Tb 2 [0,1,10] Z<|G.cd (fun h=>?_) fun h=>?_
 ·simp at h;omega
 refine Tc 2 Z fun R d=>TR (c:=1) U8 Z fl_<|Te U6<|TR (c:=(n:Int)) U8 (by rw [IntKind.wrap_u64];omega) fl_<|Ts (Iv n om_ _) U7 fl_<|C6 5 [0,5,6] d Z<|Tc 5 Z fun R d=>TN U8<|Th [0,6,26] d Z<|G.cd (fun i=>?_) fun i=>?_
 ·simp at i;omega
 refine Tc 1 Z fun R d=>TR (c:=(n:Int)) U8 (by rw [IntKind.wrap_i64];omega) fl_<|Um U9 (Py _) (by show 16*n<=281474976710656;omega) (by simp only [maxLen];omega) fl_ fun a=>C6 1 [0,7] d Z<|Tc 2 Z fun R d=>UT (j:=0) (q:=min 1 n) U12 g U2 (by rw [cT];show 0+min 1 n*1<=n*1;omega) fl_<|C6 1 [7,8] d Z ?_;have r:aD (kf [ah []] n) (([[ah s]]:List (List Value)).take (min 1 n)).flatten 0=List.replicate (min 1 n) (ah s)++List.replicate (n-min 1 n) (ah []):=by
  rw [EM];cases n with
  | zero=>rfl
  | succ n=>rw [show min 1 (n+1)=1 by omega,QC];rfl
 refine Tu (L':=[.arr (.slice (some ⟨a,0,none⟩) n n) 32 1 n (List.replicate (min 1 n) (ah s)++List.replicate (n-min 1 n) (ah []))]) (by rw [<- r];rfl)<|G.loop (fun fr B e t=>∃ (k:Nat),(k<=n/\min 1 n<=k)/\fr=[(7,[],.slice (some ⟨a,0,none⟩) n n),(8,[],.int .i64 k)]/\e=[.arr (.slice (some ⟨a,0,none⟩) n n) 32 1 n (List.replicate k (ah s)++List.replicate (n-k) (ah []))]/\t=n-k) (hn_ [7,8] Z) ⟨min 1 n,⟨Nat.min_le_right _ _,Py _⟩,Z,Z,Z⟩ (fun fr D E m w x=>?_);obtain ⟨k,⟨l,F⟩,rfl,rfl,rfl⟩:=x;refine Tb 4 [7,8,37] Z<|G.cd (fun f=>?_) fun f=>?_
 ·simp only [PI] at f;have o:k<n:=by omega
  have H:1<=k:=by omega
  refine Tx [0,1,2,3,4,5,6,7,8,9] [] Z kr_ fun R I d=>Tg 3 Z<|Ud k n n U12 (fun _=>⟨.inr ⟨_,Z⟩,.inl ⟨Z,Z⟩,.inl ⟨Z,Z⟩,l,Py _,Py _⟩) U2<|Tg 2 Z<|Ud 0 k n U12 (fun _=>⟨.inl ⟨Z,Z⟩,.inr ⟨_,Z⟩,.inl ⟨Z,Z⟩,PG _,l,Py _⟩) U2 ?_;refine US (j:=0) (off:=k) (g0:=a) (dl:=n-k) (dc:=n-k) (sl:=k-0) (sc:=n-0) (q:=min k (n-k)) U8 (by show some (Value.slice (if n=k then some (⟨a,0,none⟩:Addr) else (some (⟨a,0,none⟩:Addr)).map (·.add (k*1))) (n-k) (n-k))=_;rw [aF om_];simp [Addr.add_lit]) (by show some (Value.slice (if n=0 then some (⟨a,0,none⟩:Addr) else (some (⟨a,0,none⟩:Addr)).map (·.add (0*1))) (k-0) (n-0))=_;split <;> simp [Addr.add_lit]) U2 (by simp [me,ah]) aq fl_ ?_;refine TL (((k+min k (n-k):Nat):Int)) U4 om_ om_ om_ U2<|C6 1 [7,8] d Z<|Tu (L':=[.arr (.slice (some ⟨a,0,none⟩) n n) 32 1 n (List.replicate (k+min k (n-k)) (ah s)++List.replicate (n-(k+min k (n-k))) (ah []))]) (by rw [ET (n:=n) om_ (Nat.min_le_left _ _) ap,List.drop_replicate,Nat.sub_sub];rfl)<|Tp (m':=n-(k+min k (n-k))) om_ w (hn_ [7,8] Z) ⟨k+min k (n-k),⟨by omega,by omega⟩,Z,Z,Z⟩
 simp only [P3] at f;have o:k=n:=by omega
 subst o;refine Tb 2 [4] Z<|Tn (TQ Z Z ?_);exact ⟨a,Z,by simp⟩
theorem iN (C:Mem)(n:Nat)(a:n<=1000000):Jog.Fn cx.P 99 [.int .i64 n] C [] fun u _g c=>∃ b,u=.slice (some ⟨b,0,none⟩) n n/\c=[.arr u 32 1 n (List.replicate n (ah [48]))]:=by
 refine Tk func99 6 U3 fun w0=>Tb 1 [0] Z<|TC [(2,3)] Z fun R d=>Tz [[ah [48]]] U12 fun h _ _ e=>Te U6<|D.call (Cl _ _ n [48] e.m_ a) Z (.inr dc_) U6 (PC _) fl_ fun i _ j _ f=>C6 1 [2] d Z ?_;obtain ⟨b,rfl,rfl⟩:=f;refine Tn (TQ Z Z ?_);exact ⟨b,Z,Z⟩
theorem ku {f:α->List Value}{l:List α}{i:Nat}{x:α}(h:l[i]?=some x):(l.map f)[i]?=some (f x):=by rw [PD,h];rfl
def yH (s:Str):List Value:=[ah s]
def aQ (q:Rat):List Value:=[ah (qtx q)]
theorem wG (l:List Rat):l.map aQ=(l.map qtx).map yH:=by rw [Qv];rfl
def Ix {α:Type}(p:α->Bool):List α->Nat->Int
 | [],_=>-1
 | x::l,k=>if p x then (k:Nat) else Ix p l (k+1)
theorem tJ {a:Type}{p:a->Bool}:∀ {l:List a}{i k:Nat}{x:a},l[i]?=some x->p x=true->(∀ y∈l.take i,p y=false)->Ix p l k=((k+i:Nat):Int)
 | y::l,0,k,x,h,b,_=>by
  simp only [List.getElem?_cons_zero,Qc] at h;subst h;simp [Ix,b]
 | y::l,i+1,k,x,h,b,c=>by
  simp only [Q6] at h;have hy:p y=false:=c y ap;have:=tJ (k:=k+1) h b (fun z d=>c z (by simp [d]));simp only [Ix,hy,Qr,QY,this];omega
theorem oZ {a:Type}{p:a->Bool}:∀ {l:List a}{k:Nat},(∀ y∈l,p y=false)->Ix p l k=-1
 | [],_,_=>rfl
 | y::l,k,h=>by
  simp only [Ix,h y PB,Qr,QY];exact oZ fun z b=>h z (PK _ b)
theorem Cu (p:α->Bool)(l:List α):(Ix p l 0=-1/\∀ y∈l,p y=false)∨∃ (i:Nat)(x:α),Ix p l 0=(i:Nat)/\l[i]?=some x/\p x=true/\∀ y∈l.take i,p y=false:=by
 by_cases h:∀ y∈l,p y=false
 ·exact .inl ⟨oZ h,h⟩
 right;have d:∀ (l:List α),(¬ ∀ y∈l,p y=false)->∃ (i:Nat)(x:α),l[i]?=some x/\p x=true/\∀ y∈l.take i,p y=false:=by
  intro l;induction l with
  | nil=>intro h;exact absurd (fun y hy=>(by cases hy)) h
  | cons a l e =>
   intro h;by_cases b:p a=true
   ·exact ⟨0,a,Z,b,by simp⟩
   have c:p a=false:=by simpa using b
   obtain ⟨i,x,h1,h2,h3⟩:=e (fun h2=>h (fun y hy=>by
    rcases PN.1 hy with rfl | hy
    ·exact c
    exact h2 y hy))
   refine ⟨i+1,x,by simpa using h1,h2,fun y hy=>?_⟩;rw [List.take_succ_cons] at hy;rcases PN.1 hy with rfl | hy
   ·exact c
   exact h3 y hy
 obtain ⟨i,x,h1,h2,h3⟩:=d l h;exact ⟨i,x,by rw [tJ h1 h2 h3,QV],h1,h2,h3⟩
theorem EY (C:Mem)(v:Value)(l:List Str)(g:Nat)(d:List Value)(a:Str->Bool)(e:Sl C 1 v (l.map yH))(_A:Jog.Enters cx.P g=true)
  (n:∀ x∈l,∀ D:Mem,C.le D->Gives cx.P g (ah x::d) D (.bool (a x))) :
  Gives cx.P 91 [v,.func (.func g) #[] ⟨d⟩] C (.int .i64 (Ix a l 0)):=by
 obtain ⟨o,c0,rfl,p,B,_⟩:=id e;have E:maxLen<=9223372036854775807:=by simp [maxLen]
 simp only [am] at e p ⊢;refine Tk func91 19 U3 fun w0=>Tb 1 [0,1] Z<|Tb 3 [0,1,7,8] Z<|G.loop (fun fr F q r=>∃ (i:Nat),(i<=l.length/\∀ y∈l.take i,a y=false)/\fr=[(0,[],.slice o l.length c0),(1,[],.func (.func g) #[] ⟨d⟩),(7,[],.int .i64 l.length),(8,[],.int .i64 i)]/\q=[]/\r=l.length-i) (hn_ [0,1,7,8] Z) ⟨0,⟨PG _,by simp⟩,Z,Z,Z⟩ (fun fr H I m s t=>?_);obtain ⟨i,⟨J,b⟩,rfl,rfl,rfl⟩:=t;refine Tb 1 [0,1,7,8,9] Z<|G.cd (fun f=>?_) fun f=>?_
 ·have h:i<l.length:=by simpa using f
  obtain ⟨x,c⟩:∃ x,l[i]?=some x:=⟨l[i],al h⟩;refine Tb 2 [0,1,5,7,8] Z<|Tc 3 Z fun R j=>Tt e.m_ U10 om_ (ku c) fl_ fun K u=>Td u U8<|To (n x (Px c) _ mup) U7<|Th [0,1,5,7,8,16] j Z<|G.cd (fun k=>?_) fun k=>?_
  ·have w:a x=true:=k;exact Tb 2 [4] Z<|Tl U2<|⟨by rw [tJ c w b,QV],Z⟩
  have z:a x=false:=k;refine Tf fun R j=>Tm _ U7<|C6 1 [0,1,7,8] j Z<|Tp (m':=l.length-(i+1)) om_ s (hn_ [0,1,7,8] Z) ⟨i+1,⟨by omega,fun y hy=>by
   rw [P0,c] at hy;rcases PQ.1 hy with hy | hy
   ·exact b y hy
   simp only [QM,PU] at hy;subst hy;exact z⟩,Z,Z,Z⟩
 have h:i=l.length:=by
  have:¬ i<l.length:=by simpa using f
  omega
 exact Tb 1 [4] Z<|Tl U2<|⟨by rw [h,PO] at b;rw [oZ b],Z⟩
theorem E3 (C:Mem)(v:Value)(l:List Str)(g:Nat)(b:List Value)(a:Str->Bool)(c:Sl C 1 v (l.map yH))(d:Jog.Enters cx.P g=true)
  (e:∀ x∈l,∀ D:Mem,C.le D->Gives cx.P g (ah x::b) D (.bool (a x))) :
  Gives cx.P 33 [v,.func (.func g) #[] ⟨b⟩] C (.bool (l.any a)):=by
 refine Tk func33 9 U3 fun w0=>Tb 1 [0,1] Z<|Tc 2 Z fun R f=>To (EY _ v l g b a c.m_ d (fun x h D j=>e x h D (Mem.le.trans mup j))) U7<|C6 2 [4] f Z<|Tl U2<|⟨?_,Z⟩;congr 1;rcases Cu a l with ⟨h1,h2⟩ | ⟨i,x,h1,h2,h3,_⟩
 ·rw [h1,List.any_eq_false.2 (fun y hy=>by rw [h2 y hy];decide)];rfl
 rw [h1,R4.2 ⟨x,Px h2,h3⟩];exact PV om_
theorem oV (C:Mem)(a:Tabs C)(s:Str)(b:s.length<=999998):Gives cx.P 102 [ah s] C (.bool (!aV s)):=by
 refine Tk func102 6 U3 fun w0=>Tb 1 [0] Z<|Tc 1 Z fun R c=>To (dF _ a.m_ s b) U7<|C6 2 [2] c Z<|Tl U2 ?_;exact ⟨by cases aV s <;> rfl,Z⟩
def iY (n:Int)(l:List Str):Int:=if (l.length:Int)=n then nC (l.all aV) else 5
theorem Av (C:Mem)(e:Tabs C)(v:Value)(n:Int)(l:List Str)(a:Sl C 1 v (l.map yH))(b:∀ s∈l,s.length<=999998):Gives cx.P 135 [v,.int .i64 n] C (.int .i64 (iY n l)):=by
 obtain ⟨o,c0,rfl,f,p,_⟩:=id a;have q:maxLen<=9223372036854775807:=by simp [maxLen]
 simp only [am] at a f ⊢;refine Tk func135 13 U3 fun w0=>Tb 1 [0,1] Z<|Tb 5 [0,5] Z<|G.cd (fun h5=>?_) fun h5=>?_
 ·have g:¬ (l.length:Int)=n:=by simpa using h5
  exact Tb 1 [4] Z<|Tl U2<|⟨by unfold iY;rw [aF g],Z⟩
 have d:(l.length:Int)=n:=by simpa using h5
 refine Tc 1 Z fun R h=>To (E3 _ _ l _ [] (fun s=>!aV s) a.m_ Z (fun s i D j=>oV D (e.mono (Mem.le.trans mup j)) s (b s i))) U7<|C6 1 [10] h Z<|G.cd (fun c=>?_) fun c=>?_
 ·have k:l.all aV=false:=by
   obtain ⟨s,h1,h2⟩:=R4.1 (show (l.any fun s=>!aV s)=true from c);exact RM.2 ⟨s,h1,by simpa using h2⟩
  exact Tb 1 [4] Z<|Tl U2<|⟨by unfold iY;rw [aL d,k];rfl,Z⟩
 have m:l.all aV=true:=by
  have h1:=List.any_eq_false.1 (show (l.any fun s=>!aV s)=false from c);exact PT.2 fun s b=>by simpa using h1 s b
 exact Tb 1 [4] Z<|Tl U2<|⟨by unfold iY;rw [aL d,m];rfl,Z⟩
end Go.Proofs.YtfjcldheldflbaaGreatDoor
