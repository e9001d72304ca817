/- Laws that the proofs of this seat share, part 10. -/
import Derived.Test.YthnpijdjlddpmaaGreatDoorG9
import Derived.Test.YthnpijdjlddpmaaGreatDoorShelf
set_option maxHeartbeats 4000000
namespace Go.Proofs.YthnpijdjlddpmaaGreatDoor
open Go.Proofs.Tryz
open Go Go.Jog
set_option maxRecDepth 100000
variable {B:Bk}{C:Mem}{RO:Nat->List RowQ}{err:Nat->Int}{fs:List Rat}{i k n:Nat}{o:Obs}{p:Pt}{r:RowQ}{t:Tri}{v:Value}{vs:List Value}{z:Rat}
theorem jP {l:List (Nat × Rat)}(q:Rat)(h:k ∉ l.map (·.1)):fU (eK l) ((k:Nat):Int) (ai (qtx q))=eK (l++[(k,q)]):=by
 rw [jJ (by
  rw [cH];unfold eK;rw [RG];intro hm;obtain ⟨x,a,b⟩:=QX.1 hm;have:x.1=k:=by
   have h2:((x.1:Nat):Int)=(k:Int):=b;omega
  exact h (this ▸ Tf (f:=(·.1)) a))]
 simp [eK]
theorem qS (a c:Pt):dG a a c=0/\dG c a a=0/\dG a c a=0:=by
 unfold dG;refine ⟨?_, ?_, ?_⟩ <;> grind
theorem tJ {a:List Pt}{b:List Tri}(c:MeshOk a b)(d:t∈b):t.1≠t.2.1/\t.1≠t.2.2/\t.2.1≠t.2.2:=by
 have h:=jM c d;refine ⟨fun e=>h ?_,fun e=>h ?_,fun e=>h ?_⟩
 ·have:cor a t 1=cor a t 0:=by show a.getD t.2.1 _=a.getD t.1 _;rw [e]
  rw [this];exact (qS _ _).1
 ·have:cor a t 2=cor a t 0:=by show a.getD t.2.2 _=a.getD t.1 _;rw [e]
  rw [this];exact (qS _ _).2.2
 have:cor a t 2=cor a t 1:=by show a.getD t.2.2 _=a.getD t.2.1 _;rw [e]
 rw [this];exact (qS _ _).2.1
def atT (t:Tri)(f:Nat->Rat):List (Nat × Rat):=[(t.1,f 0),(t.2.1,f 1),(t.2.2,f 2)]
theorem qP (f:Nat->Rat)(h:t.1≠t.2.1/\t.1≠t.2.2/\t.2.1≠t.2.2):((atT t f).map (·.1)).Nodup:=by
 simp [atT,h.1,h.2.1,h.2.2]
theorem Ee (C:Mem)(w:Tabs C)(x:Value)(c:List Pt)(e:List Tri)(p:Pt)(i:Nat)(r:List Nat)(t:Tri)(y:MeshIn C x c e)(k:Good c e)(z:QP 23 p)(A:PtR p)(K:lO c e p=i::r)(g:e[i]?=some t)(L:∀ j,QB 22 (wgt c t p j)) :
  Pur cx.P 192 [x,ptV p] C fun u D=>∃ b,u=.tuple #[.map (some b),.int .i64 (i:Nat),.int .i64 0]/\D b=some (aR keyZ.enc (eK (atT t (wgt c t p)))):=by
 have M:=k.ok;have n:=y;have ad:=(aD.1 g).1;obtain ⟨N,O,Q⟩:=tJ M (QQ g);obtain ⟨v1,v2,rfl,h1,h2⟩:=id y.ex;obtain ⟨A2,c2,rfl,S,ae,_⟩:=id h2;have af:maxLen<=9223372036854775807:=by simp [maxLen]
 simp only [al] at h2 n S ⊢;refine UD func192 54 U3 fun w0=>Uz fun R a=>UQ U6 fun b2=>UQ U6 fun b3=>C4 3 [2,3] a Z<|G.freeze 1 Z fun _ _ o=>G.freeze 0 Z fun _ _ B=>Uz fun R a=>Uw (bkT o 2) U8<|Uw (bkT B 2) U8<|Ve (pS _ w.m_ _ c e p n.m_ k z A) U7 (fun ah _ _ T=>?_);obtain ⟨wv,rfl,f⟩:=T;rw [K] at f;obtain ⟨U,V,E,_⟩:=id f;rw [al] at E;subst E;refine C4 5 [2,3,6,7] a Z<|Uu 2 [2,3,6,7,18] Z<|Ux (fun F=>?_) fun F=>?_
 ·exact absurd F dc_
 refine US [0,1,2,3,4,5,6,7,8,9,10,11] [(5,1)] Z kr_ fun R H a=>Uw (bkT o 2) U8<|Uy U6<|UK f.m_ U10 om_ (rfl:(List.map aM (i::r))[0]?=some (aM i)) fl_ fun ai W=>Uw W U8<|Uw (bkT B 2) U8<|Vb (fun _=>(Fl _ w.m_ _ c e p i t n.m_ k z A g L)) U9<|UB 3 Z<|UP U5 fun X=>UG (j:=0) U12<|C4 1 [2,6,7,8] a Z<|Uu 2 [2,6,7,8,30] Z<|Ux (fun I=>?_) fun I=>?_
 ·exact absurd I dc_
 refine G.freeze 0 Z fun _ _ q=>Uz fun R a=>D.makeMap keyZ Z Z Z Z fl_ fun d=>C4 1 [2,4,7,8] a Z<|US [0,1,2,3,4,5,6,7] [] Z kr_ fun R H a=>Uy U6<|Uw (bkT o 1) U8<|Uy U6<|UK f.m_ U10 om_ (rfl:(List.map aM (i::r))[0]?=some (aM i)) fl_ fun aj Y=>Uw Y U8<|UK h2.m_ U10 om_ (bY g) fl_ fun ak aa=>Uw aa U8<|C4 1 [4,7,8,39,40] a Z<|G.loop (fun fr C' h μ=>∃ (j:Nat),(j<=3)/\fr=[(4,[],.map (some d)),(7,[],.slice U (i::r).length V),(8,[],.pointer (some ⟨X,0,none⟩)),(39,[],.agg ⟨kC t⟩),(40,[],.int .i64 j)]/\h=[.obj d (aR keyZ.enc (eK ((atT t (wgt c t p)).take j)))]/\μ=3-j) (hn_ [4,7,8,39,40] Z) ⟨0,QT _,Z,Z,Z⟩ (fun fr an ao m s hI=>?_);obtain ⟨j,hj,rfl,rfl,rfl⟩:=hI;refine Uu 1 [4,7,8,39,40,41] Z<|Ux (fun v=>?_) fun v=>?_
 ·have J:j<3:=by
   simp only [QZ] at v;omega
  rcases (by omega:j=0∨j=1∨j=2) with rfl | rfl | rfl
  ·refine Uv 1 Z fun R a=>Vz U11 ag U2<|C4 2 [4,7,8,9,10,39,40] a Z<|Uv 3 Z fun R a=>UV (_) U9 ag U2<|Uw (bkT q 1) U8<|D.mapUpdate keyZ (j:=0) Z Z Z Z Z Z Z Z Z Z kr_<|UA [4,7,8,39,40] a Z<|Uz fun R a=>UF _ U7<|C4 1 [4,7,8,39,40] a Z<|UN (L':=[.obj d (aR keyZ.enc (eK ((atT t (wgt c t p)).take 1)))]) (congrArg (fun m=>[Ent.obj d (aR keyZ.enc m)]) (jP (l:=[]) _ am))<|UH (m':=2) om_ s (hn_ [4,7,8,39,40] Z) ⟨1,by decide,Z,Z,Z⟩
  ·refine Uv 1 Z fun R a=>Vz U11 ag U2<|C4 2 [4,7,8,9,10,39,40] a Z<|Uv 3 Z fun R a=>UV (_) U9 ag U2<|Uw (bkT q 1) U8<|D.mapUpdate keyZ (j:=0) Z Z Z Z Z Z Z Z Z Z kr_<|UA [4,7,8,39,40] a Z<|Uz fun R a=>UF _ U7<|C4 1 [4,7,8,39,40] a Z<|UN (L':=[.obj d (aR keyZ.enc (eK ((atT t (wgt c t p)).take 2)))]) (congrArg (fun m=>[Ent.obj d (aR keyZ.enc m)]) (jP (l:=[(t.1,wgt c t p 0)]) _ (by simpa using N.symm)))<|UH (m':=1) om_ s (hn_ [4,7,8,39,40] Z) ⟨2,by decide,Z,Z,Z⟩
  refine Uv 1 Z fun R a=>Vz U11 ag U2<|C4 2 [4,7,8,9,10,39,40] a Z<|Uv 3 Z fun R a=>UV (_) U9 ag U2<|Uw (bkT q 1) U8<|D.mapUpdate keyZ (j:=0) Z Z Z Z Z Z Z Z Z Z kr_<|UA [4,7,8,39,40] a Z<|Uz fun R a=>UF _ U7<|C4 1 [4,7,8,39,40] a Z<|UN (L':=[.obj d (aR keyZ.enc (eK ((atT t (wgt c t p)).take 3)))]) (congrArg (fun m=>[Ent.obj d (aR keyZ.enc m)]) (jP (l:=[(t.1,wgt c t p 0),(t.2.1,wgt c t p 1)]) _ (by simp [O.symm,Q.symm])))<|UH (m':=0) om_ s (hn_ [4,7,8,39,40] Z) ⟨3,by decide,Z,Z,Z⟩
 have J:j=3:=by
  simp only [Ri] at v;omega
 subst J;refine G.freeze 0 Z fun Cm ap ab=>US [0,1,2,3,4,5,6] [] Z kr_ fun R H a=>UB 2 Z<|UK f.m_ U10 om_ (rfl:(List.map aM (i::r))[0]?=some (aM i)) fl_ fun aq ac=>Uw ac U8<|C4 3 [4,5,6] a Z<|UJ (G.dropAll (Vv U4 ?_));exact ⟨Z,d,Z,ab⟩
theorem dm (t:Tri)(f:Nat->Rat)(j:Nat)(a:j<3)(h:t.1≠t.2.1/\t.1≠t.2.2/\t.2.1≠t.2.2):fU (eK ((atT t f).take j)) ((mF t j:Nat):Int) (ai (qtx (f j)))=eK ((atT t f).take (j+1)):=by
 rcases (by omega:j=0∨j=1∨j=2) with rfl | rfl | rfl
 ·exact jP (l:=[]) _ am
 ·exact jP (l:=[(t.1,f 0)]) (k:=t.2.1) _ (by simpa using h.1.symm)
 exact jP (l:=[(t.1,f 0),(t.2.1,f 1)]) (k:=t.2.2) _ (by simp [h.2.1.symm,h.2.2.symm])
def nJ (n k:Nat):List Rat:=rR n [(k,1)]
def slf (pts:List Pt)(t:Tri)(j:Nat):Pt:=dP pts (nJ pts.length (mF t j)) t
theorem gu (n k:Nat):(nJ n k).length=n:=jD n _
theorem Ah :∀ q∈nJ n k,q=0∨q=1:=by
 intro q a;unfold nJ rR at a;obtain ⟨j,_,rfl⟩:=QX.1 a;simp only [dq];split
 ·exact .inr Z
 exact .inl Z
theorem jy :∀ q∈nJ n k,QB 1 q:=by
 intro q a;rcases Ah q a with rfl | rfl
 ·exact QB_zero
 exact QB_one
theorem D9 (C:Mem)(J:Tabs C)(N:Value)(a:List Pt)(s:List Tri)(i:Nat)(t:Tri)(O:MeshIn C N a s)(E:Good a s)(l:s[i]?=some t)(K:∀ j,QP 22 (slf a t j)) :
  Pur cx.P 198 [N,.int .i64 i] C fun u D=>∃ Q S,u=.tuple #[.map (some Q),.map (some S),.int .i64 0]/\D Q=some (aR keyZ.enc (eK (atT t fun j=>(slf a t j).1)))/\D S=some (aR keyZ.enc (eK (atT t fun j=>(slf a t j).2))):=by
 have L:=E.ok;have F:=O;have am:=L.lp;have H:=L.ins t (QQ l);obtain ⟨an,ao,ap⟩:=id H;have aq:=(aD.1 l).1;obtain ⟨f,g,h⟩:=tJ L (QQ l);obtain ⟨v1,v2,rfl,h1,h2⟩:=id O.ex;obtain ⟨A1,c1,rfl,ar,au,_⟩:=id h1;obtain ⟨A2,c2,rfl,af,av,_⟩:=id h2;have aw:maxLen<=9223372036854775807:=by simp [maxLen]
 simp only [al] at h1 h2 F af ⊢;refine UD func198 51 U3 fun w0=>Uz fun R b=>UQ U6 fun I=>C4 3 [1,2] b Z<|G.freeze 0 Z fun _ _ n=>Uz fun R b=>D.makeMap keyZ Z Z Z Z fl_ fun c=>D.makeMap keyZ Z Z Z Z fl_ fun d=>C4 2 [1,2,4,5] b Z<|Uv 1 Z fun R b=>Uw (bkT n 1) U8<|Uy U6<|UK h2.m_ U10 om_ (bY l) fl_ fun ax ah=>Uw ah U8<|C4 1 [1,2,4,5,18,19] b Z<|G.perm (L':=[.obj c (aR keyZ.enc (eK [])),.obj d (aR keyZ.enc (eK []))]) (List.Perm.swap _ _ _)<|G.loop (fun fr C' e o=>∃ (j:Nat),(j<=3)/\fr=[(1,[],.int .i64 i),(2,[],.pointer (some ⟨I,0,none⟩)),(4,[],.map (some c)),(5,[],.map (some d)),(18,[],.agg ⟨kC t⟩),(19,[],.int .i64 j)]/\e=[.obj c (aR keyZ.enc (eK ((atT t fun j=>(slf a t j).1).take j))),.obj d (aR keyZ.enc (eK ((atT t fun j=>(slf a t j).2).take j)))]/\o=3-j) (hn_ [1,2,4,5,18,19] Z) ⟨0,QT _,Z,Z,Z⟩ (fun fr ay az m _ p=>?_);obtain ⟨j,hj,rfl,rfl,rfl⟩:=p;refine Uu 1 [1,2,4,5,18,19,20] Z<|Ux (fun M=>?_) fun M=>?_
 ·have T:j<3:=by
   simp only [QZ] at M;omega
  rcases (by omega:j=0∨j=1∨j=2) with rfl | rfl | rfl
  ·refine Uz fun R b=>Vz U11 ag U2<|C4 1 [1,2,4,5,8,18,19] b Z<|UW [(4,3)] Z fun R b=>UR [[ai [48]]] U12 fun U V _ v=>Uy U6<|Uw (bkT n 1) U8<|Uy U6<|D.call (mP _ _ a.length [48] v.m_ om_) Z (.inr dc_) U6 (QW _) fl_ fun W X Y _ w=>C4 1 [1,2,4,5,8,9,18,19] b Z ?_;obtain ⟨bz,rfl,rfl⟩:=w;have x:mF t 0<a.length:=ff H 0;refine UN (L':=[.arr (.slice (some ⟨bz,0,none⟩) a.length a.length) 56 1 a.length (kY a.length []),.obj c (aR keyZ.enc (eK ((atT t fun j=>(slf a t j).1).take 0))),.obj d (aR keyZ.enc (eK ((atT t fun j=>(slf a t j).2).take 0)))]) (by rw [ma];rfl)<|Uv 2 Z fun R b=>Va ((mF t 0)) U10 (fun _=>⟨by omega,by omega,(SK _).symm⟩) U2<|Vc (j:=0) U11 (by rw [mb];simp;omega)<|UA [1,2,4,5,8,9,18,19] b Z<|UN (L':=[.arr (.slice (some ⟨bz,0,none⟩) a.length a.length) 56 1 a.length (kY a.length [(mF t 0,1)]),.obj c (aR keyZ.enc (eK ((atT t fun j=>(slf a t j).1).take 0))),.obj d (aR keyZ.enc (eK ((atT t fun j=>(slf a t j).2).take 0)))]) (by rw [<- fD [] 1 x,dA];rfl)<|G.freezeArr 0 ((nJ a.length (mF t 0)).map fp) rfl (jp _ _) (by intro r hr;obtain ⟨y,_,rfl⟩:=QX.1 hr;rfl) (by rw [al,gu]) fun Cz hz z=>Uz fun R b=>Uw (bkT n 2) U8<|UB 2 Z<|UM (tN _ J.m_ _ _ a s (nJ a.length (mF t 0)) 1 dc_ dc_ F.m_ E z.m_ (gu _ _) jy (fun q A=>bO ((jy q A).le dc_)) i t l (K 0)) U7 fl_<|UB 3 Z<|UP U5 fun aa=>UG (j:=0) U12<|C4 1 [1,2,4,5,8,10,11,18,19] b Z<|Uu 2 [1,2,4,5,8,10,11,18,19,38] Z<|Ux (fun ab=>?_) fun ab=>?_
   ·exact absurd ab dc_
   refine G.freeze 0 Z fun ac _ k=>G.cut (fun fr C' e o=>(True)/\fr=[(1,[],.int .i64 i),(2,[],.pointer (some ⟨I,0,none⟩)),(4,[],.map (some c)),(5,[],.map (some d)),(18,[],.agg ⟨kC t⟩),(19,[],.int .i64 ((0:Nat):Int))]/\e=[.obj c (aR keyZ.enc (eK ((atT t fun j=>(slf a t j).1).take (0+1)))),.obj d (aR keyZ.enc (eK ((atT t fun j=>(slf a t j).2).take (0+1))))]) ?_ (fun fr aA aB o aC p=>?_)
   ·refine Vp (.cut [0,1,2,3,4,5,6] (.alt 7 (.fin [8,9]) (.alt 8 (.fin [7,9]) .stop))) [] Z Z kr_ fun R hB b B=>UB 5 Z<|Uw (bkT k 1) U8<|Uy U6<|Vd B Z ⟨?_, ?_,trivial⟩
    ·refine Uw (bkT k 1) U8 ?_
     first | refine D.mapUpdate keyZ (j:=0) rfl rfl rfl rfl rfl rfl rfl rfl rfl rfl kr_ ?_ | refine D.mapUpdate keyZ (j:=1) rfl rfl rfl rfl rfl rfl rfl rfl rfl rfl kr_ ?_
     first | refine D.mapUpdate keyZ (j:=1) rfl rfl rfl rfl rfl rfl rfl rfl rfl rfl kr_ ?_ | refine D.mapUpdate keyZ (j:=0) rfl rfl rfl rfl rfl rfl rfl rfl rfl rfl kr_ ?_
     refine UA [1,2,4,5,18,19] b Z<|G.perm (L':=[.obj c (aR keyZ.enc (eK ((atT t fun j=>(slf a t j).1).take (0+1)))),.obj d (aR keyZ.enc (eK ((atT t fun j=>(slf a t j).2).take (0+1))))]) (by
      rw [<- dm t (fun j=>(slf a t j).1) 0 dc_ ⟨f,g,h⟩,<- dm t (fun j=>(slf a t j).2) 0 dc_ ⟨f,g,h⟩]
      first | exact QW _ | exact List.Perm.swap _ _ _) ?_
     exact UL 0 (Mem.le.refl _) (hn_ [1,2,4,5,18,19] Z) ⟨trivial,Z,Z⟩
    first | refine D.mapUpdate keyZ (j:=0) rfl rfl rfl rfl rfl rfl rfl rfl rfl rfl kr_ ?_ | refine D.mapUpdate keyZ (j:=1) rfl rfl rfl rfl rfl rfl rfl rfl rfl rfl kr_ ?_
    refine Uw (bkT k 1) U8 ?_
    first | refine D.mapUpdate keyZ (j:=1) rfl rfl rfl rfl rfl rfl rfl rfl rfl rfl kr_ ?_ | refine D.mapUpdate keyZ (j:=0) rfl rfl rfl rfl rfl rfl rfl rfl rfl rfl kr_ ?_
    refine UA [1,2,4,5,18,19] b Z<|G.perm (L':=[.obj c (aR keyZ.enc (eK ((atT t fun j=>(slf a t j).1).take (0+1)))),.obj d (aR keyZ.enc (eK ((atT t fun j=>(slf a t j).2).take (0+1))))]) (by
     rw [<- dm t (fun j=>(slf a t j).1) 0 dc_ ⟨f,g,h⟩,<- dm t (fun j=>(slf a t j).2) 0 dc_ ⟨f,g,h⟩]
     first | exact QW _ | exact List.Perm.swap _ _ _) ?_
    exact UL 0 (Mem.le.refl _) (hn_ [1,2,4,5,18,19] Z) ⟨trivial,Z,Z⟩
   obtain ⟨_,rfl,rfl⟩:=p;refine Uz fun R b=>UF _ U7<|C4 1 [1,2,4,5,18,19] b Z<|UH (m':=2) om_ mup (hn_ [1,2,4,5,18,19] Z) ⟨1,by decide,Z,Z,Z⟩
  ·refine Uz fun R b=>Vz U11 ag U2<|C4 1 [1,2,4,5,8,18,19] b Z<|UW [(4,3)] Z fun R b=>UR [[ai [48]]] U12 fun U V _ v=>Uy U6<|Uw (bkT n 1) U8<|Uy U6<|D.call (mP _ _ a.length [48] v.m_ om_) Z (.inr dc_) U6 (QW _) fl_ fun W X Y _ w=>C4 1 [1,2,4,5,8,9,18,19] b Z ?_;obtain ⟨bz,rfl,rfl⟩:=w;have x:mF t 1<a.length:=ff H 1;refine UN (L':=[.arr (.slice (some ⟨bz,0,none⟩) a.length a.length) 56 1 a.length (kY a.length []),.obj c (aR keyZ.enc (eK ((atT t fun j=>(slf a t j).1).take 1))),.obj d (aR keyZ.enc (eK ((atT t fun j=>(slf a t j).2).take 1)))]) (by rw [ma];rfl)<|Uv 2 Z fun R b=>Va ((mF t 1)) U10 (fun _=>⟨by omega,by omega,(SK _).symm⟩) U2<|Vc (j:=0) U11 (by rw [mb];simp;omega)<|UA [1,2,4,5,8,9,18,19] b Z<|UN (L':=[.arr (.slice (some ⟨bz,0,none⟩) a.length a.length) 56 1 a.length (kY a.length [(mF t 1,1)]),.obj c (aR keyZ.enc (eK ((atT t fun j=>(slf a t j).1).take 1))),.obj d (aR keyZ.enc (eK ((atT t fun j=>(slf a t j).2).take 1)))]) (by rw [<- fD [] 1 x,dA];rfl)<|G.freezeArr 0 ((nJ a.length (mF t 1)).map fp) rfl (jp _ _) (by intro r hr;obtain ⟨y,_,rfl⟩:=QX.1 hr;rfl) (by rw [al,gu]) fun Cz hz z=>Uz fun R b=>Uw (bkT n 2) U8<|UB 2 Z<|UM (tN _ J.m_ _ _ a s (nJ a.length (mF t 1)) 1 dc_ dc_ F.m_ E z.m_ (gu _ _) jy (fun q A=>bO ((jy q A).le dc_)) i t l (K 1)) U7 fl_<|UB 3 Z<|UP U5 fun aa=>UG (j:=0) U12<|C4 1 [1,2,4,5,8,10,11,18,19] b Z<|Uu 2 [1,2,4,5,8,10,11,18,19,38] Z<|Ux (fun ad=>?_) fun ad=>?_
   ·exact absurd ad dc_
   refine G.freeze 0 Z fun ac _ k=>G.cut (fun fr C' e o=>(True)/\fr=[(1,[],.int .i64 i),(2,[],.pointer (some ⟨I,0,none⟩)),(4,[],.map (some c)),(5,[],.map (some d)),(18,[],.agg ⟨kC t⟩),(19,[],.int .i64 ((1:Nat):Int))]/\e=[.obj c (aR keyZ.enc (eK ((atT t fun j=>(slf a t j).1).take (1+1)))),.obj d (aR keyZ.enc (eK ((atT t fun j=>(slf a t j).2).take (1+1))))]) ?_ (fun fr aE aF o aG p=>?_)
   ·refine Vp (.cut [0,1,2,3,4,5,6] (.alt 7 (.fin [8,9]) (.alt 8 (.fin [7,9]) .stop))) [] Z Z kr_ fun R hB b B=>UB 5 Z<|Uw (bkT k 1) U8<|Uy U6<|Vd B Z ⟨?_, ?_,trivial⟩
    ·refine Uw (bkT k 1) U8 ?_
     first | refine D.mapUpdate keyZ (j:=0) rfl rfl rfl rfl rfl rfl rfl rfl rfl rfl kr_ ?_ | refine D.mapUpdate keyZ (j:=1) rfl rfl rfl rfl rfl rfl rfl rfl rfl rfl kr_ ?_
     first | refine D.mapUpdate keyZ (j:=1) rfl rfl rfl rfl rfl rfl rfl rfl rfl rfl kr_ ?_ | refine D.mapUpdate keyZ (j:=0) rfl rfl rfl rfl rfl rfl rfl rfl rfl rfl kr_ ?_
     refine UA [1,2,4,5,18,19] b Z<|G.perm (L':=[.obj c (aR keyZ.enc (eK ((atT t fun j=>(slf a t j).1).take (1+1)))),.obj d (aR keyZ.enc (eK ((atT t fun j=>(slf a t j).2).take (1+1))))]) (by
      rw [<- dm t (fun j=>(slf a t j).1) 1 dc_ ⟨f,g,h⟩,<- dm t (fun j=>(slf a t j).2) 1 dc_ ⟨f,g,h⟩]
      first | exact QW _ | exact List.Perm.swap _ _ _) ?_
     exact UL 0 (Mem.le.refl _) (hn_ [1,2,4,5,18,19] Z) ⟨trivial,Z,Z⟩
    first | refine D.mapUpdate keyZ (j:=0) rfl rfl rfl rfl rfl rfl rfl rfl rfl rfl kr_ ?_ | refine D.mapUpdate keyZ (j:=1) rfl rfl rfl rfl rfl rfl rfl rfl rfl rfl kr_ ?_
    refine Uw (bkT k 1) U8 ?_
    first | refine D.mapUpdate keyZ (j:=1) rfl rfl rfl rfl rfl rfl rfl rfl rfl rfl kr_ ?_ | refine D.mapUpdate keyZ (j:=0) rfl rfl rfl rfl rfl rfl rfl rfl rfl rfl kr_ ?_
    refine UA [1,2,4,5,18,19] b Z<|G.perm (L':=[.obj c (aR keyZ.enc (eK ((atT t fun j=>(slf a t j).1).take (1+1)))),.obj d (aR keyZ.enc (eK ((atT t fun j=>(slf a t j).2).take (1+1))))]) (by
     rw [<- dm t (fun j=>(slf a t j).1) 1 dc_ ⟨f,g,h⟩,<- dm t (fun j=>(slf a t j).2) 1 dc_ ⟨f,g,h⟩]
     first | exact QW _ | exact List.Perm.swap _ _ _) ?_
    exact UL 0 (Mem.le.refl _) (hn_ [1,2,4,5,18,19] Z) ⟨trivial,Z,Z⟩
   obtain ⟨_,rfl,rfl⟩:=p;refine Uz fun R b=>UF _ U7<|C4 1 [1,2,4,5,18,19] b Z<|UH (m':=1) om_ mup (hn_ [1,2,4,5,18,19] Z) ⟨2,by decide,Z,Z,Z⟩
  refine Uz fun R b=>Vz U11 ag U2<|C4 1 [1,2,4,5,8,18,19] b Z<|UW [(4,3)] Z fun R b=>UR [[ai [48]]] U12 fun U V _ v=>Uy U6<|Uw (bkT n 1) U8<|Uy U6<|D.call (mP _ _ a.length [48] v.m_ om_) Z (.inr dc_) U6 (QW _) fl_ fun W X Y _ w=>C4 1 [1,2,4,5,8,9,18,19] b Z ?_;obtain ⟨bz,rfl,rfl⟩:=w;have x:mF t 2<a.length:=ff H 2;refine UN (L':=[.arr (.slice (some ⟨bz,0,none⟩) a.length a.length) 56 1 a.length (kY a.length []),.obj c (aR keyZ.enc (eK ((atT t fun j=>(slf a t j).1).take 2))),.obj d (aR keyZ.enc (eK ((atT t fun j=>(slf a t j).2).take 2)))]) (by rw [ma];rfl)<|Uv 2 Z fun R b=>Va ((mF t 2)) U10 (fun _=>⟨by omega,by omega,(SK _).symm⟩) U2<|Vc (j:=0) U11 (by rw [mb];simp;omega)<|UA [1,2,4,5,8,9,18,19] b Z<|UN (L':=[.arr (.slice (some ⟨bz,0,none⟩) a.length a.length) 56 1 a.length (kY a.length [(mF t 2,1)]),.obj c (aR keyZ.enc (eK ((atT t fun j=>(slf a t j).1).take 2))),.obj d (aR keyZ.enc (eK ((atT t fun j=>(slf a t j).2).take 2)))]) (by rw [<- fD [] 1 x,dA];rfl)<|G.freezeArr 0 ((nJ a.length (mF t 2)).map fp) rfl (jp _ _) (by intro r hr;obtain ⟨y,_,rfl⟩:=QX.1 hr;rfl) (by rw [al,gu]) fun Cz hz z=>Uz fun R b=>Uw (bkT n 2) U8<|UB 2 Z<|UM (tN _ J.m_ _ _ a s (nJ a.length (mF t 2)) 1 dc_ dc_ F.m_ E z.m_ (gu _ _) jy (fun q A=>bO ((jy q A).le dc_)) i t l (K 2)) U7 fl_<|UB 3 Z<|UP U5 fun aa=>UG (j:=0) U12<|C4 1 [1,2,4,5,8,10,11,18,19] b Z<|Uu 2 [1,2,4,5,8,10,11,18,19,38] Z<|Ux (fun ae=>?_) fun ae=>?_
  ·exact absurd ae dc_
  refine G.freeze 0 Z fun ac _ k=>G.cut (fun fr C' e o=>(True)/\fr=[(1,[],.int .i64 i),(2,[],.pointer (some ⟨I,0,none⟩)),(4,[],.map (some c)),(5,[],.map (some d)),(18,[],.agg ⟨kC t⟩),(19,[],.int .i64 ((2:Nat):Int))]/\e=[.obj c (aR keyZ.enc (eK ((atT t fun j=>(slf a t j).1).take (2+1)))),.obj d (aR keyZ.enc (eK ((atT t fun j=>(slf a t j).2).take (2+1))))]) ?_ (fun fr aH aI o aJ p=>?_)
  ·refine Vp (.cut [0,1,2,3,4,5,6] (.alt 7 (.fin [8,9]) (.alt 8 (.fin [7,9]) .stop))) [] Z Z kr_ fun R hB b B=>UB 5 Z<|Uw (bkT k 1) U8<|Uy U6<|Vd B Z ⟨?_, ?_,trivial⟩
   ·refine Uw (bkT k 1) U8 ?_
    first | refine D.mapUpdate keyZ (j:=0) rfl rfl rfl rfl rfl rfl rfl rfl rfl rfl kr_ ?_ | refine D.mapUpdate keyZ (j:=1) rfl rfl rfl rfl rfl rfl rfl rfl rfl rfl kr_ ?_
    first | refine D.mapUpdate keyZ (j:=1) rfl rfl rfl rfl rfl rfl rfl rfl rfl rfl kr_ ?_ | refine D.mapUpdate keyZ (j:=0) rfl rfl rfl rfl rfl rfl rfl rfl rfl rfl kr_ ?_
    refine UA [1,2,4,5,18,19] b Z<|G.perm (L':=[.obj c (aR keyZ.enc (eK ((atT t fun j=>(slf a t j).1).take (2+1)))),.obj d (aR keyZ.enc (eK ((atT t fun j=>(slf a t j).2).take (2+1))))]) (by
     rw [<- dm t (fun j=>(slf a t j).1) 2 dc_ ⟨f,g,h⟩,<- dm t (fun j=>(slf a t j).2) 2 dc_ ⟨f,g,h⟩]
     first | exact QW _ | exact List.Perm.swap _ _ _) ?_
    exact UL 0 (Mem.le.refl _) (hn_ [1,2,4,5,18,19] Z) ⟨trivial,Z,Z⟩
   first | refine D.mapUpdate keyZ (j:=0) rfl rfl rfl rfl rfl rfl rfl rfl rfl rfl kr_ ?_ | refine D.mapUpdate keyZ (j:=1) rfl rfl rfl rfl rfl rfl rfl rfl rfl rfl kr_ ?_
   refine Uw (bkT k 1) U8 ?_
   first | refine D.mapUpdate keyZ (j:=1) rfl rfl rfl rfl rfl rfl rfl rfl rfl rfl kr_ ?_ | refine D.mapUpdate keyZ (j:=0) rfl rfl rfl rfl rfl rfl rfl rfl rfl rfl kr_ ?_
   refine UA [1,2,4,5,18,19] b Z<|G.perm (L':=[.obj c (aR keyZ.enc (eK ((atT t fun j=>(slf a t j).1).take (2+1)))),.obj d (aR keyZ.enc (eK ((atT t fun j=>(slf a t j).2).take (2+1))))]) (by
    rw [<- dm t (fun j=>(slf a t j).1) 2 dc_ ⟨f,g,h⟩,<- dm t (fun j=>(slf a t j).2) 2 dc_ ⟨f,g,h⟩]
    first | exact QW _ | exact List.Perm.swap _ _ _) ?_
   exact UL 0 (Mem.le.refl _) (hn_ [1,2,4,5,18,19] Z) ⟨trivial,Z,Z⟩
  obtain ⟨_,rfl,rfl⟩:=p;refine Uz fun R b=>UF _ U7<|C4 1 [1,2,4,5,18,19] b Z<|UH (m':=0) om_ mup (hn_ [1,2,4,5,18,19] Z) ⟨3,by decide,Z,Z,Z⟩
 have T:j=3:=by
  simp only [Ri] at M;omega
 subst T;refine G.freeze 0 Z fun Cm aK aj=>G.freeze 0 Z fun Cn aL ak=>Uu 5 [4,5,6] Z<|UJ (G.dropAll (Vv U4 ?_));exact ⟨Z,c,d,Z,Mem.get aj mup,ak⟩
theorem qJ (C:Mem)(v:Value)(l:List Rat)(b:Sl C 1 v (l.map fp))(t:l.length<=1000000):Jog.Fn cx.P 173 [v] C [] fun u _w e=>∃ A n c,u=.slice A n c/\e=[.arr (.slice A n c) 56 1 l.length (l.map fp).flatten]:=by
 obtain ⟨f,c0,rfl,m,x,y,o⟩:=id b;have z:maxLen<=9223372036854775807:=by simp [maxLen]
 simp only [al] at b m ⊢;refine UD func173 8 U3 fun w0=>Uu 1 [0] Z<|Uv 1 Z fun R d=>V8 U9<|UA [0,4] d Z<|Ux (fun h4=>?_) fun h4=>?_
 ·have p:f=none:=by
   cases f with
   | none=>rfl
   | some a=>cases h4
  have s:l=[]:=by
   cases l with
   | nil=>rfl
   | cons q r =>
    obtain ⟨a,g,_⟩:=o 0 (fp q) rfl;rw [p] at g;cases g
  refine Uu 1 [2] Z<|G.nilArr 56 1<|UJ (Vj Z Z ?_);exact ⟨none,0,0,Z,by rw [s];rfl⟩
 refine Uz fun R d=>VA [] U12 fl_ fun B=>Uy U6<|UZ (j:=0) U11 b.m_ (by simp [fp,lH,ai]) (by simp only [al,Q7,maxLen];omega) (by simp only [al,Q7];omega) fl_ fun h i k=>C4 1 [2] d Z<|UN (L':=[.arr (.slice h i k) 56 1 l.length (l.map fp).flatten]) am<|UJ (Vj Z Z ?_);exact ⟨h,i,k,Z,Z⟩
def Ox (r:RowQ):Prop:=(∀ q∈r.f,QB 22 q)/\QB 22 r.b
theorem kH {a:List RowQ}{w:Value}(c:vs[i]?=some w)(d:a[i]?=some r):(aT vs a)[i]?=some [w,ai (qtx r.b)]:=by
 unfold aT;rw [List.getElem?_zipWith,c,d]
theorem Eg (C:Mem)(hT:Tabs C)(v:Value)(a:List RowQ)(hv:RowsIn C v a)(e:∀ r∈a,Ox r)(ac:∀ r∈a,r.f.length<=1000)(ao:a.length<=100000) :
  Gives cx.P 200 [v] C (.tuple #[v,.int .i64 0]):=by
 obtain ⟨vs,z,A⟩:=hv;obtain ⟨l,c0,rfl,ad,ap,_⟩:=id A;have aq:maxLen<=9223372036854775807:=by simp [maxLen]
 simp only [dy z.1] at A ad ⊢;refine UD func200 32 U3 fun w0=>Uu 2 [0] Z<|Uu 3 [0,8,9,10] Z<|G.loop (fun fr C' n o=>∃ (i:Nat),(i<=a.length)/\fr=[(0,[],.slice l a.length c0),(8,[],.slice l a.length c0),(9,[],.int .i64 a.length),(10,[],.int .i64 i)]/\n=[]/\o=a.length-i) (hn_ [0,8,9,10] Z) ⟨0,QT _,Z,Z,Z⟩ (fun fr ar au m _ p=>?_);obtain ⟨i,hi,rfl,rfl,rfl⟩:=p;refine Uu 1 [0,8,9,10,11] Z<|Ux (fun H=>?_) fun H=>?_
 ·have I:i<a.length:=by simpa using H
  obtain ⟨r,B⟩:∃ r,a[i]?=some r:=⟨a[i],aj I⟩;obtain ⟨w,J⟩:∃ w,vs[i]?=some w:=⟨vs[i]'(by rw [z.1];exact I),aj _⟩;have K:=QQ B;obtain ⟨ae,af⟩:=e r K;have av:=ac r K;have aw:(r.f++[r.b]).length<=1001:=by simp;omega
  have x:=z.2 i w r J B;obtain ⟨Aw,cw,rfl,_⟩:=id x;refine Uz fun R c=>UK A.m_ U10 om_ (kH J B) fl_ fun ay ag=>Uw ag U8<|UP U5 fun b5=>UG (j:=0) U12<|UA [0,5,8,9,10] c Z<|G.freeze 0 Z fun _ _ E=>G.cut (fun fr C' n o=>∃ (g:Option Addr)(k:Nat),(Sl C' 1 (.slice g (r.f++[r.b]).length k) ((r.f++[r.b]).map fp))/\fr=[(0,[],.slice l a.length c0),(8,[],.slice l a.length c0),(9,[],.int .i64 a.length),(10,[],.int .i64 i),(20,[],.slice g (r.f++[r.b]).length k),(21,[],.int .i64 (r.f++[r.b]).length),(22,[],.int .i64 0)]/\n=[]) ?_ (fun fr az aA o aB p=>?_)
  ·refine Vp (.cut [0,1,3,8] (.alt 2 (.fin [4,5,6,7]) (.alt 4 (.cut [] (.alt 2 (.fin [5,6,7]) (.alt 5 (.fin [2,6,7]) .stop))) .stop))) [(2,3)] Z Z kr_ fun R hB c L=>Uy U6<|Uw (bkT E 1) U8<|UB 2 Z<|Vd L Z ⟨?_, ?_,trivial⟩
   ·refine D.call (qJ _ _ r.f x.m_ om_) Z (.inr dc_) U6 (QW _) fl_ fun M N O _ s=>Uw (bkT E 1) U8<|UR [fp r.b] U12 (fun Q S _ t=>?_);obtain ⟨T,U,cc,rfl,rfl⟩:=s;refine UZ (j:=0) U11 t.m_ (by simp [fp,lH,ai]) ax (by simp only [aK];omega) fl_ fun g V k=>C4 1 [0,8,9,10,20,21,22] c Z<|G.freezeArr 0 ((r.f++[r.b]).map fp) rfl am (by intro r e;obtain ⟨y,_,rfl⟩:=QX.1 e;rfl) am (fun W X d=>?_);obtain ⟨Y,cz,u,_⟩:=id d;cases u
    simp only [al] at d ⊢;exact G.dropAll<|UL 0 mup (hn_ [0,8,9,10,20,21,22] Z) ⟨_,_,d,Z,Z⟩
   refine Uw (bkT E 1) U8<|Vd L Z ⟨?_, ?_,trivial⟩
   ·refine D.call (qJ _ _ r.f x.m_ om_) Z (.inr dc_) U6 (QW _) fl_ fun M N O _ s=>UR [fp r.b] U12 (fun Q S _ t=>?_);obtain ⟨T,U,cc,rfl,rfl⟩:=s;refine UZ (j:=0) U11 t.m_ (by simp [fp,lH,ai]) ax (by simp only [aK];omega) fl_ fun g V k=>C4 1 [0,8,9,10,20,21,22] c Z<|G.freezeArr 0 ((r.f++[r.b]).map fp) rfl am (by intro r e;obtain ⟨y,_,rfl⟩:=QX.1 e;rfl) am (fun W X d=>?_);obtain ⟨Y,cz,u,_⟩:=id d;cases u
    simp only [al] at d ⊢;exact G.dropAll<|UL 0 mup (hn_ [0,8,9,10,20,21,22] Z) ⟨_,_,d,Z,Z⟩
   refine UR [fp r.b] U12 fun Q S _ t=>D.call (qJ _ _ r.f x.m_ om_) Z (.inr dc_) U6 (QW _) fl_ (fun M N O _ s=>?_);obtain ⟨T,U,cc,rfl,rfl⟩:=s;refine UZ (j:=0) U11 t.m_ (by simp [fp,lH,ai]) ax (by simp only [aK];omega) fl_ fun g V k=>C4 1 [0,8,9,10,20,21,22] c Z<|G.freezeArr 0 ((r.f++[r.b]).map fp) rfl am (by intro r e;obtain ⟨y,_,rfl⟩:=QX.1 e;rfl) am (fun W X d=>?_);obtain ⟨Y,cz,u,_⟩:=id d;cases u
   simp only [al] at d ⊢;exact G.dropAll<|UL 0 mup (hn_ [0,8,9,10,20,21,22] Z) ⟨_,_,d,Z,Z⟩
  obtain ⟨g,k,ah,rfl,rfl⟩:=p;refine G.loop (fun fr C' n o=>∃ (j:Nat),(j<=(r.f++[r.b]).length)/\fr=[(0,[],.slice l a.length c0),(8,[],.slice l a.length c0),(9,[],.int .i64 a.length),(10,[],.int .i64 i),(20,[],.slice g (r.f++[r.b]).length k),(21,[],.int .i64 (r.f++[r.b]).length),(22,[],.int .i64 j)]/\n=[]/\o=(r.f++[r.b]).length-j) (hn_ [0,8,9,10,20,21,22] Z) ⟨0,QT _,Z,Z,Z⟩ (fun fr aC aD m _ p=>?_);obtain ⟨j,hj,rfl,rfl,rfl⟩:=p;refine Uu 1 [0,8,9,10,20,21,22,23] Z<|Ux (fun aa=>?_) fun aa=>?_
  ·have ak:j<(r.f++[r.b]).length:=by
    have:=aJ aa;omega
   obtain ⟨q,hq⟩:∃ q,(r.f++[r.b])[j]?=some q:=⟨(r.f++[r.b])[j],aj ak⟩;have ab:QB 22 q:=by
    rcases Q6.1 (QQ hq) with h | h
    ·exact ae q h
    rw [Rc.1 h];exact af
   refine Uz fun R c=>UK ah.m_ U10 om_ (bY hq) fl_ fun aE an=>Uw an U8<|C4 1 [0,7,8,9,10,20,21,22] c Z<|Uv 1 Z fun R c=>UI (dX _ hT.m_ _ (tW ab)) U7<|C4 1 [0,8,9,10,20,21,22,28] c Z<|Ux (fun F=>?_) fun F=>?_
   ·exfalso;rw [xw ab] at F;exact absurd F dc_
   refine Uz fun R c=>UF _ U7<|C4 1 [0,8,9,10,20,21,22] c Z<|UH (m':=(r.f++[r.b]).length-(j+1)) om_ mup (hn_ [0,8,9,10,20,21,22] Z) ⟨j+1,om_,Z,Z,Z⟩
  refine Uz fun R c=>UF _ U7<|C4 1 [0,8,9,10] c Z<|UH (m':=a.length-(i+1)) om_ mup (hn_ [0,8,9,10] Z) ⟨i+1,om_,Z,Z,Z⟩
 refine Uu 3 [2,3] Z<|UJ (G.dropAll (UX U3 ?_));exact ⟨Z,Z⟩
def iG (s p k:Nat)(fm:List (Nat × Rat))(b sg:Rat):RowQ:=⟨Jn s p k fm sg,sg*b⟩
theorem jq (C:Mem)(N:Tabs C)(s p d b g v:Nat)(c:List (Nat × Rat))(e:Rat)(a:List Rat)(H w:Value)(n:List Value)(f:List RowQ)(ah:s*p<=60)(O:d<s)(Q:C v=some (.cells ⟨[.int .i64 (s:Nat),.int .i64 (p:Nat)]⟩ 142 (0,0)))(S:C b=some (aR keyZ.enc (eK c)))(T:(c.map (·.1)).Nodup)(U:∀ x∈c,x.1<p)(V:∀ x∈c,QB 23 x.2)(W:QB 23 e)
  (y:Sl C 1 H (a.map fp)) (X:∀ q∈a,QB 1 q) (ak:a.length<=2) (Y:RowsOk C n f) (an:f.length<=10000) :
  Jog.Fn cx.P 195 [.int .i64 d,.map (some b),ai (qtx e),H,.pointer (some ⟨g,0,none⟩),.pointer (some ⟨v,0,none⟩)] C [.obj g (.cells ⟨[w]⟩ 78 (0,0)),.arr w 123 2 f.length (aT n f).flatten]
   fun u C' k=>∃ I w',u=.tuple #[]/\k=[.obj g (.cells ⟨[w']⟩ 78 (0,0)),.arr w' 123 2 (f++a.map (iG s p d c e)).length (aT I (f++a.map (iG s p d c e))).flatten]/\RowsOk C' I (f++a.map (iG s p d c e)):=by
 obtain ⟨A0,c0,rfl,aa,ao,_⟩:=id y;have ap:maxLen<=9223372036854775807:=by simp [maxLen]
 simp only [al] at y aa ⊢;refine UD func195 28 U3 fun w0=>Uu 3 [0,1,2,4,5,12,13,14] Z<|UN (L':=[.obj g (.cells ⟨[w]⟩ 78 (0,0)),.arr w 123 2 (f++(a.take 0).map (iG s p d c e)).length (aT n (f++(a.take 0).map (iG s p d c e))).flatten]) am<|G.loop (fun fr C' k μ=>∃ (i:Nat)(h:List Value)(o:Value),(i<=a.length/\RowsOk C' h (f++(a.take i).map (iG s p d c e)))/\fr=[(0,[],.int .i64 d),(1,[],.map (some b)),(2,[],ai (qtx e)),(4,[],.pointer (some ⟨g,0,none⟩)),(5,[],.pointer (some ⟨v,0,none⟩)),(12,[],.slice A0 a.length c0),(13,[],.int .i64 a.length),(14,[],.int .i64 i)]/\k=[.obj g (.cells ⟨[o]⟩ 78 (0,0)),.arr o 123 2 (f++(a.take i).map (iG s p d c e)).length (aT h (f++(a.take i).map (iG s p d c e))).flatten]/\μ=a.length-i) (hn_ [0,1,2,4,5,12,13,14] Z) ⟨0,n,w,⟨QT _,by simpa using Y⟩,Z,Z,Z⟩ (fun fr aq ar m _ hI=>?_);obtain ⟨i,h,o,⟨hi,t⟩,rfl,rfl,rfl⟩:=hI;refine Uu 1 [0,1,2,4,5,12,13,14,15] Z<|Ux (fun z=>?_) fun z=>?_
 ·have A:i<a.length:=by simpa using z
  obtain ⟨sg,B⟩:∃ sg,a[i]?=some sg:=⟨a[i],aj A⟩;have ab:=X sg (QQ B);have au:(f++(a.take i).map (iG s p d c e)).length<=10002:=by
   rw [QV,al,Q5];omega
  have J:f++(a.take (i+1)).map (iG s p d c e)=f++(a.take i).map (iG s p d c e)++[iG s p d c e sg]:=by
   rw [Rm,B];simp
  refine Uz fun R l=>UK y.m_ U10 om_ (bY B) fl_ fun av ac=>Uw ac U8<|C4 1 [0,1,2,4,5,11,12,13,14] l Z<|US [0,1,2,3,4,5,6,7,8,9] [] Z kr_ fun R hB l=>UE af U9<|Uw (bkT Q 2) U8<|UB 4 Z<|U0 (O4 _ N.m_ s p d b c sg e 23 dc_ dc_ om_ O (Mem.get S mup) T U V (ab.le dc_) W) U7 fl_ (fun aw _ _ ad=>?_);obtain ⟨fv,rfl,D⟩:=ad;obtain ⟨E,F,rfl,_⟩:=id D;simp only [al] at D ⊢;refine UR [[.slice E (Jn s p d c sg).length F,ai (qtx (sg*e))]] U12 fun ay _ _ ae=>UZ (j:=1) U11 ae.m_ Z ax (by simp only [aK];omega) fl_ fun K L M=>UG (j:=1) U12<|UA [0,1,2,4,5,12,13,14] l Z<|Uz fun R l=>UF _ U7<|C4 1 [0,1,2,4,5,12,13,14] l Z ?_;have ag:=RowsOk.snoc (r:=iG s p d c e sg) t.m_ D;refine UN (L':=[.obj g (.cells ⟨[.slice K L M]⟩ 78 (0,0)),.arr (.slice K L M) 123 2 (f++(a.take (i+1)).map (iG s p d c e)).length (aT (h++[.slice E (Jn s p d c sg).length F]) (f++(a.take (i+1)).map (iG s p d c e))).flatten]) (by rw [J,fw t.1];simp [iG,aE];omega)<|UH (m':=a.length-(i+1)) om_ mup (hn_ [0,1,2,4,5,12,13,14] Z) ⟨i+1,h++[.slice E (Jn s p d c sg).length F],_,⟨by omega,by rw [J];exact ag.mono mup⟩,Z,Z,Z⟩
 have A:i=a.length:=by
  have:¬ i<a.length:=by simpa using z
  omega
 rw [A,Q2] at t ⊢;exact VI Z<|⟨h,o,Z,Z,t.mono mup⟩
noncomputable def qw (o:Obs):Rat:=-dz o.nx / dz o.nz
noncomputable def je (o:Obs):Rat:=-dz o.ny / dz o.nz
def upN (B:Bk)(o:Obs):Nat:=(kf (isU o.upper) B.col 0).toNat
noncomputable def rowsO (B:Bk)(o:Obs)(p:Pt)(t:Tri)(z:Rat):List RowQ :=
 if o.kind=1 then (if 0<upN B o then [iG (bs B) (bp B) (upN B o-1) (atT t (wgt B.pts t p)) (kA o z) 1] else [])++(if upN B o<bs B then [iG (bs B) (bp B) (upN B o) (atT t (wgt B.pts t p)) (kA o z) (-1)] else [])
 else if o.kind=2 then (cJ B.col o).flatMap fun k=>[1, -1].map (iG (bs B) (bp B) k (atT t (wgt B.pts t p)) (kA o z))
 else (cJ B.col o).flatMap fun k=>[1, -1].map (iG (bs B) (bp B) k (atT t fun j=>(slf B.pts t j).1) (qw o))++[1, -1].map (iG (bs B) (bp B) k (atT t fun j=>(slf B.pts t j).2) (je o))
structure Fine (B:Bk)(fs:List Rat)(o:Obs)(p:Pt)(ti:Nat)(t:Tri)(z:Rat):Prop where
 place:ObsAt o p
 loc:∃ r,lO B.pts B.tris p=ti::r
 tri:B.tris[ti]?=some t
 val:EQ B.pts B.tris fs p=.tuple #[ai (qtx z),.int .i64 0]
 qz:QB 22 z
 qh:QB 22 (kA o z)
 w:∀ j,QB 22 (wgt B.pts t p j)
 up:0<=kf (isU o.upper) B.col 0
 sl:∀ j,QP 22 (slf B.pts t j)
 nr:o.kind≠1->o.kind≠2->(bg o.nx=true/\bg o.ny=true/\bg o.nz=true)/\QB 11 (dz o.nx)/\QB 11 (dz o.ny)/\QB 11 (dz o.nz)/\dz o.nz≠0
 rows:∀ r∈rowsO B o p t z,Ox r
theorem OV (h:Sl C 1 v [[ai [49]]]):Sl C 1 v (([1]:List Rat).map fp):=by rw [<- dA] at h;exact h
theorem OW (h:Sl C 1 v [[ai [45,49]]]):Sl C 1 v (([-1]:List Rat).map fp):=by rw [<- cX] at h;exact h
theorem Fq (h:Sl C 1 v [[ai [49]],[ai [45,49]]]):Sl C 1 v (([1, -1]:List Rat).map fp):=by rw [<- cX,<- dA] at h;exact h
theorem OO:∀ q∈([1]:List Rat),QB 1 q:=by simp;exact QB_one
theorem OP:∀ q∈([-1]:List Rat),QB 1 q:=by simp;exact mV
theorem rL:∀ q∈([1, -1]:List Rat),QB 1 q:=by
 intro q a;simp only [Q3,RU,Tk] at a;rcases a with rfl | rfl
 ·exact QB_one
 exact mV
theorem gn {f:Nat->Rat}{P:Nat × Rat->Prop}(b:P (t.1,f 0))(c:P (t.2.1,f 1))(d:P (t.2.2,f 2)):∀ x∈atT t f,P x:=by
 intro x a;simp only [atT,Q3,RU,Tk] at a;rcases a with rfl | rfl | rfl <;> assumption
theorem IV {a b:Int}(h:k∈vQ a b n):k<n:=by
 unfold vQ at h;rw [SV,Q9] at h;exact h.1
theorem jo {a b:Type}(f:a->List b){l:List a}{j:Nat}{x:a}(h:l[j]?=some x):(l.take (j+1)).flatMap f=(l.take j).flatMap f++f x:=by
 rw [Rm,h,List.flatMap_append];simp
theorem fO {a b:Type}{f:a->List b}{c:Nat}(h:∀ x,(f x).length=c):∀ l:List a,(l.flatMap f).length=c*l.length
 | []=>by simp
 | x::l=>by rw [List.flatMap_cons,QV,h,fO h l,Q8,Nat.mul_succ,Tn]
theorem AT :∀ r∈rowsO B o p t z,r.f.length=bs B*bp B:=by
 have a:∀ k d b sg,(iG (bs B) (bp B) k d b sg).f.length=bs B*bp B:=fun k d b sg=>jD _ _;intro r hr;unfold rowsO at hr;split at hr
 ·rcases Q6.1 hr with h | h
  ·split at h
   ·rw [Rc.1 h];exact a _ _ _ _
   cases h
  split at h
  ·rw [Rc.1 h];exact a _ _ _ _
  cases h
 split at hr
 ·obtain ⟨k,_,c⟩:=List.mem_flatMap.1 hr;obtain ⟨sg,_,rfl⟩:=QX.1 c;exact a _ _ _ _
 obtain ⟨k,_,c⟩:=List.mem_flatMap.1 hr;rcases Q6.1 c with h | h
 ·obtain ⟨sg,_,rfl⟩:=QX.1 h;exact a _ _ _ _
 obtain ⟨sg,_,rfl⟩:=QX.1 h;exact a _ _ _ _
theorem wh (h:(cJ B.col o).length<=60):(rowsO B o p t z).length<=240:=by
 unfold rowsO;split
 ·rw [QV];have h1:∀ (c:Prop)[Decidable c] (r:RowQ),(if c then [r] else []).length<=1:=fun c _ r=>by split <;> simp
  have:=h1 (0<upN B o) (iG (bs B) (bp B) (upN B o-1) (atT t (wgt B.pts t p)) (kA o z) 1);have:=h1 (upN B o<bs B) (iG (bs B) (bp B) (upN B o) (atT t (wgt B.pts t p)) (kA o z) (-1));omega
 split
 ·rw [fO (c:=2) (fun k=>by simp)];omega
 rw [fO (c:=4) (fun k=>by simp)];omega
theorem MT (C:Mem)(d:Tabs C)(bv:Value)(B:Bk)(fs:List Rat)(i:Nat)(o:Obs)(p:Pt)(ti:Nat)(t:Tri)(z:Rat)(L:BookIn C bv B)(Q:Good B.pts B.tris)(am:BookR B)(aL:iB B=0)(hF:Terr B fs)(U:B.obs[i]?=some o)(b:Fine B fs o p ti t z)(S:bs B*bp B<=60)(a4:sS B.col=0)(bS:bs B+1=B.col.length)(bT:B.col.length<=60) :
  Pur cx.P 128 [gx (bs B) (bp B),bv,.int .i64 i] C fun u D=>∃ v,u=.tuple #[v,.int .i64 0]/\RowsIn D v (rowsO B o p t z):=by
 have an:=L;have hM:=Q.ok;obtain ⟨r,a5⟩:=b.loc;have aM:=QQ b.tri;have l:=hM.ins t aM;have ao:=tJ hM aM;have bU:=(aD.1 U).1;have V:=b.place;obtain ⟨u,W⟩:∃ u:Nat,kf (isU o.upper) B.col 0=(u:Nat):=⟨_,(Int.toNat_of_nonneg b.up).symm⟩;have a6:upN B o=u:=by unfold upN;rw [W];rfl
 have bV:u<B.col.length:=by
  rcases mY (isU o.upper) B.col with ⟨h,_⟩ | ⟨k,x,h,h2,_⟩
  ·rw [W] at h;omega
  have:=(aD.1 h2).1;rw [W] at h;omega
 have ap:=qP (wgt B.pts t p) ao;have aq:∀ x∈atT t (wgt B.pts t p),x.1<bp B:=gn (P:=fun x=>x.1<bp B) l.1 l.2.1 l.2.2;have ar:∀ x∈atT t (wgt B.pts t p),QB 23 x.2:=gn (P:=fun x=>QB 23 x.2) ((b.w 0).le dc_) ((b.w 1).le dc_) ((b.w 2).le dc_);have au:QB 23 (kA o z):=b.qh.le dc_;have a7:(cJ B.col o).length<=bs B:=by
  unfold cJ vQ;refine Rb (R5 _ _) ?_;rw [RL];unfold bs;omega
 have aN:∀ k∈cJ B.col o,k<bs B:=fun k hk=>IV hk;obtain ⟨v1,v2,tv,cv,ov,rfl,h1,h2,h3,h4,h5⟩:=id L.ex;have aO:MeshIn C (.agg ⟨[v1,v2]⟩) B.pts B.tris:=⟨v1,v2,rfl,h1,h2⟩;obtain ⟨A5,c5,rfl,a8,bW,_⟩:=id h5;have bX:maxLen<=9223372036854775807:=by simp [maxLen]
 simp only [al] at h5 a8 an ⊢;refine UD func128 172 U3 fun w0=>?_;refine Uz fun R a=>?_;refine UQ U6 (fun n=>?_);refine UQ U6 (fun b4=>?_);refine C4 2 [2,3,4] a Z ?_;clear a R;refine G.freeze 1 Z (fun _ _ M=>?_);refine G.freeze 0 Z (fun _ _ N=>?_);refine Uv 1 Z fun R a=>?_;refine Uw (bkT N 1) U8 ?_;refine Uy U6 ?_;refine UK h5.m_ U10 om_ (bY U) fl_ (fun bZ a9=>?_);refine Uw a9 U8 ?_;refine UP U5 (fun b8=>?_);refine UG (j:=0) U12 ?_;refine UA [2,3,4,8] a Z ?_;clear a R;refine G.freeze 0 Z (fun C8 _ E=>?_);refine Uv 1 Z fun R a=>?_;refine Uw (bkT N 2) U8 ?_;refine Uy U6 ?_;refine Uw (bkT E 2) U8 ?_;refine U0 (by have h:=Ee C8 d.m_ _ B.pts B.tris p ti r t aO.m_ Q V.q V.r a5 b.tri b.w;rw [<- wI V] at h;exact h) U7 fl_ (fun b0 _ _ ba=>?_);obtain ⟨T,rfl,av⟩:=ba;refine C4 7 [2,3,4,8,9,10,11] a Z ?_;clear a R;refine Uu 2 [2,3,4,8,9,10,11,45] Z ?_;refine Ux (fun aP=>?_) fun aP=>?_
 ·exact absurd aP dc_
 refine Uz fun R a=>?_;refine Uw (bkT N 5) U8 ?_;refine Uy U6 ?_;refine UI (DQ _ d.m_ _ B fs i o p z an.m_ Q am aL hF U V b.val b.qz b.qh) U7 ?_;refine C4 5 [2,3,4,8,9,10,11,12] a Z ?_;clear a R;refine Uu 2 [2,3,4,8,9,10,11,12,54] Z ?_;refine Ux (fun aQ=>?_) fun aQ=>?_
 ·exact absurd aQ dc_
 refine Uz fun R a=>?_;refine Uw (bkT N 5) U8 ?_;refine Uy U6 ?_;refine Ve (vP _ d.m_ _ B i o an.m_ Q am aL U) U7 (fun b1 _ _ bb=>?_);obtain ⟨lv,rfl,aw⟩:=bb;obtain ⟨Al,cl,aR,_⟩:=id aw;rw [al] at aR;subst aR;refine C4 5 [3,4,8,9,10,11,12,13] a Z ?_;clear a R;refine Uu 2 [3,4,8,9,10,11,12,13,63] Z ?_;refine Ux (fun aS=>?_) fun aS=>?_
 ·exact absurd aS dc_
 refine Uz fun R a=>?_;refine UP U5 (fun c=>?_);refine UA [3,4,8,9,10,12,13,14] a Z ?_;clear a R;refine G.nilArr 123 2 (G.perm (L':=[.obj c (.cells ⟨[.slice none 0 0]⟩ 78 (0,0)),.arr (.slice none 0 0) 123 2 0 []]) (List.Perm.swap _ _ _) ?_);refine Uu 2 [3,4,8,9,10,12,13,14,15] Z ?_;refine Uv 1 Z fun R a=>?_;refine Uw (bkT E 1) U8 ?_;refine UA [3,4,8,9,10,12,13,14,15,67] a Z ?_;clear a R;refine Uu 2 [3,4,8,9,10,12,13,14,15,67,120] Z ?_;refine G.cut (fun fr C' y F=>∃ (vs:List Value)(w:Value),(RowsOk C' vs (rowsO B o p t z))/\fr=[(14,[],.pointer (some ⟨c,0,none⟩))]/\y=[.obj c (.cells ⟨[w]⟩ 78 (0,0)),.arr w 123 2 (rowsO B o p t z).length (aT vs (rowsO B o p t z)).flatten]) ?_ (fun fr _ b2 F _ H=>?_)
 ·refine Ux (fun X=>?_) fun X=>?_
  ·have hk:o.kind=1:=dU X;obtain ⟨s,O⟩:∃ s,(if 0<u then [iG (bs B) (bp B) (u-1) (atT t (wgt B.pts t p)) (kA o z) 1] else [])=s:=⟨_,rfl⟩;have A:rowsO B o p t z=s++(if u<bs B then [iG (bs B) (bp B) u (atT t (wgt B.pts t p)) (kA o z) (-1)] else []):=by unfold rowsO;rw [aW hk,a6,O]
   refine Uv 1 Z fun R a=>?_;refine Uw (bkT N 1) U8 ?_;refine Uy U6 ?_;refine Uw (bkT E 1) U8 ?_;refine UI (zj _ d.m_ _ B.col o.upper h4.m_ am.col a4 u W) U7 ?_;refine C4 7 [3,9,12,14,15,16,18] a Z ?_;clear a R;refine Uu 2 [3,9,12,14,15,16,18,132] Z ?_;refine Ux (fun aU=>?_) fun aU=>?_
   ·exact absurd aU dc_
   refine Uu 2 [3,9,12,14,15,16,135] Z ?_;refine G.cut (fun fr C' y F=>∃ (vs:List Value)(w:Value),(RowsOk C' vs s)/\fr=[(3,[],.pointer (some ⟨n,0,none⟩)),(9,[],.map (some T)),(12,[],ai (qtx (kA o z))),(14,[],.pointer (some ⟨c,0,none⟩)),(15,[],.func (.func 195) #[] #[.pointer (some ⟨c,0,none⟩),.pointer (some ⟨n,0,none⟩)]),(16,[],.int .i64 u)]/\y=[.obj c (.cells ⟨[w]⟩ 78 (0,0)),.arr w 123 2 s.length (aT vs s).flatten]) ?_ (fun fr _ b5 F _ H=>?_)
   ·refine Ux (fun ax=>?_) fun ax=>?_
    ·have ay:0<u:=by
      have:=aJ ax;omega
     rw [aW ay] at O;subst O;refine UW [(6,3)] Z (fun R a=>?_);refine UB 2 Z ?_;refine Vf (((u-1:Nat):Int)) U4 om_ om_ om_ U2 ?_;refine UB 2 Z ?_;refine UR [[ai [49]]] U12 (fun b6 _ _ bc=>?_);refine D.call (jq _ d.m_ (bs B) (bp B) (u-1) T c n (atT t (wgt B.pts t p)) (kA o z) [1] _ (.slice none 0 0) [] [] S om_ (Mem.get M mup) (Mem.get av mup) ap aq ar au ((OV bc).mono mup) OO dc_ (RowsOk.nil _) dc_) Z (.inr dc_) U6 (QW _) fl_ (fun b7 _ b9 _ bd=>?_);refine UA [3,9,12,14,15,16] a Z ?_;clear a R;obtain ⟨bf,w1,rfl,rfl,bg⟩:=bd;refine UL 0 mup (hn_ [3,9,12,14,15,16] Z) ⟨bf,w1,bg,Z,Z⟩
    have ay:¬ 0<u:=by
     have:=QS ax;omega
    rw [az ay] at O;subst O;refine UL 0 (Mem.le.refl _) (hn_ [3,9,12,14,15,16] Z) ⟨[],.slice none 0 0,RowsOk.nil _,Z,Z⟩
   obtain ⟨vs ,w,aA,rfl,rfl⟩:=H;refine Uv 2 Z fun R a=>?_;refine Uw (bkT M 1) U8 ?_;refine C4 1 [9,12,14,15,16,146] a Z ?_;clear a R;refine Ux (fun aB=>?_) fun aB=>?_
   ·have Y:u<bs B:=by
     have:=aJ aB;omega
    rw [aW Y] at A;have ca:s.length<=1:=by rw [<- O];split <;> simp
    refine UW [(5,3)] Z (fun R a=>?_);refine UB 4 Z ?_;refine UR [[ai [45,49]]] U12 (fun cb _ _ bh=>?_);refine D.call (jq _ d.m_ (bs B) (bp B) u T c n (atT t (wgt B.pts t p)) (kA o z) [-1] _ w vs s S Y (Mem.get M mup) (Mem.get av mup) ap aq ar au ((OW bh).mono mup) OP dc_ aA.m_ om_) Z (.inr dc_) U6 (QW _) fl_ (fun cc _ cd _ bi=>?_);refine UA [14] a Z ?_;clear a R;obtain ⟨bj,w2,rfl,rfl,aV⟩:=bi;rw [show s++([-1]:List Rat).map (iG (bs B) (bp B) u (atT t (wgt B.pts t p)) (kA o z))=rowsO B o p t z from A.symm] at aV ⊢;refine UL 0 mup (hn_ [14] Z) ⟨bj,w2,aV,Z,Z⟩
   have Y:¬ u<bs B:=by
    have:=QS aB;omega
   rw [az Y,Rf] at A;rw [<- A] at aA ⊢;refine UL 0 mup (hn_ [14] Z) ⟨vs,w,aA.mono mup,Z,Z⟩
  have aC:¬ o.kind=1:=by
   intro e;rw [show ((o.kind == 1)=true) by rw [e];rfl] at X;cases X
  refine Uu 2 [4,8,9,10,12,13,14,15,153] Z ?_;refine Ux (fun aa=>?_) fun aa=>?_
  ·have ab:o.kind=2:=dU aa;obtain ⟨f,aE⟩:∃ f,(fun k=>([1, -1]:List Rat).map (iG (bs B) (bp B) k (atT t (wgt B.pts t p)) (kA o z)))=f:=⟨_,rfl⟩;have A:rowsO B o p t z=(cJ B.col o).flatMap f:=by unfold rowsO;rw [az aC,aW ab,<- aE]
   have bk:∀ k,(f k).length=2:=fun k=>by rw [<- aE];rfl
   refine Uu 3 [9,12,14,15,155,156,157] Z ?_;refine G.loop (fun fr C' y F=>∃ (j:Nat)(vs:List Value)(w:Value),(j<=(cJ B.col o).length/\RowsOk C' vs (((cJ B.col o).take j).flatMap f))/\fr=[(9,[],.map (some T)),(12,[],ai (qtx (kA o z))),(14,[],.pointer (some ⟨c,0,none⟩)),(15,[],.func (.func 195) #[] #[.pointer (some ⟨c,0,none⟩),.pointer (some ⟨n,0,none⟩)]),(155,[],.slice Al (cJ B.col o).length cl),(156,[],.int .i64 (cJ B.col o).length),(157,[],.int .i64 j)]/\y=[.obj c (.cells ⟨[w]⟩ 78 (0,0)),.arr w 123 2 (((cJ B.col o).take j).flatMap f).length (aT vs (((cJ B.col o).take j).flatMap f)).flatten]/\F=(cJ B.col o).length-j) (hn_ [9,12,14,15,155,156,157] Z) ⟨0,[],.slice none 0 0,⟨QT _,RowsOk.nil _⟩,Z,Z,Z⟩ (fun fr ce cf m _ H=>?_);obtain ⟨j,vs,w,⟨hj,I⟩,rfl,rfl,rfl⟩:=H;refine Uu 1 [9,12,14,15,155,156,157,158] Z ?_;refine Ux (fun aF=>?_) fun aF=>?_
   ·have J:j<(cJ B.col o).length:=by
     have:=aJ aF;omega
    obtain ⟨k,K⟩:∃ k,(cJ B.col o)[j]?=some k:=⟨(cJ B.col o)[j],aj J⟩;have ac:=aN k (QQ K);have ad:=fO bk ((cJ B.col o).take j);rw [Q5] at ad;have aG:=jo f K;refine Uz fun R a=>?_;refine UK aw.m_ U10 om_ (bY K) fl_ (fun cg bl=>?_);refine Uw bl U8 ?_;refine C4 1 [9,12,14,15,20,155,156,157] a Z ?_;clear a R;refine UW [(5,3)] Z (fun R a=>?_);refine UB 4 Z ?_;refine UR [[ai [49]],[ai [45,49]]] U12 (fun ch _ _ bm=>?_);refine D.call (jq _ d.m_ (bs B) (bp B) k T c n (atT t (wgt B.pts t p)) (kA o z) [1, -1] _ w vs _ S ac (Mem.get M mup) (Mem.get av mup) ap aq ar au ((Fq bm).mono mup) rL dc_ I.m_ om_) Z (.inr dc_) U6 (QW _) fl_ (fun ci _ cj _ bo=>?_);refine UA [9,12,14,15,155,156,157] a Z ?_;clear a R;refine Uz fun R a=>?_;refine UF _ U7 ?_;refine C4 1 [9,12,14,15,155,156,157] a Z ?_;clear a R;obtain ⟨aH,w3,rfl,rfl,ae⟩:=bo;rw [show ((cJ B.col o).take j).flatMap f++([1, -1]:List Rat).map (iG (bs B) (bp B) k (atT t (wgt B.pts t p)) (kA o z))=((cJ B.col o).take (j+1)).flatMap f by rw [aG,<- aE]] at ae ⊢;refine UH (m':=(cJ B.col o).length-(j+1)) om_ mup (hn_ [9,12,14,15,155,156,157] Z) ⟨j+1,aH,w3,⟨by omega,ae⟩,Z,Z,Z⟩
   have J:j=(cJ B.col o).length:=by
    have:=QS aF;omega
   rw [J,Q2,<- A] at I ⊢;refine UL 0 mup (hn_ [14] Z) ⟨vs,w,I.mono mup,Z,Z⟩
  have ab:¬ o.kind=2:=by
   intro e;rw [show ((o.kind == 2)=true) by rw [e];rfl] at aa;cases aa
  obtain ⟨⟨bq,br,bt⟩,aX,aY,ag,ah⟩:=b.nr aC ab;obtain ⟨e1,q1⟩:=dL bq;obtain ⟨e2,q2⟩:=dL br;obtain ⟨e3,q3⟩:=dL bt;have aZ:(qtx (dz o.nx)).length<=1000000:=Rb (bJ q1 dc_) dc_;have bu:(qtx (dz o.ny)).length<=1000000:=Rb (bJ q2 dc_) dc_;have bx:QB 23 (qw o):=(js (fe aX) ag ah).le dc_;have bz:QB 23 (je o):=(js (fe aY) ag ah).le dc_;obtain ⟨g,aI⟩:∃ g,(fun k=>([1, -1]:List Rat).map (iG (bs B) (bp B) k (atT t fun j=>(slf B.pts t j).1) (qw o))++([1, -1]:List Rat).map (iG (bs B) (bp B) k (atT t fun j=>(slf B.pts t j).2) (je o)))=g:=⟨_,rfl⟩;have A:rowsO B o p t z=(cJ B.col o).flatMap g:=by unfold rowsO;rw [az aC,az ab,<- aI]
  have bA:∀ k,(g k).length=4:=fun k=>by rw [<- aI];rfl
  have bB:=qP (fun j=>(slf B.pts t j).1) ao;have bC:=qP (fun j=>(slf B.pts t j).2) ao;have bD:∀ x∈atT t (fun j=>(slf B.pts t j).1),x.1<bp B:=gn (P:=fun x=>x.1<bp B) l.1 l.2.1 l.2.2;have bE:∀ x∈atT t (fun j=>(slf B.pts t j).2),x.1<bp B:=gn (P:=fun x=>x.1<bp B) l.1 l.2.1 l.2.2;have bF:∀ x∈atT t (fun j=>(slf B.pts t j).1),QB 23 x.2:=gn (P:=fun x=>QB 23 x.2) ((b.sl 0).1.le dc_) ((b.sl 1).1.le dc_) ((b.sl 2).1.le dc_);have bG:∀ x∈atT t (fun j=>(slf B.pts t j).2),QB 23 x.2:=gn (P:=fun x=>QB 23 x.2) ((b.sl 0).2.le dc_) ((b.sl 1).2.le dc_) ((b.sl 2).2.le dc_);refine Uv 1 Z fun R a=>?_;refine Uw (bkT N 2) U8 ?_;refine Uy U6 ?_;refine Ve (D9 _ d.m_ _ B.pts B.tris ti t aO.m_ Q b.tri b.sl) U7 (fun ck ak _ bH=>?_);obtain ⟨be,bn,rfl,bI,bK⟩:=bH;refine C4 7 [8,13,14,15,21,22,23] a Z ?_;clear a R;refine Uu 2 [8,13,14,15,21,22,23,77] Z ?_;refine Ux (fun a0=>?_) fun a0=>?_
  ·exact absurd a0 dc_
  refine US [0,1,2,3,4,5,6,7,8,9,10,11,12] [(3,1),(7,1)] Z kr_ (fun R L a=>?_);refine UB 2 Z ?_;refine Uw (bkT E 1) U8 ?_;refine UT (fun _=>(by have h:=eP ak (dz o.nx) aZ;rw [<- e1] at h;exact h)) U9 ?_;refine UB 2 Z ?_;refine Uw (bkT E 1) U8 ?_;refine UT (fun _=>(by have h:=gW ak d.m_ (-dz o.nx) (dz o.nz) 11 dc_ dc_ (fe aX) ag ah;rw [<- e3] at h;exact h)) U9 ?_;refine UB 5 Z ?_;refine UA [8,13,14,15,21,22,24] a Z ?_;clear a L R;refine US [0,1,2,3,4,5,6,7,8,9,10,11,12] [(3,1),(7,1)] Z kr_ (fun R L a=>?_);refine UB 2 Z ?_;refine Uw (bkT E 1) U8 ?_;refine UT (fun _=>(by have h:=eP ak (dz o.ny) bu;rw [<- e2] at h;exact h)) U9 ?_;refine UB 2 Z ?_;refine Uw (bkT E 1) U8 ?_;refine UT (fun _=>(by have h:=gW ak d.m_ (-dz o.ny) (dz o.nz) 11 dc_ dc_ (fe aY) ag ah;rw [<- e3] at h;exact h)) U9 ?_;refine UB 5 Z ?_;refine UA [13,14,15,21,22,24,26] a Z ?_;clear a L R;refine Uu 3 [14,15,21,22,24,26,101,102,103] Z ?_;refine G.loop (fun fr C' y F=>∃ (j:Nat)(vs:List Value)(w:Value),(j<=(cJ B.col o).length/\RowsOk C' vs (((cJ B.col o).take j).flatMap g))/\fr=[(14,[],.pointer (some ⟨c,0,none⟩)),(15,[],.func (.func 195) #[] #[.pointer (some ⟨c,0,none⟩),.pointer (some ⟨n,0,none⟩)]),(21,[],.map (some be)),(22,[],.map (some bn)),(24,[],ai (qtx (qw o))),(26,[],ai (qtx (je o))),(101,[],.slice Al (cJ B.col o).length cl),(102,[],.int .i64 (cJ B.col o).length),(103,[],.int .i64 j)]/\y=[.obj c (.cells ⟨[w]⟩ 78 (0,0)),.arr w 123 2 (((cJ B.col o).take j).flatMap g).length (aT vs (((cJ B.col o).take j).flatMap g)).flatten]/\F=(cJ B.col o).length-j) (hn_ [14,15,21,22,24,26,101,102,103] Z) ⟨0,[],.slice none 0 0,⟨QT _,RowsOk.nil _⟩,Z,Z,Z⟩ (fun fr cm cn m aZ H=>?_);obtain ⟨j,vs,w,⟨hj,I⟩,rfl,rfl,rfl⟩:=H;refine Uu 1 [14,15,21,22,24,26,101,102,103,104] Z ?_;refine Ux (fun aK=>?_) fun aK=>?_
  ·have J:j<(cJ B.col o).length:=by
    have:=aJ aK;omega
   obtain ⟨k,K⟩:∃ k,(cJ B.col o)[j]?=some k:=⟨(cJ B.col o)[j],aj J⟩;have ac:=aN k (QQ K);have ad:=fO bA ((cJ B.col o).take j);rw [Q5] at ad;have aG:=jo g K;refine Uz fun R a=>?_;refine UK aw.m_ U10 om_ (bY K) fl_ (fun co bL=>?_);refine Uw bL U8 ?_;refine C4 1 [14,15,21,22,24,26,29,101,102,103] a Z ?_;clear a R;refine UW [(5,3)] Z (fun R a=>?_);refine UB 4 Z ?_;refine UR [[ai [49]],[ai [45,49]]] U12 (fun cp _ _ bM=>?_);refine D.call (jq _ d.m_ (bs B) (bp B) k be c n (atT t fun j=>(slf B.pts t j).1) (qw o) [1, -1] _ w vs _ S ac (Mem.get M mup) (Mem.get bI mup) bB bD bF bx ((Fq bM).mono mup) rL dc_ I.m_ om_) Z (.inr dc_) U6 (QW _) fl_ (fun cq _ cr _ bN=>?_);refine UA [14,15,21,22,24,26,29,101,102,103] a Z ?_;clear a R;obtain ⟨aH,w3,rfl,rfl,ae⟩:=bN;refine UW [(5,3)] Z (fun R a=>?_);refine UB 4 Z ?_;refine UR [[ai [49]],[ai [45,49]]] U12 (fun cs _ _ bO=>?_);refine D.call (jq _ d.m_ (bs B) (bp B) k bn c n (atT t fun j=>(slf B.pts t j).2) (je o) [1, -1] _ w3 aH _ S ac (Mem.get M mup) (Mem.get bK mup) bC bE bG bz ((Fq bO).mono mup) rL dc_ ae.m_ (by rw [QV,ad];simp;omega)) Z (.inr dc_) U6 (QW _) fl_ (fun ct _ cu _ bP=>?_);refine UA [14,15,21,22,24,26,101,102,103] a Z ?_;clear a R;refine Uz fun R a=>?_;refine UF _ U7 ?_;refine C4 1 [14,15,21,22,24,26,101,102,103] a Z ?_;clear a R;obtain ⟨bQ,w4,rfl,rfl,a1⟩:=bP;rw [show ((cJ B.col o).take j).flatMap g++([1, -1]:List Rat).map (iG (bs B) (bp B) k (atT t fun j=>(slf B.pts t j).1) (qw o))++([1, -1]:List Rat).map (iG (bs B) (bp B) k (atT t fun j=>(slf B.pts t j).2) (je o))=((cJ B.col o).take (j+1)).flatMap g by rw [aG,<- aI,Rk]] at a1 ⊢;refine UH (m':=(cJ B.col o).length-(j+1)) om_ mup (hn_ [14,15,21,22,24,26,101,102,103] Z) ⟨j+1,bQ,w4,⟨by omega,a1⟩,Z,Z,Z⟩
  have J:j=(cJ B.col o).length:=by
   have:=QS aK;omega
  rw [J,Q2,<- A] at I ⊢;refine UL 0 mup (hn_ [14] Z) ⟨vs,w,I.mono mup,Z,Z⟩
 obtain ⟨vs ,w,a2,rfl,rfl⟩:=H;refine G.freezeArr 1 (aT vs (rowsO B o p t z)) Z Z (iX _ _) (dy a2.1) (fun Cr cw bR=>?_);have a3:RowsIn Cr w (rowsO B o p t z):=⟨vs,a2.mono mup,bR⟩;refine Uz fun R a=>?_;refine UE af U9 ?_;refine UM (Eg _ d.m_ w (rowsO B o p t z) a3.m_ b.rows (fun r hr=>by rw [AT r hr];omega) (Rb (wh (by unfold bs at a7;omega)) dc_)) U7 fl_ ?_;refine C4 4 [6,7] a Z ?_;clear a R;refine UJ (G.dropAll (UX U3 ?_));exact ⟨Z,w,Z,a3.mono mup⟩
structure Rich (B:Bk)(fs:List Rat)(RO:Nat->List RowQ):Prop where
 good:Good B.pts B.tris
 br:BookR B
 bz:iB B=0
 terr:Terr B fs
 h60:bs B*bp B<=60
 fine:∀ i o,B.obs[i]?=some o->∃ p ti t z,Fine B fs o p ti t z/\RO i=rowsO B o p t z
theorem mq (h:iB B=0):sS B.col=0:=by
 unfold iB at h;split at h
 ·rename_i h1;exact absurd h h1
 split at h
 ·rename_i h1;exact absurd h h1
 rename_i h1;exact Rq h1
theorem uU {l:List Lay}(h:sS l=0):l≠[]/\l.length<=60:=by
 unfold sS at h;split at h
 ·exact absurd h dc_
 rename_i h0;split at h
 ·exact absurd h dc_
 exact ⟨h0,by omega⟩
theorem Rich.bookz {a:Value}(h:Rich B fs RO)(d:Tabs C)(b:BookIn C a B):BookZ C a B 0 :=
 ⟨b,fun D c=>by have h2:=kT D (d.mono c) a B (b.mono c) h.good h.br;rwa [h.bz] at h2,fun _=>(uU (mq h.bz)).1,Rb (uU (mq h.bz)).2 dc_,h.good.ok.lp⟩
theorem Rich.scol (h:Rich B fs RO):bs B+1=B.col.length/\B.col.length<=60:=by
 obtain ⟨h1,h2⟩:=uU (mq h.bz);have:=RD.2 h1;unfold bs;omega
theorem Qh (C:Mem)(f:Tabs C)(b:Value)(B:Bk)(c:List Rat)(d:Nat->List RowQ)(i:Nat)(g:BookIn C b B)(a:Rich B c d)(j:i<B.obs.length) :
  Pur cx.P 128 [gx (bs B) (bp B),b,.int .i64 i] C fun u D=>∃ v,u=.tuple #[v,.int .i64 0]/\RowsIn D v (d i):=by
 have e:B.obs[i]?=some B.obs[i]:=aj j;obtain ⟨p,k,t,z,l,m⟩:=a.fine i _ e;have h:=MT C f b B c i _ p k t z g a.good a.br a.bz a.terr e l a.h60 (mq a.bz) a.scol.1 a.scol.2
 rwa [<- m] at h
theorem ph (a:Rich B fs RO)(b:i<B.obs.length):(RO i).length<=240/\∀ r∈RO i,r.f.length=bs B*bp B:=by
 have c:B.obs[i]?=some B.obs[i]:=aj b;obtain ⟨p,g,t,z,h,d⟩:=a.fine i _ c;have e:(cJ B.col B.obs[i]).length<=60:=by
  unfold cJ vQ;refine Rb (R5 _ _) ?_;rw [RL];have:=a.scol.2;omega
 rw [d];exact ⟨wh e,AT⟩
def bH (B:Bk):List RowQ:=bj (bs B) (bp B) B.col (B.col.length-2)
theorem CR (a:Rich B fs RO):(bH B).length<=120:=by
 have h:=jz (bs B) (bp B) B.col (B.col.length-2);have h1:=a.scol.1;have h2:(B.col.length-2)*bp B<=bs B*bp B:=RQ _ om_;have h3:=a.h60;unfold bH;omega
structure SrcQ where
 n:Int
 r:RowQ
def bU (vs:List Value)(l:List SrcQ):List (List Value):=List.zipWith (fun w (s:SrcQ)=>[.int .i64 s.n,w,ai (qtx s.r.b)]) vs l
def SrcsOk (C:Mem)(vs:List Value)(l:List SrcQ):Prop:=RowsOk C vs (l.map SrcQ.r)
def xL (C:Mem)(v:Value)(l:List SrcQ):Prop:=∃ vs,SrcsOk C vs l/\Sl C 3 v (bU vs l)
theorem SrcsOk.mono {C D:Mem}{a:List Value}{l:List SrcQ}(h:SrcsOk C a l)(b:C.le D):SrcsOk D a l:=RowsOk.mono h b
theorem SrcsOk.m_ {D:Mem}{l:List SrcQ}(h:SrcsOk C vs l)(a:C.le D:=by exact mup):SrcsOk D vs l:=SrcsOk.mono h a
theorem SrcsOk.snoc {C:Mem}{a:List Value}{l:List SrcQ}{v:Value}{s:SrcQ}(h:SrcsOk C a l)(b:Sl C 1 v (s.r.f.map fp)):SrcsOk C (a++[v]) (l++[s]):=by
 unfold SrcsOk at h ⊢;rw [Ru];exact RowsOk.snoc h b
theorem jA {l:List SrcQ}(h:SrcsOk C vs l):vs.length=l.length:=by have:=h.1;simpa using this
theorem ly {l:List SrcQ}(h:vs.length=l.length)(v:Value)(s:SrcQ):bU (vs++[v]) (l++[s])=bU vs l++[[.int .i64 s.n,v,ai (qtx s.r.b)]]:=by
 unfold bU;rw [List.zipWith_append h];rfl
theorem nt {l:List SrcQ}(h:vs.length=l.length):(bU vs l).length=l.length:=by simp [bU,h]
theorem ri (b:List Value)(l:List SrcQ):∀ r∈bU b l,r.length=3:=by
 intro r hr;unfold bU at hr;obtain ⟨i,a⟩:=Sg hr;rw [List.getElem?_zipWith] at a;cases h1:b[i]? <;> cases h2:l[i]? <;> rw [h1,h2] at a <;> simp at a
 subst a;rfl
def kE (n:Int)(l:List RowQ):List SrcQ:=l.map fun r=>⟨n,r⟩
def bP (T:List RowQ)(RO:Nat->List RowQ)(l:List Nat):List SrcQ:=kE (-1) T++l.flatMap fun i=>kE (i:Nat) (RO i)
theorem lu {n:Int}{l:List RowQ}(h:l[i]?=some r):kE n (l.take (i+1))=kE n (l.take i)++[⟨n,r⟩]:=by
 unfold kE;rw [Rm,h,Ru];rfl
theorem xu {T:List RowQ}:∀ {l:List Nat},(∀ i∈l,(RO i).length<=240)->l.length<=100->T.length<=120->(bP T RO l).length<=120+240*l.length:=by
 intro l h e hT;unfold bP;rw [QV];have b:∀ l:List Nat,(∀ i∈l,(RO i).length<=240)->(l.flatMap fun i=>kE (i:Nat) (RO i)).length<=240*l.length:=by
  intro l;induction l with
  | nil=>intro _;simp
  | cons a l c =>
   intro h;have h1:=h a Qb;have h2:=c fun i d=>h i (Q0 _ d);rw [List.flatMap_cons,QV,Q8];have:(kE (a:Nat) (RO a)).length=(RO a).length:=by simp [kE]
   omega
 have h1:=b l h;have:(kE (-1) T).length=T.length:=by simp [kE]
 omega
theorem HR (C:Mem)(hT:Tabs C)(bv lv:Value)(B:Bk)(fs:List Rat)(c:Nat->List RowQ)(l:List Nat)(hB:BookIn C bv B)(o:Rich B fs c)(L:Sl C 1 lv (l.map aM))(ac:∀ i∈l,i<B.obs.length)(aQ:l.length<=100)(aR:(bP (bH B) c l).length<=300) :
  Pur cx.P 85 [gx (bs B) (bp B),bv,lv] C fun u D=>∃ v,u=.tuple #[v,.int .i64 0]/\xL D v (bP (bH B) c l):=by
 have av:=hB;have aw:=CR o;obtain ⟨v1,v2,tv,cv,ov,rfl,h1,h2,h3,h4,h5⟩:=id hB.ex;obtain ⟨M,N,rfl,ay,aS,_⟩:=id L;have aT:maxLen<=9223372036854775807:=by simp [maxLen]
 simp only [al] at L ay ⊢;have az:=fun m:List Nat=>fun hm:∀ i∈m,i<B.obs.length=>fun aA:m.length<=100=>xu (T:=bH B) (RO:=c) (l:=m) (fun i E=>(ph o (hm i E)).1) aA aw;refine UD func85 66 U3 fun w0=>Uz fun R d=>UQ U6 fun O=>UQ U6 fun Q=>C4 2 [2,3,4] d Z<|G.freeze 1 Z fun _ _ ad=>G.freeze 0 Z fun _ _ ae=>Uu 1 [2,3,4,8] Z<|Uz fun R d=>Uw (bkT ad 2) U8<|Uy U6<|Uw (bkT ae 1) U8<|Ve (vN _ hT.m_ _ (bs B) (bp B) B.col h4.m_ o.scol.1 o.h60 o.br.col) U7 (fun aU _ _ aB=>?_);obtain ⟨ag,S,F⟩:=aB;rw [show bj (bs B) (bp B) B.col (B.col.length-2)=bH B from rfl] at S F;have ah:=S.1;obtain ⟨At,ct,rfl,aC,aV,_⟩:=id F;simp only [dy ah] at F aC ⊢;refine C4 2 [2,3,4,8,20,21,22] d Z<|G.nilArr 125 3<|G.loop (fun fr C' e x=>∃ (i:Nat)(vs:List Value)(w:Value),(i<=(bH B).length/\SrcsOk C' vs (kE (-1) ((bH B).take i)))/\fr=[(2,[],.slice M l.length N),(3,[],.pointer (some ⟨O,0,none⟩)),(4,[],.pointer (some ⟨Q,0,none⟩)),(8,[],w),(20,[],.slice At (bH B).length ct),(21,[],.int .i64 (bH B).length),(22,[],.int .i64 i)]/\e=[.arr w 125 3 (kE (-1) ((bH B).take i)).length (bU vs (kE (-1) ((bH B).take i))).flatten]/\x=(bH B).length-i) (hn_ [2,3,4,8,20,21,22] Z) ⟨0,[],_,⟨QT _,RowsOk.nil _⟩,Z,Z,Z⟩ (fun fr aW aX m _ y=>?_);obtain ⟨i,vs,w,⟨E,H⟩,rfl,rfl,rfl⟩:=y;refine Uu 1 [2,3,4,8,20,21,22,23] Z<|Ux (fun U=>?_) fun U=>?_
 ·have I:i<(bH B).length:=by
   have:=aJ U;omega
  obtain ⟨r,g⟩:∃ r,(bH B)[i]?=some r:=⟨(bH B)[i],aj I⟩;obtain ⟨p,q⟩:∃ p,ag[i]?=some p:=⟨ag[i]'(by rw [ah];exact I),aj _⟩;have t:=S.2 i p r q g;obtain ⟨h,n,rfl,_⟩:=id t;simp only [al] at t q;have aD:(kE (-1) ((bH B).take i)).length=i:=by simp [kE];omega
  refine Uz fun R d=>UK F.m_ U10 om_ (kH q g) fl_ fun aY aE=>Uw aE U8<|UP U5 fun aZ=>UG (j:=0) U12<|UA [2,3,4,8,10,20,21,22] d Z<|Uv 1 Z fun R d=>UE af U9<|UO [.int .i64 (-1),.slice h r.f.length n,ai (qtx r.b)] U8<|UR [[.int .i64 (-1),.slice h r.f.length n,ai (qtx r.b)]] U12 fun a0 _ _ aF=>D.append (j:=1) U11 aF Z ax (by simp only [aK];omega) fl_ fun ak=>C4 1 [2,3,4,8,20,21,22] d Z<|Uz fun R d=>UF _ U7<|C4 1 [2,3,4,8,20,21,22] d Z ?_;have z:=SrcsOk.snoc (s:=⟨-1,r⟩) H.m_ t.m_;rw [<- lu g] at z;refine Vo 1 Z<|UN (L':=[.arr ak 125 3 (kE (-1) ((bH B).take (i+1))).length (bU (vs++[.slice h r.f.length n]) (kE (-1) ((bH B).take (i+1)))).flatten]) (by rw [lu g,ly (jA H)];simp)<|UH (m':=(bH B).length-(i+1)) om_ mup (hn_ [2,3,4,8,20,21,22] Z) ⟨i+1,vs++[.slice h r.f.length n],ak,⟨by omega,z.mono mup⟩,Z,Z,Z⟩
 have I:i=(bH B).length:=by
  have:=QS U;omega
 rw [I,Q2] at H ⊢;refine Uu 3 [3,4,8,32,33,34] Z<|UN (L':=[.arr w 125 3 (bP (bH B) c (l.take 0)).length (bU vs (bP (bH B) c (l.take 0))).flatten]) (by simp [bP])<|G.loop (fun fr C' e x=>∃ (j:Nat)(vs:List Value)(w:Value),(j<=l.length/\SrcsOk C' vs (bP (bH B) c (l.take j)))/\fr=[(3,[],.pointer (some ⟨O,0,none⟩)),(4,[],.pointer (some ⟨Q,0,none⟩)),(8,[],w),(32,[],.slice M l.length N),(33,[],.int .i64 l.length),(34,[],.int .i64 j)]/\e=[.arr w 125 3 (bP (bH B) c (l.take j)).length (bU vs (bP (bH B) c (l.take j))).flatten]/\x=l.length-j) (hn_ [3,4,8,32,33,34] Z) ⟨0,vs,w,⟨QT _,by simpa [bP] using H⟩,Z,Z,Z⟩ (fun fr a1 a2 m _ y=>?_);obtain ⟨j,vs,w,⟨hj,A⟩,rfl,rfl,rfl⟩:=y;refine Uu 1 [3,4,8,32,33,34,35] Z<|Ux (fun V=>?_) fun V=>?_
 ·have W:j<l.length:=by
   have:=aJ V;omega
  obtain ⟨a,X⟩:∃ a,l[j]?=some a:=⟨l[j],aj W⟩;have am:=ac a (QQ X);have aG:=az (l.take j) (fun i E=>ac i (RZ E)) (by rw [Q5];omega);rw [Q5] at aG;have aH:bP (bH B) c (l.take (j+1))=bP (bH B) c (l.take j)++kE (a:Nat) (c a):=by
   unfold bP;rw [jo _ X,Rk]
  have a3:=(ph o am).1;refine Uz fun R d=>UK L.m_ U10 om_ (bY X) fl_ fun a4 aI=>Uw aI U8<|C4 1 [3,4,8,12,32,33,34] d Z<|Uz fun R d=>Uw (bkT ad 2) U8<|Uw (bkT ae 5) U8<|Uy U6<|Ve (Qh _ hT.m_ _ B fs c a av.m_ o am) U7 (fun a5 _ _ aL=>?_);obtain ⟨rv,rfl,an,ao,Y⟩:=aL;have ap:=ao.1;obtain ⟨Ar,cr,rfl,aN,a6,_⟩:=id Y;simp only [dy ap] at Y aN ⊢;refine C4 5 [3,4,8,12,13,14,32,33,34] d Z<|Uu 2 [3,4,8,12,13,14,32,33,34,46] Z<|Ux (fun aq=>?_) fun aq=>?_
  ·exact absurd aq dc_
  refine Uu 3 [3,4,8,12,32,33,34,48,49,50] Z<|UN (L':=[.arr w 125 3 (bP (bH B) c (l.take j)++kE (a:Nat) ((c a).take 0)).length (bU vs (bP (bH B) c (l.take j)++kE (a:Nat) ((c a).take 0))).flatten]) (by simp [kE])<|G.loop (fun fr C' e x=>∃ (k:Nat)(vs:List Value)(w:Value),(k<=(c a).length/\SrcsOk C' vs (bP (bH B) c (l.take j)++kE (a:Nat) ((c a).take k)))/\fr=[(3,[],.pointer (some ⟨O,0,none⟩)),(4,[],.pointer (some ⟨Q,0,none⟩)),(8,[],w),(12,[],.int .i64 a),(32,[],.slice M l.length N),(33,[],.int .i64 l.length),(34,[],.int .i64 j),(48,[],.slice Ar (c a).length cr),(49,[],.int .i64 (c a).length),(50,[],.int .i64 k)]/\e=[.arr w 125 3 (bP (bH B) c (l.take j)++kE (a:Nat) ((c a).take k)).length (bU vs (bP (bH B) c (l.take j)++kE (a:Nat) ((c a).take k))).flatten]/\x=(c a).length-k) (hn_ [3,4,8,12,32,33,34,48,49,50] Z) ⟨0,vs,w,⟨QT _,by rw [show kE (a:Nat) ((c a).take 0)=[] from Z,Rf];exact A.mono mup⟩,Z,Z,Z⟩ (fun fr a7 a8 m _ y=>?_);obtain ⟨k,vs,w,⟨hk,J⟩,rfl,rfl,rfl⟩:=y;refine Uu 1 [3,4,8,12,32,33,34,48,49,50,51] Z<|Ux (fun aa=>?_) fun aa=>?_
  ·have K:k<(c a).length:=by
    have:=aJ aa;omega
   obtain ⟨r,g⟩:∃ r,(c a)[k]?=some r:=⟨(c a)[k],aj K⟩;obtain ⟨p,q⟩:∃ p,an[k]?=some p:=⟨an[k]'(by rw [ap];exact K),aj _⟩;have t:=ao.2 k p r q g;obtain ⟨h,n,rfl,_⟩:=id t;simp only [al] at t q;have aD:(kE (a:Nat) ((c a).take k)).length<=240:=by simp [kE];omega
   have a9:(bP (bH B) c (l.take j)++kE (a:Nat) ((c a).take k)).length<=100000:=by rw [QV];omega
   refine Uz fun R d=>UK Y.m_ U10 om_ (kH q g) fl_ fun ba aO=>Uw aO U8<|UP U5 fun bb=>UG (j:=0) U12<|UA [3,4,8,12,16,32,33,34,48,49,50] d Z<|Uv 2 Z fun R d=>UE af U9<|UO [.int .i64 (a:Nat),.slice h r.f.length n,ai (qtx r.b)] U8<|UR [[.int .i64 (a:Nat),.slice h r.f.length n,ai (qtx r.b)]] U12 fun bc _ _ aP=>D.append (j:=1) U11 aP Z ax (by simp only [aK];omega) fl_ fun ar=>C4 1 [3,4,8,12,32,33,34,48,49,50] d Z<|Uz fun R d=>UF _ U7<|C4 1 [3,4,8,12,32,33,34,48,49,50] d Z ?_;have z:=SrcsOk.snoc (s:=⟨(a:Nat),r⟩) J.m_ t.m_;rw [Rk,<- lu g] at z;refine Vo 1 Z<|UN (L':=[.arr ar 125 3 (bP (bH B) c (l.take j)++kE (a:Nat) ((c a).take (k+1))).length (bU (vs++[.slice h r.f.length n]) (bP (bH B) c (l.take j)++kE (a:Nat) ((c a).take (k+1)))).flatten]) (by rw [lu g,<- Rk,ly (jA J)];simp;omega)<|UH (m':=(c a).length-(k+1)) om_ mup (hn_ [3,4,8,12,32,33,34,48,49,50] Z) ⟨k+1,vs++[.slice h r.f.length n],ar,⟨by omega,z.mono mup⟩,Z,Z,Z⟩
  have K:k=(c a).length:=by
   have:=QS aa;omega
  rw [K,Q2,<- aH] at J ⊢;refine Uz fun R d=>UF _ U7<|C4 1 [3,4,8,32,33,34] d Z<|UH (m':=l.length-(j+1)) om_ mup (hn_ [3,4,8,32,33,34] Z) ⟨j+1,vs,w,⟨by omega,J⟩,Z,Z,Z⟩
 have W:j=l.length:=by
  have:=QS V;omega
 rw [W,Q2] at A ⊢;refine G.freezeArr 0 (bU vs (bP (bH B) c l)) Z Z (ri _ _) (nt (jA A)) (fun Cg hg ab=>?_);obtain ⟨Ag,cg,rfl,_⟩:=id ab;rw [nt (jA A)] at ab ⊢;refine Uu 3 [8,64] Z<|Ux (fun au=>?_) fun au=>?_
 ·exfalso;have:=aJ au;omega
 refine Uu 3 [6,7] Z<|UJ (G.dropAll (UX U3 ?_));exact ⟨Z,_,Z,vs,A.mono mup,ab.mono mup⟩
def bV (err:Nat->Int):Nat->Int
 | 0=>0
 | n+1=>if bV err n≠0 then bV err n else err n
theorem lY {a:Nat->Int}{n:Nat}(h:bV a n≠0):∀ m,n<=m->bV a m=bV a n
 | 0,hm=>by rw [show n=0 by omega]
 | m+1,hm=>by
  rcases Rr m n with h1 | h1
  ·rw [show n=m+1 by omega]
  have b:=lY h m h1;simp only [bV,b];rw [aW h]
theorem gc (a:bV err i=0)(b:err i≠0)(c:i<n):bV err n=err i:=by
 have h1:bV err (i+1)=err i:=by simp only [bV,a];rw [az dc_]
 rw [lY (n:=i+1) (by rw [h1];exact b) n om_,h1]
theorem io (a:bV err i=0)(b:err i=0):bV err (i+1)=0:=by
 simp only [bV,a];rw [az dc_,b]
theorem lX {a:Nat->Int}:∀ {n:Nat},bV a n=0->∀ i,i<n->a i=0
 | 0,_,i,b=>by omega
 | n+1,h,i,b=>by
  by_cases h0:bV a n=0
  ·rcases Rr i n with h1 | h1
   ·exact lX h0 i h1
   have:i=n:=by omega
   subst this;simp only [bV,h0] at h
   rwa [az dc_] at h
  simp only [bV] at h;rw [aW h0] at h;exact absurd h h0
theorem kR {a:Nat->Int}:∀ {n:Nat},(∀ i,i<n->a i=0)->bV a n=0
 | 0,_=>rfl
 | n+1,h=>io (kR fun i b=>h i om_) (h n om_)
theorem DL (C:Mem)(v:Value)(l:List Int)(z:Int)(b:Sl C 1 v (l.map me)):Gives cx.P 126 [v,.int .i64 z] C (.int .i64 (kf (fun y=>decide (z=y)) l 0)):=by
 obtain ⟨h,c0,rfl,j,t,_⟩:=id b;have u:maxLen<=9223372036854775807:=by simp [maxLen]
 simp only [al] at b j ⊢;refine UD func126 19 U3 fun w0=>Uu 1 [0,1] Z<|Uu 3 [0,1,7,8] Z<|G.loop (fun fr C' k n=>∃ (i:Nat),(i<=l.length/\∀ y∈l.take i,(fun y=>decide (z=y)) y=false)/\fr=[(0,[],.slice h l.length c0),(1,[],.int .i64 z),(7,[],.int .i64 l.length),(8,[],.int .i64 i)]/\k=[]/\n=l.length-i) (hn_ [0,1,7,8] Z) ⟨0,⟨QT _,by simp⟩,Z,Z,Z⟩ (fun fr w A m o p=>?_);obtain ⟨i,⟨B,a⟩,rfl,rfl,rfl⟩:=p;refine Uu 1 [0,1,7,8,9] Z<|Ux (fun c=>?_) fun c=>?_
 ·have d:i<l.length:=by simpa using c
  obtain ⟨x,e⟩:∃ x,l[i]?=some x:=⟨l[i],aj d⟩;refine Uu 2 [0,1,5,7,8] Z<|Uv 3 Z fun R f=>UK b.m_ U10 om_ (bY e) fl_ fun D q=>Uw q U8<|C4 1 [0,1,5,7,8,16] f Z<|Ux (fun g=>?_) fun g=>?_
  ·have r:decide (z=x)=true:=by simpa using g
   exact Uu 2 [4] Z<|UC U2<|⟨by rw [od e r a,Sd],Z⟩
  have s:decide (z=x)=false:=by simpa using g
  refine Uz fun R f=>UF _ U7<|C4 1 [0,1,7,8] f Z<|UH (m':=l.length-(i+1)) om_ o (hn_ [0,1,7,8] Z) ⟨i+1,⟨by omega,fun y hy=>by
   rw [Rm,e] at hy;rcases Q6.1 hy with hy | hy
   ·exact a y hy
   simp only [R6,Rc] at hy;subst hy;exact s⟩,Z,Z,Z⟩
 have d:i=l.length:=by
  have:¬ i<l.length:=by simpa using c
  omega
 exact Uu 1 [4] Z<|UC U2<|⟨by rw [d,Q2] at a;rw [lV a],Z⟩
theorem uR (C:Mem)(v:Value)(l:List Int)(z:Int)(a:Sl C 1 v (l.map me)):Gives cx.P 84 [v,.int .i64 z] C (.bool (decide (z∈l))):=by
 refine UD func84 9 U3 fun w0=>?_;refine Uu 1 [0,1] Z ?_;refine Uv 2 Z fun R b=>?_;refine UI (DL _ v l z a.m_) U7 ?_;refine C4 2 [4] b Z ?_;refine UC U2 ?_;refine ⟨?_,Z⟩;congr 1;rw [RC];rcases mY (fun y=>decide (z=y)) l with ⟨h1,h2⟩ | ⟨i,x,h1,h2,h3,_⟩
 ·rw [h1];constructor
  ·intro h;omega
  intro h;have:=h2 z h;simp at this
 rw [h1];constructor
 ·intro _;have:z=x:=aJ h3;rw [this];exact QQ h2
 intro _;omega
def rD (n:Nat)(l:List Int)(i:Nat):Int:=if l.getD i 0<0∨(n:Int)<=l.getD i 0 then 3 else if l.getD i 0∈l.take i then 9 else 0
def chZ (n:Nat)(l:List Int):Int:=bV (rD n l) l.length
theorem PM {l:List Int}(h:chZ n l=0):l=(l.map Int.toNat).map (fun i:Nat=>(i:Int))/\∀ i∈l.map Int.toNat,i<n:=by
 have c:∀ z∈l,0<=z/\z<(n:Int):=by
  intro z a;obtain ⟨i,b⟩:=Sg a;have h1:=lX h i (aD.1 b).1;unfold rD at h1;rw [au,b,R9] at h1;split at h1
  ·cases h1
  omega
 refine ⟨?_,fun i b=>?_⟩
 ·rw [RG];symm;have e:∀ z∈l,((fun i:Nat=>(i:Int)) ∘ Int.toNat) z=id z:=fun z a=>Int.toNat_of_nonneg (c z a).1;rw [List.map_congr_left e,List.map_id]
 obtain ⟨z,a,rfl⟩:=QX.1 b;have:=c z a;omega
theorem Ec (C:Mem)(y:Tabs C)(A E:Value)(B:Bk)(F:List Rat)(g:Nat->List RowQ)(l:List Int)(o:BookIn C A B)(p:Rich B F g)(c:Sl C 1 E (l.map me))(N:l.length<=100)(O:chZ B.obs.length l=0->(bP (bH B) g (l.map Int.toNat)).length<=300) :
  Pur cx.P 52 [A,E] C fun u D=>∃ v,u=.tuple #[v,.int .i64 (chZ B.obs.length l)]/\xL D v (if chZ B.obs.length l=0 then bP (bH B) g (l.map Int.toNat) else []):=by
 have H:=o;have Q:=c;have I:=p.bookz y o;obtain ⟨v1,v2,tv,cv,ov,rfl,h1,h2,h3,h4,h5⟩:=id o.ex;obtain ⟨A5,c5,rfl,S,ag,_⟩:=id h5;obtain ⟨q,d,rfl,T,ah,_⟩:=id c;have ai:maxLen<=9223372036854775807:=by simp [maxLen]
 simp only [al] at h5 S H I c Q T ⊢;refine UD func52 46 U3 fun w0=>Uz fun R a=>UQ U6 fun U=>C4 2 [1,2] a Z<|G.freeze 0 Z fun _ _ r=>Uz fun R a=>Uw (bkT r 5) U8<|UI (Qt _ _ B I.m_ p.h60) U7<|UB 3 Z<|UP U5 fun V=>UG (j:=0) U12<|C4 1 [1,2,6,7] a Z<|Uu 2 [1,2,6,7,16] Z<|Ux (fun J=>?_) fun J=>?_
 ·exact absurd J dc_
 refine G.freeze 0 Z fun _ _ W=>Uu 3 [1,2,6,18,19,20] Z<|G.loop (fun fr C' X Y=>∃ (i:Nat),(i<=l.length/\bV (rD B.obs.length l) i=0)/\fr=[(1,[],.slice q l.length d),(2,[],.pointer (some ⟨U,0,none⟩)),(6,[],.pointer (some ⟨V,0,none⟩)),(18,[],.slice q l.length d),(19,[],.int .i64 l.length),(20,[],.int .i64 i)]/\X=[]/\Y=l.length-i) (hn_ [1,2,6,18,19,20] Z) ⟨0,⟨QT _,Z⟩,Z,Z,Z⟩ (fun fr ak am m _ hI=>?_);obtain ⟨i,⟨hi,k⟩,rfl,rfl,rfl⟩:=hI;refine Uu 1 [1,2,6,18,19,20,21] Z<|Ux (fun s=>?_) fun s=>?_
 ·have e:i<l.length:=by
   have:=aJ s;omega
  obtain ⟨z,K⟩:∃ z,l[i]?=some z:=⟨l[i],aj e⟩;have t:l.getD i 0=z:=by rw [au,K,R9]
  have L:=Sl.sub c (l:=0) (h:=i) (m:=d) (QT _) ap om_ (QO _);rw [R0,<- SC] at L;refine Uv 1 Z fun R a=>UK c.m_ U10 om_ (bY K) fl_ fun an aa=>Uw aa U8<|C4 2 [1,2,6,8,9,18,19,20] a Z<|Uv 5 Z fun R a=>UY U6 (fun _=>PtrTo.blockT (Mem.get r mup) _ 1) U3<|UB 2 Z<|U1 U8<|UA [1,2,6,8,9,18,19,20,33] a Z<|Ux (fun w=>?_) fun w=>?_
  ·have b:rD B.obs.length l i=3:=by
    unfold rD;rw [t,aW (by simp only [Sm,QZ] at w;omega)]
   have f:chZ B.obs.length l=3:=by
    unfold chZ;rw [gc k (by rw [b];decide) e,b]
   refine Uu 2 [4,5] Z<|UJ (G.dropAll (UX U3 ?_));exact ⟨Z,.slice none 0 0,by rw [f],by rw [f];exact ⟨[],RowsOk.nil _,Sl.nil _ _⟩⟩
  have M:¬ (z<0∨(B.obs.length:Int)<=z):=by
   simp only [Sq,Ri] at w;omega
  refine Uv 2 Z fun R a=>Vq 0 i d U12 (fun _=>⟨.inl ⟨Z,Z⟩,.inr ⟨_,Z⟩,.inl ⟨Z,Z⟩,by omega,by omega,by omega⟩) U2<|Uy U6<|UI (uR _ _ (l.take i) z L.m_) U7<|UA [1,2,6,18,19,20,38] a Z<|Ux (fun x=>?_) fun x=>?_
  ·have hm:z∈l.take i:=aJ x;have b:rD B.obs.length l i=9:=by
    unfold rD;rw [t,az M,aW hm]
   have f:chZ B.obs.length l=9:=by
    unfold chZ;rw [gc k (by rw [b];decide) e,b]
   refine Uu 2 [4,5] Z<|UJ (G.dropAll (UX U3 ?_));exact ⟨Z,.slice none 0 0,by rw [f],by rw [f];exact ⟨[],RowsOk.nil _,Sl.nil _ _⟩⟩
  have hm:z ∉ l.take i:=QS x;have b:rD B.obs.length l i=0:=by
   unfold rD;rw [t,az M,az hm]
  refine Uz fun R a=>UF _ U7<|C4 1 [1,2,6,18,19,20] a Z<|UH (m':=l.length-(i+1)) om_ mup (hn_ [1,2,6,18,19,20] Z) ⟨i+1,⟨by omega,io k b⟩,Z,Z,Z⟩
 have e:i=l.length:=by
  have:=QS s;omega
 subst e;have n:chZ B.obs.length l=0:=k;obtain ⟨ab,ac⟩:=PM n;have ad:Sl C 1 (.slice q l.length d) ((l.map Int.toNat).map aM):=by
  have h:=congrArg (List.map me) ab;rw [RG] at h;rw [show (l.map Int.toNat).map aM=l.map me from h.symm];exact c
 refine Uz fun R a=>Uw (bkT W 2) U8<|Uw (bkT r 5) U8<|Uy U6<|U0 (HR _ y.m_ _ _ B F g (l.map Int.toNat) H.m_ p ad.m_ ac (by simpa using N) (O n)) U7 fl_ (fun ao _ _ ae=>?_);obtain ⟨rv,rfl,af⟩:=ae;refine C4 4 [4,5] a Z<|UJ (G.dropAll (UX U3 ?_));exact ⟨Z,rv,by rw [n],by rw [aW n];exact af⟩
def dotV (f x:List Rat):Nat->Rat
 | 0=>0
 | n+1=>dotV f x n+f.getD n 0*x.getD n 0
structure DotOk (r:RowQ)(x:List Rat):Prop where
 f:∀ q∈r.f,QB 22 q
 b:QB 22 r.b
 len:r.f.length=x.length
 s:∀ n,QB 2000 (dotV r.f x n)
def sqP:List (Int × Int):=[(0,0),(4,0),(4,4),(0,4)]
def shP:Nat->List (Int × Int)
 | 0=>sqP
 | 1=>sqP
 | 2=>sqP++[(2,1)]
 | 3=>[(0,0),(6,0),(0,4)]
 | 4=>[(0,0),(2,0),(4,0),(0,2),(2,2),(4,2)]
 | 5=>[(1,4),(5,3),(4,0),(0,0)]
 | 6=>sqP++[(2,0)]
 | _=>[(0,0),(6,0),(0,6),(2,2)]
def shT:Nat->List Tri
 | 0=>[(0,1,2),(0,2,3)]
 | 1=>[(0,1,3),(1,2,3)]
 | 2=>[(0,1,4),(1,2,4),(2,3,4),(3,0,4)]
 | 3=>[(2,0,1)]
 | 4=>[(0,1,4),(0,4,3),(1,2,5),(1,5,4)]
 | 5=>[(3,2,1),(3,1,0)]
 | 6=>[(0,4,3),(4,2,3),(4,1,2)]
 | _=>[(0,1,3),(1,2,3),(2,0,3)]
def QA (p:Int × Int):List Value:=[.int .i64 p.1,.int .i64 p.2]
def ShIn (u:Value)(D:Mem)(m:Nat):Prop:=∃ pv tv,u=.tuple #[pv,tv]/\Sl D 2 pv ((shP m).map QA)/\Sl D 3 tv ((shT m).map kC)
theorem Dc (C:Mem)(a:Nat)(_H:a<256):Pur cx.P 94 [.int .u8 a] C fun u D=>ShIn u D (a % 8):=by
 have I:a % 8<8:=Ry _ dc_;obtain ⟨m,hm⟩:∃ m,a % 8=m:=⟨_,rfl⟩;refine UD func94 86 U3 fun w0=>Uu 2 [0] Z<|Uz fun R b=>UO ([.int .i64 0,.int .i64 0]) U8<|UO ([.int .i64 4,.int .i64 0]) U8<|UO ([.int .i64 4,.int .i64 4]) U8<|UO ([.int .i64 0,.int .i64 4]) U8<|Vg [[.int .i64 0,.int .i64 0],[.int .i64 4,.int .i64 0],[.int .i64 4,.int .i64 4],[.int .i64 0,.int .i64 4]] U12 fl_ fun J _ _ d=>C4 1 [0,4] b Z<|Uv 1 Z fun R b=>Vt (a) (8) U6 om_ U2<|UA [4,11] b Z<|Uu 2 [4,11,12] Z<|Ux (fun f=>?_) fun f=>?_
 ·have c:a % 8=0:=by
   have:=dU f;omega
  refine Uv 1 Z fun R b=>UO ([.int .i64 0,.int .i64 1,.int .i64 2]) U8<|UO ([.int .i64 0,.int .i64 2,.int .i64 3]) U8<|UR [[.int .i64 0,.int .i64 1,.int .i64 2],[.int .i64 0,.int .i64 2,.int .i64 3]] U12 fun K _ _ n=>C4 2 [2,3] b Z<|UJ (G.dropAll (UX U3 ?_));exact ⟨Z,by rw [c];exact ⟨_,_,Z,d.mono mup,n.mono mup⟩⟩
 have L:a % 8≠0:=by
  intro e;rw [e] at f;exact absurd f dc_
 refine Uu 2 [4,11,18] Z<|Ux (fun g=>?_) fun g=>?_
 ·have c:a % 8=1:=by
   have:=dU g;omega
  refine Uv 1 Z fun R b=>UO ([.int .i64 0,.int .i64 1,.int .i64 3]) U8<|UO ([.int .i64 1,.int .i64 2,.int .i64 3]) U8<|UR [[.int .i64 0,.int .i64 1,.int .i64 3],[.int .i64 1,.int .i64 2,.int .i64 3]] U12 fun M _ _ o=>C4 2 [2,3] b Z<|UJ (G.dropAll (UX U3 ?_));exact ⟨Z,by rw [c];exact ⟨_,_,Z,d.mono mup,o.mono mup⟩⟩
 have N:a % 8≠1:=by
  intro e;rw [e] at g;exact absurd g dc_
 refine Uu 2 [4,11,24] Z<|Ux (fun h=>?_) fun h=>?_
 ·have c:a % 8=2:=by
   have:=dU h;omega
  refine Uv 1 Z fun R b=>UO ([.int .i64 2,.int .i64 1]) U8<|UR [[.int .i64 2,.int .i64 1]] U12 fun O _ _ p=>Wv Z Z Z Z Z Z Z Z Z Z d.m_ p.m_ (.inr dc_) (by simp only [Q8,Q7,maxLen];omega) dc_ fl_ fun Q _ _ q=>UO ([.int .i64 0,.int .i64 1,.int .i64 4]) U8<|UO ([.int .i64 1,.int .i64 2,.int .i64 4]) U8<|UO ([.int .i64 2,.int .i64 3,.int .i64 4]) U8<|UO ([.int .i64 3,.int .i64 0,.int .i64 4]) U8<|UR [[.int .i64 0,.int .i64 1,.int .i64 4],[.int .i64 1,.int .i64 2,.int .i64 4],[.int .i64 2,.int .i64 3,.int .i64 4],[.int .i64 3,.int .i64 0,.int .i64 4]] U12 fun S _ _ r=>C4 2 [2,3] b Z<|UJ (G.dropAll (UX U3 ?_));exact ⟨Z,by rw [c];exact ⟨_,_,Z,q.mono mup,r.mono mup⟩⟩
 have T:a % 8≠2:=by
  intro e;rw [e] at h;exact absurd h dc_
 refine Uu 2 [4,11,35] Z<|Ux (fun i=>?_) fun i=>?_
 ·have c:a % 8=3:=by
   have:=dU i;omega
  refine Uz fun R b=>UO ([.int .i64 0,.int .i64 0]) U8<|UO ([.int .i64 6,.int .i64 0]) U8<|UO ([.int .i64 0,.int .i64 4]) U8<|UR [[.int .i64 0,.int .i64 0],[.int .i64 6,.int .i64 0],[.int .i64 0,.int .i64 4]] U12 fun U _ _ s=>UO ([.int .i64 2,.int .i64 0,.int .i64 1]) U8<|UR [[.int .i64 2,.int .i64 0,.int .i64 1]] U12 fun V _ _ t=>C4 2 [2,3] b Z<|UJ (G.dropAll (UX U3 ?_));exact ⟨Z,by rw [c];exact ⟨_,_,Z,s.mono mup,t.mono mup⟩⟩
 have W:a % 8≠3:=by
  intro e;rw [e] at i;exact absurd i dc_
 refine Uu 2 [4,11,43] Z<|Ux (fun j=>?_) fun j=>?_
 ·have c:a % 8=4:=by
   have:=dU j;omega
  refine Uz fun R b=>UO ([.int .i64 0,.int .i64 0]) U8<|UO ([.int .i64 2,.int .i64 0]) U8<|UO ([.int .i64 4,.int .i64 0]) U8<|UO ([.int .i64 0,.int .i64 2]) U8<|UO ([.int .i64 2,.int .i64 2]) U8<|UO ([.int .i64 4,.int .i64 2]) U8<|UR [[.int .i64 0,.int .i64 0],[.int .i64 2,.int .i64 0],[.int .i64 4,.int .i64 0],[.int .i64 0,.int .i64 2],[.int .i64 2,.int .i64 2],[.int .i64 4,.int .i64 2]] U12 fun X _ _ v=>UO ([.int .i64 0,.int .i64 1,.int .i64 4]) U8<|UO ([.int .i64 0,.int .i64 4,.int .i64 3]) U8<|UO ([.int .i64 1,.int .i64 2,.int .i64 5]) U8<|UO ([.int .i64 1,.int .i64 5,.int .i64 4]) U8<|UR [[.int .i64 0,.int .i64 1,.int .i64 4],[.int .i64 0,.int .i64 4,.int .i64 3],[.int .i64 1,.int .i64 2,.int .i64 5],[.int .i64 1,.int .i64 5,.int .i64 4]] U12 fun Y _ _ w=>C4 2 [2,3] b Z<|UJ (G.dropAll (UX U3 ?_));exact ⟨Z,by rw [c];exact ⟨_,_,Z,v.mono mup,w.mono mup⟩⟩
 have aa:a % 8≠4:=by
  intro e;rw [e] at j;exact absurd j dc_
 refine Uu 2 [4,11,57] Z<|Ux (fun k=>?_) fun k=>?_
 ·have c:a % 8=5:=by
   have:=dU k;omega
  refine Uz fun R b=>UO ([.int .i64 1,.int .i64 4]) U8<|UO ([.int .i64 5,.int .i64 3]) U8<|UO ([.int .i64 4,.int .i64 0]) U8<|UO ([.int .i64 0,.int .i64 0]) U8<|UR [[.int .i64 1,.int .i64 4],[.int .i64 5,.int .i64 3],[.int .i64 4,.int .i64 0],[.int .i64 0,.int .i64 0]] U12 fun ab _ _ x=>UO ([.int .i64 3,.int .i64 2,.int .i64 1]) U8<|UO ([.int .i64 3,.int .i64 1,.int .i64 0]) U8<|UR [[.int .i64 3,.int .i64 2,.int .i64 1],[.int .i64 3,.int .i64 1,.int .i64 0]] U12 fun ac _ _ y=>C4 2 [2,3] b Z<|UJ (G.dropAll (UX U3 ?_));exact ⟨Z,by rw [c];exact ⟨_,_,Z,x.mono mup,y.mono mup⟩⟩
 have ad:a % 8≠5:=by
  intro e;rw [e] at k;exact absurd k dc_
 refine Uu 2 [4,67] Z<|Ux (fun l=>?_) fun l=>?_
 ·have c:a % 8=6:=by
   have:=dU l;omega
  refine Uv 1 Z fun R b=>UO ([.int .i64 2,.int .i64 0]) U8<|UR [[.int .i64 2,.int .i64 0]] U12 fun ae _ _ z=>Wv Z Z Z Z Z Z Z Z Z Z d.m_ z.m_ (.inr dc_) (by simp only [Q8,Q7,maxLen];omega) dc_ fl_ fun af _ _ A=>UO ([.int .i64 0,.int .i64 4,.int .i64 3]) U8<|UO ([.int .i64 4,.int .i64 2,.int .i64 3]) U8<|UO ([.int .i64 4,.int .i64 1,.int .i64 2]) U8<|UR [[.int .i64 0,.int .i64 4,.int .i64 3],[.int .i64 4,.int .i64 2,.int .i64 3],[.int .i64 4,.int .i64 1,.int .i64 2]] U12 fun ag _ _ B=>C4 2 [2,3] b Z<|UJ (G.dropAll (UX U3 ?_));exact ⟨Z,by rw [c];exact ⟨_,_,Z,A.mono mup,B.mono mup⟩⟩
 have ah:a % 8≠6:=by
  intro e;rw [e] at l;exact absurd l dc_
 refine Uz fun R b=>UO ([.int .i64 0,.int .i64 0]) U8<|UO ([.int .i64 6,.int .i64 0]) U8<|UO ([.int .i64 0,.int .i64 6]) U8<|UO ([.int .i64 2,.int .i64 2]) U8<|UR [[.int .i64 0,.int .i64 0],[.int .i64 6,.int .i64 0],[.int .i64 0,.int .i64 6],[.int .i64 2,.int .i64 2]] U12 fun ai _ _ E=>UO ([.int .i64 0,.int .i64 1,.int .i64 3]) U8<|UO ([.int .i64 1,.int .i64 2,.int .i64 3]) U8<|UO ([.int .i64 2,.int .i64 0,.int .i64 3]) U8<|UR [[.int .i64 0,.int .i64 1,.int .i64 3],[.int .i64 1,.int .i64 2,.int .i64 3],[.int .i64 2,.int .i64 0,.int .i64 3]] U12 fun aj _ _ F=>C4 2 [2,3] b Z<|UJ (G.dropAll (UX U3 ?_));exact ⟨Z,by rw [show a % 8=7 by omega];exact ⟨_,_,Z,E.mono mup,F.mono mup⟩⟩
theorem EK {n:Int}(a:-128<=n)(b:n<128):IntKind.i8.wrap n=n:=by
 simp [IntKind.wrap,IntKind.bits,IntKind.signed];omega
theorem LC:∀ m:Nat,∀ p∈shP m,0<=p.1/\p.1<=6/\0<=p.2/\p.2<=6
 | 0=>by decide
 | 1=>by decide
 | 2=>by decide
 | 3=>by decide
 | 4=>by decide
 | 5=>by decide
 | 6=>by decide
 | _+7=>by
  show ∀ p∈([(0,0),(6,0),(0,6),(2,2)]:List (Int × Int)),0<=p.1/\p.1<=6/\0<=p.2/\p.2<=6;decide
theorem Fm:∀ m:Nat,(shP m).length<=6
 | 0=>by decide
 | 1=>by decide
 | 2=>by decide
 | 3=>by decide
 | 4=>by decide
 | 5=>by decide
 | 6=>by decide
 | _+7=>by
  show ([(0,0),(6,0),(0,6),(2,2)]:List (Int × Int)).length<=6;decide
def cE (m:Nat)(a b:Int)(h:Bool):List Pt:=(shP m).map fun p=>dC a b h p.1 p.2 1
theorem lE (m:Nat)(a b:Int)(h:Bool):(cE m a b h).length<=6:=by rw [cE,al];exact Fm m
theorem qA {z w:Int}(c:w≠0)(a:z.natAbs<1000000000)(b:w.natAbs<1000000000):QB 1 (kS z w):=by
 unfold kS;refine ic om_ ?_ ?_
 ·show _<B9 ^ 1;split
  ·rw [T0];exact a
  exact a
 exact b
theorem Bm {a b:Int}{h:Bool}{x y n:Int}(i:0<n)(j:n<=4)(k:-128<=x/\x<=127)(l:-128<=y/\y<=127):QP 1 (dC a b h x y n):=by
 have c:=yc a;have d:=yc b;have g:dV h=1∨dV h=2:=by cases h <;> simp [dV]
 have f:∀ z:Int, -8<z->z<8->-32<z*n/\z*n<32:=fun z h1 h2=>by
  rcases (by omega:n=1∨n=2∨n=3∨n=4) with e | e | e | e <;> subst e <;> omega
 have m:=f _ c.1 c.2;have o:=f _ d.1 d.2;have p:0<dV h*n/\dV h*n<=8:=by rcases g with e | e <;> rw [e] <;> omega
 exact ⟨qA om_ om_ om_,qA om_ om_ om_⟩
theorem wP (C:Mem)(F:Tabs C)(d:Nat)(a b:Int)(h:Bool)(H:d<256):Pur cx.P 61 [LB d a b h] C fun u D=>MeshIn D u (cE (d % 8) a b h) (shT (d % 8)):=by
 have I:=LC (d % 8);have ad:=Fm (d % 8);refine UD func61 42 U3 fun w0=>Uz fun R e=>UQ U6 fun J=>UP U5 fun f=>UA [1,2] e Z<|G.freeze 1 Z fun _ _ x=>Uv 1 Z fun R e=>Uw (bkT x 1) U8<|Ve (Dc _ d H) U7 (fun ae _ _ K=>?_);obtain ⟨pv,tv,rfl,g,q⟩:=K;obtain ⟨L,M,rfl,N,ag,_⟩:=id g;obtain ⟨k,l,rfl,ah,ai,_⟩:=id q;simp only [al] at g q N ⊢;refine C4 5 [1,2,3,4] e Z<|Uv 1 Z fun R e=>UO [.slice none 0 0,.slice k (shT (d % 8)).length l] U8<|UP U5 fun n=>UG (j:=0) U12<|UA [1,2,3,5] e Z<|Uu 1 [1,2,3,5,6] Z<|G.nilArr 58 2<|G.perm (L':=[.obj n (.cells ⟨[.slice none 0 0,.slice k (shT (d % 8)).length l]⟩ 36 (0,0)),.arr (.slice none 0 0) 58 2 0 [],.obj f (.cells ⟨[.slice none 0 0,.slice none 0 0]⟩ 36 (0,0))]) (List.Perm.swap _ _ _)<|G.loop (fun fr C' s O=>∃ (i:Nat)(w:Value),(i<=(shP (d % 8)).length)/\fr=[(1,[],.pointer (some ⟨J,0,none⟩)),(2,[],.pointer (some ⟨f,0,none⟩)),(3,[],.slice L (shP (d % 8)).length M),(5,[],.pointer (some ⟨n,0,none⟩)),(6,[],.int .i64 i)]/\s=[.obj n (.cells ⟨[w,.slice k (shT (d % 8)).length l]⟩ 36 (0,0)),.arr w 58 2 ((cE (d % 8) a b h).take i).length (((cE (d % 8) a b h).take i).map gt).flatten,.obj f (.cells ⟨[.slice none 0 0,.slice none 0 0]⟩ 36 (0,0))]/\O=(shP (d % 8)).length-i) (hn_ [1,2,3,5,6] Z) ⟨0,.slice none 0 0,QT _,Z,Z,Z⟩ (fun fr ak am m _ Q=>?_);obtain ⟨i,w,hi,rfl,rfl,rfl⟩:=Q;refine Uu 4 [1,2,3,5,6,18] Z<|Ux (fun t=>?_) fun t=>?_
 ·have v:i<(shP (d % 8)).length:=by
   have:=aJ t;omega
  obtain ⟨p,o⟩:∃ p,(shP (d % 8))[i]?=some p:=⟨(shP (d % 8))[i],aj v⟩;obtain ⟨an,ao,ap,aq⟩:=I p (QQ o);have S:(cE (d % 8) a b h)[i]?=some (dC a b h p.1 p.2 1):=by unfold cE;rw [QU,o];rfl
  have T:(cE (d % 8) a b h).take (i+1)=(cE (d % 8) a b h).take i++[dC a b h p.1 p.2 1]:=by rw [Rm,S];rfl
  have ar:((cE (d % 8) a b h).take i).length<=6:=by rw [Q5];have:=lE (d % 8) a b h;omega
  refine US [0,1,2,3,4,5,6,7,8,9,10,11,12,13,14,15,16,17,18,19,20] [(16,1),(8,0),(14,0)] Z kr_ fun R hB e=>Uy U6<|UE af U9<|Uw (bkT x 4) U8<|UB 2 Z<|UK g.m_ U10 om_ (bY o) fl_ fun au U=>V5 U9 (fun _=>U) (fun _=>⟨by omega,om_⟩) fl_ Z (fun av V=>?_);have W:=V trivial;refine Uw W U8<|VC (c:=p.1) U8 (EK om_ om_) U2<|UB 2 Z<|UK g.m_ U10 om_ (bY o) fl_ fun aw X=>V5 U9 (fun _=>X) (fun _=>⟨by omega,om_⟩) fl_ Z (fun ay Y=>?_);have aa:=Y trivial;refine Uw aa U8<|VC (c:=p.2) U8 (EK om_ om_) U2<|UO [.int .i8 p.1,.int .i8 p.2] U8<|UT (fun _=>(Bn _ F.m_ d a b h p.1 p.2 1 dc_ dc_ ⟨by omega,by omega⟩ ⟨by omega,by omega⟩)) U9<|UR [gt (dC a b h p.1 p.2 1)] U12 fun az _ _ ab=>UZ (j:=1) U11 ab.m_ Z ax (by simp only [aK];omega) fl_ fun z A B=>Uy U6<|UG (j:=1) U12<|UA [1,2,3,5,6] e Z<|Uv 1 Z fun R e=>UF _ U7<|C4 1 [1,2,3,5,6] e Z<|UN (L':=[.obj n (.cells ⟨[.slice z A B,.slice k (shT (d % 8)).length l]⟩ 36 (0,0)),.arr (.slice z A B) 58 2 ((cE (d % 8) a b h).take (i+1)).length (((cE (d % 8) a b h).take (i+1)).map gt).flatten,.obj f (.cells ⟨[.slice none 0 0,.slice none 0 0]⟩ 36 (0,0))]) (by rw [T,Ru,Rz,QV];rfl)<|UH (m':=(shP (d % 8)).length-(i+1)) om_ mup (hn_ [1,2,3,5,6] Z) ⟨i+1,_,om_,Z,Z,Z⟩
 have v:i=(shP (d % 8)).length:=by
  have:=QS t;omega
 have ac:(cE (d % 8) a b h).take i=cE (d % 8) a b h:=Re (by rw [v,cE,al];exact QO _);rw [ac];refine G.freezeArr 1 ((cE (d % 8) a b h).map gt) rfl rfl (by intro r hr;obtain ⟨y,_,rfl⟩:=QX.1 hr;rfl) (by rw [al]) (fun Cg hg E=>?_);obtain ⟨Aw,cw,rfl,_⟩:=id E;refine Uz fun R e=>UE af U9<|UG (j:=1) U12<|UA [2] e Z<|UJ (Vm af U4 ?_);exact ⟨Z,_,_,Z,E,q.mono mup⟩
structure Hts where
 h0:Int
 h1:Int
 h2:Int
 h3:Int
 h4:Int
 h5:Int
 half:Bool
def Iw (H:Hts):List Int:=[H.h0,H.h1,H.h2,H.h3,H.h4,H.h5]
def PC (H:Hts):List Value:=[.int .i8 H.h0,.int .i8 H.h1,.int .i8 H.h2,.int .i8 H.h3,.int .i8 H.h4,.int .i8 H.h5,.bool H.half]
def Qa (H:Hts):Prop:=∀ z∈Iw H, -128<=z/\z<=127
def fsK (n:Nat)(H:Hts):List Rat:=(List.range n).map fun i=>kS (((Iw H).getD (i % 6) 0).tmod 20) (dV H.half)
theorem E0 (a:Int):-20<a.tmod 20/\a.tmod 20<20:=by
 have h:(a.tmod 20).natAbs=a.natAbs % 20:=TB a 20;omega
theorem uB (h:Bool):dV h=1∨dV h=2:=by cases h <;> simp [dV]
theorem uE (n:Nat)(H:Hts):(fsK n H).length=n:=by simp [fsK]
theorem Hj (n:Nat)(H:Hts):∀ q∈fsK n H,QB 1 q:=by
 intro q a;unfold fsK at a;obtain ⟨i,_,rfl⟩:=QX.1 a;have h1:=E0 ((Iw H).getD (i % 6) 0);have h2:=uB H.half;exact qA om_ om_ om_
theorem NL (H:Hts)(j:Nat)(a:j<6):((PC H).drop j).take 1=[.int .i8 ((Iw H).getD j 0)]:=by
 rcases (by omega:j=0∨j=1∨j=2∨j=3∨j=4∨j=5) with rfl | rfl | rfl | rfl | rfl | rfl <;> rfl
theorem ji (C:Mem)(B:Tabs C)(o E:Value)(n:Nat)(F:Option Addr)(I:Nat)(H:Hts)(J:o=.slice F n I)(S:n<=400)(K:Qa H):Pur cx.P 62 [.agg ⟨[o,E]⟩,.agg ⟨PC H⟩] C fun u D=>Sl D 1 u ((fsK n H).map fp):=by
 subst J;obtain ⟨h0,h1,h2,h3,h4,h5,a⟩:=H;have T:maxLen<=9223372036854775807:=by simp [maxLen]
 refine UD func62 31 U3 fun w0=>Uz fun R b=>UQ U6 fun p=>UQ U6 fun q=>C4 1 [2,3] b Z<|G.freeze 1 Z fun _ _ L=>G.freeze 0 Z fun _ _ s=>Uz fun R b=>VA [] U12 fl_ fun t=>C4 1 [2,3,5] b Z<|Uu 1 [2,3,5,6] Z<|Uv 1 Z fun R b=>Uw (bkT s 1) U8<|UA [2,3,5,6,10] b Z<|G.cut (fun fr C' d e=>(True)/\fr=[(2,[],.pointer (some ⟨p,0,none⟩)),(3,[],.pointer (some ⟨q,0,none⟩)),(5,[],.slice (some ⟨t,0,none⟩) 0 0),(6,[],.int .i64 (dV a))]/\d=[.arr (.slice (some ⟨t,0,none⟩) 0 0) 56 1 0 []]) ?_ (fun fr _ U e _ f=>?_)
 ·refine Ux (fun g=>?_) fun g=>?_
  ·have h1:a=true:=g;subst h1;refine Uu 1 [2,3,5,6] Z<|UL 0 (Mem.le.refl _) (hn_ [2,3,5,6] Z) ⟨trivial,Z,Z⟩
  have h1:a=false:=g;subst h1;refine UL 0 (Mem.le.refl _) (hn_ [2,3,5,6] Z) ⟨trivial,Z,Z⟩
 obtain ⟨_,rfl,rfl⟩:=f;refine Uu 1 [2,3,5,6,7] Z<|G.loop (fun fr C' d e=>∃ (i:Nat)(w:Value),(i<=n)/\fr=[(2,[],.pointer (some ⟨p,0,none⟩)),(3,[],.pointer (some ⟨q,0,none⟩)),(5,[],w),(6,[],.int .i64 (dV a)),(7,[],.int .i64 i)]/\d=[.arr w 56 1 ((fsK n ⟨h0,h1,h2,h3,h4,h5,a⟩).take i).length (((fsK n ⟨h0,h1,h2,h3,h4,h5,a⟩).take i).map fp).flatten]/\e=n-i) (hn_ [2,3,5,6,7] Z) ⟨0,_,QT _,Z,Z,Z⟩ (fun fr V W m _ f=>?_);obtain ⟨i,w,X,rfl,rfl,rfl⟩:=f;refine Uv 2 Z fun R b=>Uw (bkT L 1) U8<|C4 2 [2,3,5,6,7,15] b Z<|Ux (fun h=>?_) fun h=>?_
 ·have k:i<n:=by
   have:=aJ h;omega
  have v:i % 6<6:=Ry _ dc_;obtain ⟨z,l⟩:∃ z,(Iw ⟨h0,h1,h2,h3,h4,h5,a⟩).getD (i % 6) 0=z:=⟨_,rfl⟩;have x:=NL ⟨h0,h1,h2,h3,h4,h5,a⟩ (i % 6) v;rw [l] at x;have M:z∈Iw ⟨h0,h1,h2,h3,h4,h5,a⟩:=by
   rw [<- l,au,aj (show i % 6<(Iw ⟨h0,h1,h2,h3,h4,h5,a⟩).length from v),R9];exact RP _
  have Y:=K z M;have aa:=E0 z;have ab:=uB a;have N:(fsK n ⟨h0,h1,h2,h3,h4,h5,a⟩).take (i+1)=(fsK n ⟨h0,h1,h2,h3,h4,h5,a⟩).take i++[kS (z.tmod 20) (dV a)]:=by
   rw [Rm,show (fsK n ⟨h0,h1,h2,h3,h4,h5,a⟩)[i]?=some (kS (z.tmod 20) (dV a)) by unfold fsK;rw [QU,Rw k,<- l];rfl];rfl
  have ac:((fsK n ⟨h0,h1,h2,h3,h4,h5,a⟩).take i).length<=400:=by rw [Q5,uE];omega
  refine Uv 2 Z fun R b=>Vt (i) (6) U6 om_ U2<|Uy U6<|UV ((i % 6)) U9 (fun _=>⟨by omega,by omega,(by show i % 6=0+(i % 6)*1;omega)⟩) U2<|VL (PtrTo.blockT (Mem.get s mup) (i % 6) 1) U6 (show cA _ (((PC ⟨h0,h1,h2,h3,h4,h5,a⟩).drop (i % 6)).take 1)=some (.int .i8 z) from by rw [x];rfl) Z<|Vi (c:=z) U8 (wrap_i64 om_ om_) fl_<|VB (z.tmod 20) U6 dc_ U3<|Uy U6<|UM (Po _ B.m_ (z.tmod 20) (dV a) om_ om_ om_) U7 fl_<|UR [fp (kS (z.tmod 20) (dV a))] U12 fun ad _ _ O=>D.append (j:=0) U11 O Z ax (by simp only [aK];omega) fl_ fun A=>C4 1 [2,3,5,6,7] b Z<|Uv 1 Z fun R b=>UF _ U7<|C4 1 [2,3,5,6,7] b Z<|UN (L':=[.arr A 56 1 ((fsK n ⟨h0,h1,h2,h3,h4,h5,a⟩).take (i+1)).length (((fsK n ⟨h0,h1,h2,h3,h4,h5,a⟩).take (i+1)).map fp).flatten]) (by rw [N,Ru,Rz,QV];rfl)<|UH (m':=n-(i+1)) om_ mup (hn_ [2,3,5,6,7] Z) ⟨i+1,A,om_,Z,Z,Z⟩
 have k:i=n:=by
  have:=QS h;omega
 rw [show (fsK n ⟨h0,h1,h2,h3,h4,h5,a⟩).take i=fsK n ⟨h0,h1,h2,h3,h4,h5,a⟩ from Re (by rw [k,uE];exact QO _)];exact Uu 2 [4] Z<|G.freezeArr 0 ((fsK n ⟨h0,h1,h2,h3,h4,h5,a⟩).map fp) rfl rfl (by intro r hr;obtain ⟨y,_,rfl⟩:=QX.1 hr;rfl) (by rw [al]) fun Cg hg Q=>UC U2<|⟨Z,Q⟩
end Go.Proofs.YthnpijdjlddpmaaGreatDoor
