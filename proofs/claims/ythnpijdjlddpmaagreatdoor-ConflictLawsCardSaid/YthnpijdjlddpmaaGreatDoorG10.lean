/- Laws that the proofs of this seat share, part 10. -/
import Derived.Test.YthnpijdjlddpmaaGreatDoorG9
import Derived.Test.YthnpijdjlddpmaaGreatDoorShelf
set_option maxHeartbeats 4000000
namespace Go.Proofs.YthnpijdjlddpmaaGreatDoor
open Go.Proofs.Tryz
open Go Go.Jog
set_option maxRecDepth 100000
variable {B:Bk}{C:Mem}{RO:Nat->List RowQ}{err:Nat->Int}{fs:List Rat}{i k n:Nat}{o:Obs}{p:Pt}{r:RowQ}{t:Tri}{v:Value}{vs:List Value}{z:Rat}
theorem jQ {l:List (Nat × Rat)}(q:Rat)(h:k ∉ l.map (·.1)):fT (eJ l) ((k:Nat):Int) (ah (qtx q))=eJ (l++[(k,q)]):=by
 rw [jK (by
  rw [cH];unfold eJ;rw [Q6];intro hm;obtain ⟨x,a,b⟩:=Qt.1 hm;have:x.1=k:=by
   have h2:((x.1:Nat):Int)=(k:Int):=b;omega
  exact h (this ▸ SF (f:=(·.1)) a))]
 simp [eJ]
theorem qN (a c:Pt):dE a a c=0/\dE c a a=0/\dE a c a=0:=by
 unfold dE;refine ⟨?_, ?_, ?_⟩ <;> grind
theorem tG {a:List Pt}{b:List Tri}(c:MeshOk a b)(d:t∈b):t.1≠t.2.1/\t.1≠t.2.2/\t.2.1≠t.2.2:=by
 have h:=jN c d;refine ⟨fun e=>h ?_,fun e=>h ?_,fun e=>h ?_⟩
 ·have:cor a t 1=cor a t 0:=by show a.getD t.2.1 _=a.getD t.1 _;rw [e]
  rw [this];exact (qN _ _).1
 ·have:cor a t 2=cor a t 0:=by show a.getD t.2.2 _=a.getD t.1 _;rw [e]
  rw [this];exact (qN _ _).2.2
 have:cor a t 2=cor a t 1:=by show a.getD t.2.2 _=a.getD t.2.1 _;rw [e]
 rw [this];exact (qN _ _).2.1
def atT (t:Tri)(f:Nat->Rat):List (Nat × Rat):=[(t.1,f 0),(t.2.1,f 1),(t.2.2,f 2)]
theorem qK (f:Nat->Rat)(h:t.1≠t.2.1/\t.1≠t.2.2/\t.2.1≠t.2.2):((atT t f).map (·.1)).Nodup:=by
 simp [atT,h.1,h.2.1,h.2.2]
theorem DX (C:Mem)(w:Tabs C)(x:Value)(c:List Pt)(e:List Tri)(p:Pt)(i:Nat)(r:List Nat)(t:Tri)(y:MeshIn C x c e)(k:Good c e)(z:QP 23 p)(A:PtR p)(K:lP c e p=i::r)(g:e[i]?=some t)(L:∀ j,QB 22 (wgt c t p j)) :
  Pur cx.P 192 [x,ptV p] C fun u D=>∃ b,u=.tuple #[.map (some b),.int .i64 (i:Nat),.int .i64 0]/\D b=some (aQ keyZ.enc (eJ (atT t (wgt c t p)))):=by
 have M:=k.ok;have n:=y;have ad:=(aF.1 g).1;obtain ⟨N,O,Q⟩:=tG M (Qi g);obtain ⟨v1,v2,rfl,h1,h2⟩:=id y.ex;obtain ⟨A2,c2,rfl,S,ae,_⟩:=id h2;have af:maxLen<=9223372036854775807:=by simp [maxLen]
 simp only [aw] at h2 n S ⊢;refine Uk func192 54 U3 fun w0=>Uf fun R a=>Uw U6 fun b2=>Uw U6 fun b3=>C4 3 [2,3] a Z<|G.freeze 1 Z fun _ _ o=>G.freeze 0 Z fun _ _ B=>Uf fun R a=>Uc (bkT o 2) U8<|Uc (bkT B 2) U8<|UM (pM _ w.m_ _ c e p n.m_ k z A) U7 (fun ah _ _ T=>?_);obtain ⟨wv,rfl,f⟩:=T;rw [K] at f;obtain ⟨U,V,E,_⟩:=id f;rw [aw] at E;subst E;refine C4 5 [2,3,6,7] a Z<|Ua 2 [2,3,6,7,18] Z<|Ud (fun F=>?_) fun F=>?_
 ·exact absurd F dc_
 refine Uy [0,1,2,3,4,5,6,7,8,9,10,11] [(5,1)] Z kr_ fun R H a=>Uc (bkT o 2) U8<|Ue U6<|Us f.m_ U10 om_ (rfl:(List.map aO (i::r))[0]?=some (aO i)) fl_ fun ai W=>Uc W U8<|Uc (bkT B 2) U8<|UJ (fun _=>(E9 _ w.m_ _ c e p i t n.m_ k z A g L)) U9<|Uh 3 Z<|Uv U5 fun X=>Um (j:=0) U12<|C4 1 [2,6,7,8] a Z<|Ua 2 [2,6,7,8,30] Z<|Ud (fun I=>?_) fun I=>?_
 ·exact absurd I dc_
 refine G.freeze 0 Z fun _ _ q=>Uf fun R a=>D.makeMap keyZ Z Z Z Z fl_ fun d=>C4 1 [2,4,7,8] a Z<|Uy [0,1,2,3,4,5,6,7] [] Z kr_ fun R H a=>Ue U6<|Uc (bkT o 1) U8<|Ue U6<|Us f.m_ U10 om_ (rfl:(List.map aO (i::r))[0]?=some (aO i)) fl_ fun aj Y=>Uc Y U8<|Us h2.m_ U10 om_ (bV g) fl_ fun ak aa=>Uc aa U8<|C4 1 [4,7,8,39,40] a Z<|G.loop (fun fr C' h μ=>∃ (j:Nat),(j<=3)/\fr=[(4,[],.map (some d)),(7,[],.slice U (i::r).length V),(8,[],.pointer (some ⟨X,0,none⟩)),(39,[],.agg ⟨kC t⟩),(40,[],.int .i64 j)]/\h=[.obj d (aQ keyZ.enc (eJ ((atT t (wgt c t p)).take j)))]/\μ=3-j) (hn_ [4,7,8,39,40] Z) ⟨0,Qn _,Z,Z,Z⟩ (fun fr al an m s hI=>?_);obtain ⟨j,hj,rfl,rfl,rfl⟩:=hI;refine Ua 1 [4,7,8,39,40,41] Z<|Ud (fun v=>?_) fun v=>?_
 ·have J:j<3:=by
   simp only [Qs] at v;omega
  rcases (by omega:j=0∨j=1∨j=2) with rfl | rfl | rfl
  ·refine Ub 1 Z fun R a=>Ve U11 ag U2<|C4 2 [4,7,8,9,10,39,40] a Z<|Ub 3 Z fun R a=>UA (_) U9 ag U2<|Uc (bkT q 1) U8<|D.mapUpdate keyZ (j:=0) Z Z Z Z Z Z Z Z Z Z kr_<|Ug [4,7,8,39,40] a Z<|Uf fun R a=>Ul _ U7<|C4 1 [4,7,8,39,40] a Z<|Ut (L':=[.obj d (aQ keyZ.enc (eJ ((atT t (wgt c t p)).take 1)))]) (congrArg (fun m=>[Ent.obj d (aQ keyZ.enc m)]) (jQ (l:=[]) _ am))<|Up (m':=2) om_ s (hn_ [4,7,8,39,40] Z) ⟨1,by decide,Z,Z,Z⟩
  ·refine Ub 1 Z fun R a=>Ve U11 ag U2<|C4 2 [4,7,8,9,10,39,40] a Z<|Ub 3 Z fun R a=>UA (_) U9 ag U2<|Uc (bkT q 1) U8<|D.mapUpdate keyZ (j:=0) Z Z Z Z Z Z Z Z Z Z kr_<|Ug [4,7,8,39,40] a Z<|Uf fun R a=>Ul _ U7<|C4 1 [4,7,8,39,40] a Z<|Ut (L':=[.obj d (aQ keyZ.enc (eJ ((atT t (wgt c t p)).take 2)))]) (congrArg (fun m=>[Ent.obj d (aQ keyZ.enc m)]) (jQ (l:=[(t.1,wgt c t p 0)]) _ (by simpa using N.symm)))<|Up (m':=1) om_ s (hn_ [4,7,8,39,40] Z) ⟨2,by decide,Z,Z,Z⟩
  refine Ub 1 Z fun R a=>Ve U11 ag U2<|C4 2 [4,7,8,9,10,39,40] a Z<|Ub 3 Z fun R a=>UA (_) U9 ag U2<|Uc (bkT q 1) U8<|D.mapUpdate keyZ (j:=0) Z Z Z Z Z Z Z Z Z Z kr_<|Ug [4,7,8,39,40] a Z<|Uf fun R a=>Ul _ U7<|C4 1 [4,7,8,39,40] a Z<|Ut (L':=[.obj d (aQ keyZ.enc (eJ ((atT t (wgt c t p)).take 3)))]) (congrArg (fun m=>[Ent.obj d (aQ keyZ.enc m)]) (jQ (l:=[(t.1,wgt c t p 0),(t.2.1,wgt c t p 1)]) _ (by simp [O.symm,Q.symm])))<|Up (m':=0) om_ s (hn_ [4,7,8,39,40] Z) ⟨3,by decide,Z,Z,Z⟩
 have J:j=3:=by
  simp only [QG] at v;omega
 subst J;refine G.freeze 0 Z fun Cm ao ab=>Uy [0,1,2,3,4,5,6] [] Z kr_ fun R H a=>Uh 2 Z<|Us f.m_ U10 om_ (rfl:(List.map aO (i::r))[0]?=some (aO i)) fl_ fun ap ac=>Uc ac U8<|C4 3 [4,5,6] a Z<|Un (G.dropAll (Vg U4 ?_));exact ⟨Z,d,Z,ab⟩
theorem di (t:Tri)(f:Nat->Rat)(j:Nat)(a:j<3)(h:t.1≠t.2.1/\t.1≠t.2.2/\t.2.1≠t.2.2):fT (eJ ((atT t f).take j)) ((mD t j:Nat):Int) (ah (qtx (f j)))=eJ ((atT t f).take (j+1)):=by
 rcases (by omega:j=0∨j=1∨j=2) with rfl | rfl | rfl
 ·exact jQ (l:=[]) _ am
 ·exact jQ (l:=[(t.1,f 0)]) (k:=t.2.1) _ (by simpa using h.1.symm)
 exact jQ (l:=[(t.1,f 0),(t.2.1,f 1)]) (k:=t.2.2) _ (by simp [h.2.1.symm,h.2.2.symm])
def nH (n k:Nat):List Rat:=rL n [(k,1)]
def slf (pts:List Pt)(t:Tri)(j:Nat):Pt:=dN pts (nH pts.length (mD t j)) t
theorem gr (n k:Nat):(nH n k).length=n:=jE n _
theorem zX :∀ q∈nH n k,q=0∨q=1:=by
 intro q a;unfold nH rL at a;obtain ⟨j,_,rfl⟩:=Qt.1 a;simp only [dp];split
 ·exact .inr Z
 exact .inl Z
theorem jA :∀ q∈nH n k,QB 1 q:=by
 intro q a;rcases zX q a with rfl | rfl
 ·exact QB_zero
 exact QB_one
theorem DQ (C:Mem)(J:Tabs C)(N:Value)(a:List Pt)(s:List Tri)(i:Nat)(t:Tri)(O:MeshIn C N a s)(E:Good a s)(l:s[i]?=some t)(K:∀ j,QP 22 (slf a t j)) :
  Pur cx.P 198 [N,.int .i64 i] C fun u D=>∃ Q S,u=.tuple #[.map (some Q),.map (some S),.int .i64 0]/\D Q=some (aQ keyZ.enc (eJ (atT t fun j=>(slf a t j).1)))/\D S=some (aQ keyZ.enc (eJ (atT t fun j=>(slf a t j).2))):=by
 have L:=E.ok;have F:=O;have al:=L.lp;have H:=L.ins t (Qi l);obtain ⟨am,an,ao⟩:=id H;have ap:=(aF.1 l).1;obtain ⟨f,g,h⟩:=tG L (Qi l);obtain ⟨v1,v2,rfl,h1,h2⟩:=id O.ex;obtain ⟨A1,c1,rfl,aq,ar,_⟩:=id h1;obtain ⟨A2,c2,rfl,af,au,_⟩:=id h2;have av:maxLen<=9223372036854775807:=by simp [maxLen]
 simp only [aw] at h1 h2 F af ⊢;refine Uk func198 51 U3 fun w0=>Uf fun R b=>Uw U6 fun I=>C4 3 [1,2] b Z<|G.freeze 0 Z fun _ _ n=>Uf fun R b=>D.makeMap keyZ Z Z Z Z fl_ fun c=>D.makeMap keyZ Z Z Z Z fl_ fun d=>C4 2 [1,2,4,5] b Z<|Ub 1 Z fun R b=>Uc (bkT n 1) U8<|Ue U6<|Us h2.m_ U10 om_ (bV l) fl_ fun ax ai=>Uc ai U8<|C4 1 [1,2,4,5,18,19] b Z<|G.perm (L':=[.obj c (aQ keyZ.enc (eJ [])),.obj d (aQ keyZ.enc (eJ []))]) (List.Perm.swap _ _ _)<|G.loop (fun fr C' e o=>∃ (j:Nat),(j<=3)/\fr=[(1,[],.int .i64 i),(2,[],.pointer (some ⟨I,0,none⟩)),(4,[],.map (some c)),(5,[],.map (some d)),(18,[],.agg ⟨kC t⟩),(19,[],.int .i64 j)]/\e=[.obj c (aQ keyZ.enc (eJ ((atT t fun j=>(slf a t j).1).take j))),.obj d (aQ keyZ.enc (eJ ((atT t fun j=>(slf a t j).2).take j)))]/\o=3-j) (hn_ [1,2,4,5,18,19] Z) ⟨0,Qn _,Z,Z,Z⟩ (fun fr ay az m _ p=>?_);obtain ⟨j,hj,rfl,rfl,rfl⟩:=p;refine Ua 1 [1,2,4,5,18,19,20] Z<|Ud (fun M=>?_) fun M=>?_
 ·have T:j<3:=by
   simp only [Qs] at M;omega
  rcases (by omega:j=0∨j=1∨j=2) with rfl | rfl | rfl
  ·refine Uf fun R b=>Ve U11 ag U2<|C4 1 [1,2,4,5,8,18,19] b Z<|UB [(4,3)] Z fun R b=>Ux [[ah [48]]] U12 fun U V _ v=>Ue U6<|Uc (bkT n 1) U8<|Ue U6<|D.call (mP _ _ a.length [48] v.m_ om_) Z (.inr dc_) U6 (Qo _) fl_ fun W X Y _ w=>C4 1 [1,2,4,5,8,9,18,19] b Z ?_;obtain ⟨bz,rfl,rfl⟩:=w;have x:mD t 0<a.length:=fc H 0;refine Ut (L':=[.arr (.slice (some ⟨bz,0,none⟩) a.length a.length) 56 1 a.length (kZ a.length []),.obj c (aQ keyZ.enc (eJ ((atT t fun j=>(slf a t j).1).take 0))),.obj d (aQ keyZ.enc (eJ ((atT t fun j=>(slf a t j).2).take 0)))]) (by rw [ma];rfl)<|Ub 2 Z fun R b=>UI ((mD t 0)) U10 (fun _=>⟨by omega,by omega,(Sd _).symm⟩) U2<|UK (j:=0) U11 (by rw [mb];simp;omega)<|Ug [1,2,4,5,8,9,18,19] b Z<|Ut (L':=[.arr (.slice (some ⟨bz,0,none⟩) a.length a.length) 56 1 a.length (kZ a.length [(mD t 0,1)]),.obj c (aQ keyZ.enc (eJ ((atT t fun j=>(slf a t j).1).take 0))),.obj d (aQ keyZ.enc (eJ ((atT t fun j=>(slf a t j).2).take 0)))]) (by rw [<- fC [] 1 x,dy];rfl)<|G.freezeArr 0 ((nH a.length (mD t 0)).map fw) rfl (jn _ _) (by intro r hr;obtain ⟨y,_,rfl⟩:=Qt.1 hr;rfl) (by rw [aw,gr]) fun Cz hz z=>Uf fun R b=>Uc (bkT n 2) U8<|Uh 2 Z<|Ur (tL _ J.m_ _ _ a s (nH a.length (mD t 0)) 1 dc_ dc_ F.m_ E z.m_ (gr _ _) jA (fun q A=>bP ((jA q A).le dc_)) i t l (K 0)) U7 fl_<|Uh 3 Z<|Uv U5 fun aa=>Um (j:=0) U12<|C4 1 [1,2,4,5,8,10,11,18,19] b Z<|Ua 2 [1,2,4,5,8,10,11,18,19,38] Z<|Ud (fun ab=>?_) fun ab=>?_
   ·exact absurd ab dc_
   refine G.freeze 0 Z fun ac _ k=>G.cut (fun fr C' e o=>(True)/\fr=[(1,[],.int .i64 i),(2,[],.pointer (some ⟨I,0,none⟩)),(4,[],.map (some c)),(5,[],.map (some d)),(18,[],.agg ⟨kC t⟩),(19,[],.int .i64 ((0:Nat):Int))]/\e=[.obj c (aQ keyZ.enc (eJ ((atT t fun j=>(slf a t j).1).take (0+1)))),.obj d (aQ keyZ.enc (eJ ((atT t fun j=>(slf a t j).2).take (0+1))))]) ?_ (fun fr aA aB o aC p=>?_)
   ·refine UW (.cut [0,1,2,3,4,5,6] (.alt 7 (.fin [8,9]) (.alt 8 (.fin [7,9]) .stop))) [] Z Z kr_ fun R hB b B=>Uh 5 Z<|Uc (bkT k 1) U8<|Ue U6<|UL B Z ⟨?_, ?_,trivial⟩
    ·refine Uc (bkT k 1) U8 ?_
     first | refine D.mapUpdate keyZ (j:=0) rfl rfl rfl rfl rfl rfl rfl rfl rfl rfl kr_ ?_ | refine D.mapUpdate keyZ (j:=1) rfl rfl rfl rfl rfl rfl rfl rfl rfl rfl kr_ ?_
     first | refine D.mapUpdate keyZ (j:=1) rfl rfl rfl rfl rfl rfl rfl rfl rfl rfl kr_ ?_ | refine D.mapUpdate keyZ (j:=0) rfl rfl rfl rfl rfl rfl rfl rfl rfl rfl kr_ ?_
     refine Ug [1,2,4,5,18,19] b Z<|G.perm (L':=[.obj c (aQ keyZ.enc (eJ ((atT t fun j=>(slf a t j).1).take (0+1)))),.obj d (aQ keyZ.enc (eJ ((atT t fun j=>(slf a t j).2).take (0+1))))]) (by
      rw [<- di t (fun j=>(slf a t j).1) 0 dc_ ⟨f,g,h⟩,<- di t (fun j=>(slf a t j).2) 0 dc_ ⟨f,g,h⟩]
      first | exact Qo _ | exact List.Perm.swap _ _ _) ?_
     exact Uq 0 (Mem.le.refl _) (hn_ [1,2,4,5,18,19] Z) ⟨trivial,Z,Z⟩
    first | refine D.mapUpdate keyZ (j:=0) rfl rfl rfl rfl rfl rfl rfl rfl rfl rfl kr_ ?_ | refine D.mapUpdate keyZ (j:=1) rfl rfl rfl rfl rfl rfl rfl rfl rfl rfl kr_ ?_
    refine Uc (bkT k 1) U8 ?_
    first | refine D.mapUpdate keyZ (j:=1) rfl rfl rfl rfl rfl rfl rfl rfl rfl rfl kr_ ?_ | refine D.mapUpdate keyZ (j:=0) rfl rfl rfl rfl rfl rfl rfl rfl rfl rfl kr_ ?_
    refine Ug [1,2,4,5,18,19] b Z<|G.perm (L':=[.obj c (aQ keyZ.enc (eJ ((atT t fun j=>(slf a t j).1).take (0+1)))),.obj d (aQ keyZ.enc (eJ ((atT t fun j=>(slf a t j).2).take (0+1))))]) (by
     rw [<- di t (fun j=>(slf a t j).1) 0 dc_ ⟨f,g,h⟩,<- di t (fun j=>(slf a t j).2) 0 dc_ ⟨f,g,h⟩]
     first | exact Qo _ | exact List.Perm.swap _ _ _) ?_
    exact Uq 0 (Mem.le.refl _) (hn_ [1,2,4,5,18,19] Z) ⟨trivial,Z,Z⟩
   obtain ⟨_,rfl,rfl⟩:=p;refine Uf fun R b=>Ul _ U7<|C4 1 [1,2,4,5,18,19] b Z<|Up (m':=2) om_ mup (hn_ [1,2,4,5,18,19] Z) ⟨1,by decide,Z,Z,Z⟩
  ·refine Uf fun R b=>Ve U11 ag U2<|C4 1 [1,2,4,5,8,18,19] b Z<|UB [(4,3)] Z fun R b=>Ux [[ah [48]]] U12 fun U V _ v=>Ue U6<|Uc (bkT n 1) U8<|Ue U6<|D.call (mP _ _ a.length [48] v.m_ om_) Z (.inr dc_) U6 (Qo _) fl_ fun W X Y _ w=>C4 1 [1,2,4,5,8,9,18,19] b Z ?_;obtain ⟨bz,rfl,rfl⟩:=w;have x:mD t 1<a.length:=fc H 1;refine Ut (L':=[.arr (.slice (some ⟨bz,0,none⟩) a.length a.length) 56 1 a.length (kZ a.length []),.obj c (aQ keyZ.enc (eJ ((atT t fun j=>(slf a t j).1).take 1))),.obj d (aQ keyZ.enc (eJ ((atT t fun j=>(slf a t j).2).take 1)))]) (by rw [ma];rfl)<|Ub 2 Z fun R b=>UI ((mD t 1)) U10 (fun _=>⟨by omega,by omega,(Sd _).symm⟩) U2<|UK (j:=0) U11 (by rw [mb];simp;omega)<|Ug [1,2,4,5,8,9,18,19] b Z<|Ut (L':=[.arr (.slice (some ⟨bz,0,none⟩) a.length a.length) 56 1 a.length (kZ a.length [(mD t 1,1)]),.obj c (aQ keyZ.enc (eJ ((atT t fun j=>(slf a t j).1).take 1))),.obj d (aQ keyZ.enc (eJ ((atT t fun j=>(slf a t j).2).take 1)))]) (by rw [<- fC [] 1 x,dy];rfl)<|G.freezeArr 0 ((nH a.length (mD t 1)).map fw) rfl (jn _ _) (by intro r hr;obtain ⟨y,_,rfl⟩:=Qt.1 hr;rfl) (by rw [aw,gr]) fun Cz hz z=>Uf fun R b=>Uc (bkT n 2) U8<|Uh 2 Z<|Ur (tL _ J.m_ _ _ a s (nH a.length (mD t 1)) 1 dc_ dc_ F.m_ E z.m_ (gr _ _) jA (fun q A=>bP ((jA q A).le dc_)) i t l (K 1)) U7 fl_<|Uh 3 Z<|Uv U5 fun aa=>Um (j:=0) U12<|C4 1 [1,2,4,5,8,10,11,18,19] b Z<|Ua 2 [1,2,4,5,8,10,11,18,19,38] Z<|Ud (fun ad=>?_) fun ad=>?_
   ·exact absurd ad dc_
   refine G.freeze 0 Z fun ac _ k=>G.cut (fun fr C' e o=>(True)/\fr=[(1,[],.int .i64 i),(2,[],.pointer (some ⟨I,0,none⟩)),(4,[],.map (some c)),(5,[],.map (some d)),(18,[],.agg ⟨kC t⟩),(19,[],.int .i64 ((1:Nat):Int))]/\e=[.obj c (aQ keyZ.enc (eJ ((atT t fun j=>(slf a t j).1).take (1+1)))),.obj d (aQ keyZ.enc (eJ ((atT t fun j=>(slf a t j).2).take (1+1))))]) ?_ (fun fr aD aE o aG p=>?_)
   ·refine UW (.cut [0,1,2,3,4,5,6] (.alt 7 (.fin [8,9]) (.alt 8 (.fin [7,9]) .stop))) [] Z Z kr_ fun R hB b B=>Uh 5 Z<|Uc (bkT k 1) U8<|Ue U6<|UL B Z ⟨?_, ?_,trivial⟩
    ·refine Uc (bkT k 1) U8 ?_
     first | refine D.mapUpdate keyZ (j:=0) rfl rfl rfl rfl rfl rfl rfl rfl rfl rfl kr_ ?_ | refine D.mapUpdate keyZ (j:=1) rfl rfl rfl rfl rfl rfl rfl rfl rfl rfl kr_ ?_
     first | refine D.mapUpdate keyZ (j:=1) rfl rfl rfl rfl rfl rfl rfl rfl rfl rfl kr_ ?_ | refine D.mapUpdate keyZ (j:=0) rfl rfl rfl rfl rfl rfl rfl rfl rfl rfl kr_ ?_
     refine Ug [1,2,4,5,18,19] b Z<|G.perm (L':=[.obj c (aQ keyZ.enc (eJ ((atT t fun j=>(slf a t j).1).take (1+1)))),.obj d (aQ keyZ.enc (eJ ((atT t fun j=>(slf a t j).2).take (1+1))))]) (by
      rw [<- di t (fun j=>(slf a t j).1) 1 dc_ ⟨f,g,h⟩,<- di t (fun j=>(slf a t j).2) 1 dc_ ⟨f,g,h⟩]
      first | exact Qo _ | exact List.Perm.swap _ _ _) ?_
     exact Uq 0 (Mem.le.refl _) (hn_ [1,2,4,5,18,19] Z) ⟨trivial,Z,Z⟩
    first | refine D.mapUpdate keyZ (j:=0) rfl rfl rfl rfl rfl rfl rfl rfl rfl rfl kr_ ?_ | refine D.mapUpdate keyZ (j:=1) rfl rfl rfl rfl rfl rfl rfl rfl rfl rfl kr_ ?_
    refine Uc (bkT k 1) U8 ?_
    first | refine D.mapUpdate keyZ (j:=1) rfl rfl rfl rfl rfl rfl rfl rfl rfl rfl kr_ ?_ | refine D.mapUpdate keyZ (j:=0) rfl rfl rfl rfl rfl rfl rfl rfl rfl rfl kr_ ?_
    refine Ug [1,2,4,5,18,19] b Z<|G.perm (L':=[.obj c (aQ keyZ.enc (eJ ((atT t fun j=>(slf a t j).1).take (1+1)))),.obj d (aQ keyZ.enc (eJ ((atT t fun j=>(slf a t j).2).take (1+1))))]) (by
     rw [<- di t (fun j=>(slf a t j).1) 1 dc_ ⟨f,g,h⟩,<- di t (fun j=>(slf a t j).2) 1 dc_ ⟨f,g,h⟩]
     first | exact Qo _ | exact List.Perm.swap _ _ _) ?_
    exact Uq 0 (Mem.le.refl _) (hn_ [1,2,4,5,18,19] Z) ⟨trivial,Z,Z⟩
   obtain ⟨_,rfl,rfl⟩:=p;refine Uf fun R b=>Ul _ U7<|C4 1 [1,2,4,5,18,19] b Z<|Up (m':=1) om_ mup (hn_ [1,2,4,5,18,19] Z) ⟨2,by decide,Z,Z,Z⟩
  refine Uf fun R b=>Ve U11 ag U2<|C4 1 [1,2,4,5,8,18,19] b Z<|UB [(4,3)] Z fun R b=>Ux [[ah [48]]] U12 fun U V _ v=>Ue U6<|Uc (bkT n 1) U8<|Ue U6<|D.call (mP _ _ a.length [48] v.m_ om_) Z (.inr dc_) U6 (Qo _) fl_ fun W X Y _ w=>C4 1 [1,2,4,5,8,9,18,19] b Z ?_;obtain ⟨bz,rfl,rfl⟩:=w;have x:mD t 2<a.length:=fc H 2;refine Ut (L':=[.arr (.slice (some ⟨bz,0,none⟩) a.length a.length) 56 1 a.length (kZ a.length []),.obj c (aQ keyZ.enc (eJ ((atT t fun j=>(slf a t j).1).take 2))),.obj d (aQ keyZ.enc (eJ ((atT t fun j=>(slf a t j).2).take 2)))]) (by rw [ma];rfl)<|Ub 2 Z fun R b=>UI ((mD t 2)) U10 (fun _=>⟨by omega,by omega,(Sd _).symm⟩) U2<|UK (j:=0) U11 (by rw [mb];simp;omega)<|Ug [1,2,4,5,8,9,18,19] b Z<|Ut (L':=[.arr (.slice (some ⟨bz,0,none⟩) a.length a.length) 56 1 a.length (kZ a.length [(mD t 2,1)]),.obj c (aQ keyZ.enc (eJ ((atT t fun j=>(slf a t j).1).take 2))),.obj d (aQ keyZ.enc (eJ ((atT t fun j=>(slf a t j).2).take 2)))]) (by rw [<- fC [] 1 x,dy];rfl)<|G.freezeArr 0 ((nH a.length (mD t 2)).map fw) rfl (jn _ _) (by intro r hr;obtain ⟨y,_,rfl⟩:=Qt.1 hr;rfl) (by rw [aw,gr]) fun Cz hz z=>Uf fun R b=>Uc (bkT n 2) U8<|Uh 2 Z<|Ur (tL _ J.m_ _ _ a s (nH a.length (mD t 2)) 1 dc_ dc_ F.m_ E z.m_ (gr _ _) jA (fun q A=>bP ((jA q A).le dc_)) i t l (K 2)) U7 fl_<|Uh 3 Z<|Uv U5 fun aa=>Um (j:=0) U12<|C4 1 [1,2,4,5,8,10,11,18,19] b Z<|Ua 2 [1,2,4,5,8,10,11,18,19,38] Z<|Ud (fun ae=>?_) fun ae=>?_
  ·exact absurd ae dc_
  refine G.freeze 0 Z fun ac _ k=>G.cut (fun fr C' e o=>(True)/\fr=[(1,[],.int .i64 i),(2,[],.pointer (some ⟨I,0,none⟩)),(4,[],.map (some c)),(5,[],.map (some d)),(18,[],.agg ⟨kC t⟩),(19,[],.int .i64 ((2:Nat):Int))]/\e=[.obj c (aQ keyZ.enc (eJ ((atT t fun j=>(slf a t j).1).take (2+1)))),.obj d (aQ keyZ.enc (eJ ((atT t fun j=>(slf a t j).2).take (2+1))))]) ?_ (fun fr aH aI o aJ p=>?_)
  ·refine UW (.cut [0,1,2,3,4,5,6] (.alt 7 (.fin [8,9]) (.alt 8 (.fin [7,9]) .stop))) [] Z Z kr_ fun R hB b B=>Uh 5 Z<|Uc (bkT k 1) U8<|Ue U6<|UL B Z ⟨?_, ?_,trivial⟩
   ·refine Uc (bkT k 1) U8 ?_
    first | refine D.mapUpdate keyZ (j:=0) rfl rfl rfl rfl rfl rfl rfl rfl rfl rfl kr_ ?_ | refine D.mapUpdate keyZ (j:=1) rfl rfl rfl rfl rfl rfl rfl rfl rfl rfl kr_ ?_
    first | refine D.mapUpdate keyZ (j:=1) rfl rfl rfl rfl rfl rfl rfl rfl rfl rfl kr_ ?_ | refine D.mapUpdate keyZ (j:=0) rfl rfl rfl rfl rfl rfl rfl rfl rfl rfl kr_ ?_
    refine Ug [1,2,4,5,18,19] b Z<|G.perm (L':=[.obj c (aQ keyZ.enc (eJ ((atT t fun j=>(slf a t j).1).take (2+1)))),.obj d (aQ keyZ.enc (eJ ((atT t fun j=>(slf a t j).2).take (2+1))))]) (by
     rw [<- di t (fun j=>(slf a t j).1) 2 dc_ ⟨f,g,h⟩,<- di t (fun j=>(slf a t j).2) 2 dc_ ⟨f,g,h⟩]
     first | exact Qo _ | exact List.Perm.swap _ _ _) ?_
    exact Uq 0 (Mem.le.refl _) (hn_ [1,2,4,5,18,19] Z) ⟨trivial,Z,Z⟩
   first | refine D.mapUpdate keyZ (j:=0) rfl rfl rfl rfl rfl rfl rfl rfl rfl rfl kr_ ?_ | refine D.mapUpdate keyZ (j:=1) rfl rfl rfl rfl rfl rfl rfl rfl rfl rfl kr_ ?_
   refine Uc (bkT k 1) U8 ?_
   first | refine D.mapUpdate keyZ (j:=1) rfl rfl rfl rfl rfl rfl rfl rfl rfl rfl kr_ ?_ | refine D.mapUpdate keyZ (j:=0) rfl rfl rfl rfl rfl rfl rfl rfl rfl rfl kr_ ?_
   refine Ug [1,2,4,5,18,19] b Z<|G.perm (L':=[.obj c (aQ keyZ.enc (eJ ((atT t fun j=>(slf a t j).1).take (2+1)))),.obj d (aQ keyZ.enc (eJ ((atT t fun j=>(slf a t j).2).take (2+1))))]) (by
    rw [<- di t (fun j=>(slf a t j).1) 2 dc_ ⟨f,g,h⟩,<- di t (fun j=>(slf a t j).2) 2 dc_ ⟨f,g,h⟩]
    first | exact Qo _ | exact List.Perm.swap _ _ _) ?_
   exact Uq 0 (Mem.le.refl _) (hn_ [1,2,4,5,18,19] Z) ⟨trivial,Z,Z⟩
  obtain ⟨_,rfl,rfl⟩:=p;refine Uf fun R b=>Ul _ U7<|C4 1 [1,2,4,5,18,19] b Z<|Up (m':=0) om_ mup (hn_ [1,2,4,5,18,19] Z) ⟨3,by decide,Z,Z,Z⟩
 have T:j=3:=by
  simp only [QG] at M;omega
 subst T;refine G.freeze 0 Z fun Cm aK aj=>G.freeze 0 Z fun Cn aL ak=>Ua 5 [4,5,6] Z<|Un (G.dropAll (Vg U4 ?_));exact ⟨Z,c,d,Z,Mem.get aj mup,ak⟩
theorem qE (C:Mem)(v:Value)(l:List Rat)(b:Sl C 1 v (l.map fw))(t:l.length<=1000000):Jog.Fn cx.P 173 [v] C [] fun u _w e=>∃ A n c,u=.slice A n c/\e=[.arr (.slice A n c) 56 1 l.length (l.map fw).flatten]:=by
 obtain ⟨f,c0,rfl,m,x,y,o⟩:=id b;have z:maxLen<=9223372036854775807:=by simp [maxLen]
 simp only [aw] at b m ⊢;refine Uk func173 8 U3 fun w0=>Ua 1 [0] Z<|Ub 1 Z fun R d=>VN U9<|Ug [0,4] d Z<|Ud (fun h4=>?_) fun h4=>?_
 ·have p:f=none:=by
   cases f with
   | none=>rfl
   | some a=>cases h4
  have s:l=[]:=by
   cases l with
   | nil=>rfl
   | cons q r =>
    obtain ⟨a,g,_⟩:=o 0 (fw q) rfl;rw [p] at g;cases g
  refine Ua 1 [2] Z<|G.nilArr 56 1<|Un (UR Z Z ?_);exact ⟨none,0,0,Z,by rw [s];rfl⟩
 refine Uf fun R d=>Vo [] U12 fl_ fun B=>Ue U6<|UG (j:=0) U11 b.m_ (by simp [fw,nU,ah]) (by simp only [aw,QW,maxLen];omega) (by simp only [aw,QW];omega) fl_ fun h i k=>C4 1 [2] d Z<|Ut (L':=[.arr (.slice h i k) 56 1 l.length (l.map fw).flatten]) am<|Un (UR Z Z ?_);exact ⟨h,i,k,Z,Z⟩
def N5 (r:RowQ):Prop:=(∀ q∈r.f,QB 22 q)/\QB 22 r.b
theorem kH {a:List RowQ}{w:Value}(c:vs[i]?=some w)(d:a[i]?=some r):(aS vs a)[i]?=some [w,ah (qtx r.b)]:=by
 unfold aS;rw [List.getElem?_zipWith,c,d]
theorem D1 (C:Mem)(hT:Tabs C)(v:Value)(a:List RowQ)(hv:RowsIn C v a)(e:∀ r∈a,N5 r)(ac:∀ r∈a,r.f.length<=1000)(an:a.length<=100000) :
  Gives cx.P 200 [v] C (.tuple #[v,.int .i64 0]):=by
 obtain ⟨vs,z,A⟩:=hv;obtain ⟨l,c0,rfl,ad,ao,_⟩:=id A;have ap:maxLen<=9223372036854775807:=by simp [maxLen]
 simp only [ep z.1] at A ad ⊢;refine Uk func200 32 U3 fun w0=>Ua 2 [0] Z<|Ua 3 [0,8,9,10] Z<|G.loop (fun fr C' n o=>∃ (i:Nat),(i<=a.length)/\fr=[(0,[],.slice l a.length c0),(8,[],.slice l a.length c0),(9,[],.int .i64 a.length),(10,[],.int .i64 i)]/\n=[]/\o=a.length-i) (hn_ [0,8,9,10] Z) ⟨0,Qn _,Z,Z,Z⟩ (fun fr aq ar m _ p=>?_);obtain ⟨i,hi,rfl,rfl,rfl⟩:=p;refine Ua 1 [0,8,9,10,11] Z<|Ud (fun H=>?_) fun H=>?_
 ·have I:i<a.length:=by simpa using H
  obtain ⟨r,B⟩:∃ r,a[i]?=some r:=⟨a[i],ak I⟩;obtain ⟨w,J⟩:∃ w,vs[i]?=some w:=⟨vs[i]'(by rw [z.1];exact I),ak _⟩;have K:=Qi B;obtain ⟨ae,af⟩:=e r K;have au:=ac r K;have av:(r.f++[r.b]).length<=1001:=by simp;omega
  have x:=z.2 i w r J B;obtain ⟨Aw,cw,rfl,_⟩:=id x;refine Uf fun R c=>Us A.m_ U10 om_ (kH J B) fl_ fun ay ag=>Uc ag U8<|Uv U5 fun b5=>Um (j:=0) U12<|Ug [0,5,8,9,10] c Z<|G.freeze 0 Z fun _ _ E=>G.cut (fun fr C' n o=>∃ (g:Option Addr)(k:Nat),(Sl C' 1 (.slice g (r.f++[r.b]).length k) ((r.f++[r.b]).map fw))/\fr=[(0,[],.slice l a.length c0),(8,[],.slice l a.length c0),(9,[],.int .i64 a.length),(10,[],.int .i64 i),(20,[],.slice g (r.f++[r.b]).length k),(21,[],.int .i64 (r.f++[r.b]).length),(22,[],.int .i64 0)]/\n=[]) ?_ (fun fr az aA o aB p=>?_)
  ·refine UW (.cut [0,1,3,8] (.alt 2 (.fin [4,5,6,7]) (.alt 4 (.cut [] (.alt 2 (.fin [5,6,7]) (.alt 5 (.fin [2,6,7]) .stop))) .stop))) [(2,3)] Z Z kr_ fun R hB c L=>Ue U6<|Uc (bkT E 1) U8<|Uh 2 Z<|UL L Z ⟨?_, ?_,trivial⟩
   ·refine D.call (qE _ _ r.f x.m_ om_) Z (.inr dc_) U6 (Qo _) fl_ fun M N O _ s=>Uc (bkT E 1) U8<|Ux [fw r.b] U12 (fun Q S _ t=>?_);obtain ⟨T,U,cc,rfl,rfl⟩:=s;refine UG (j:=0) U11 t.m_ (by simp [fw,nU,ah]) ax (by simp only [PH];omega) fl_ fun g V k=>C4 1 [0,8,9,10,20,21,22] c Z<|G.freezeArr 0 ((r.f++[r.b]).map fw) rfl am (by intro r e;obtain ⟨y,_,rfl⟩:=Qt.1 e;rfl) am (fun W X d=>?_);obtain ⟨Y,cz,u,_⟩:=id d;cases u
    simp only [aw] at d ⊢;exact G.dropAll<|Uq 0 mup (hn_ [0,8,9,10,20,21,22] Z) ⟨_,_,d,Z,Z⟩
   refine Uc (bkT E 1) U8<|UL L Z ⟨?_, ?_,trivial⟩
   ·refine D.call (qE _ _ r.f x.m_ om_) Z (.inr dc_) U6 (Qo _) fl_ fun M N O _ s=>Ux [fw r.b] U12 (fun Q S _ t=>?_);obtain ⟨T,U,cc,rfl,rfl⟩:=s;refine UG (j:=0) U11 t.m_ (by simp [fw,nU,ah]) ax (by simp only [PH];omega) fl_ fun g V k=>C4 1 [0,8,9,10,20,21,22] c Z<|G.freezeArr 0 ((r.f++[r.b]).map fw) rfl am (by intro r e;obtain ⟨y,_,rfl⟩:=Qt.1 e;rfl) am (fun W X d=>?_);obtain ⟨Y,cz,u,_⟩:=id d;cases u
    simp only [aw] at d ⊢;exact G.dropAll<|Uq 0 mup (hn_ [0,8,9,10,20,21,22] Z) ⟨_,_,d,Z,Z⟩
   refine Ux [fw r.b] U12 fun Q S _ t=>D.call (qE _ _ r.f x.m_ om_) Z (.inr dc_) U6 (Qo _) fl_ (fun M N O _ s=>?_);obtain ⟨T,U,cc,rfl,rfl⟩:=s;refine UG (j:=0) U11 t.m_ (by simp [fw,nU,ah]) ax (by simp only [PH];omega) fl_ fun g V k=>C4 1 [0,8,9,10,20,21,22] c Z<|G.freezeArr 0 ((r.f++[r.b]).map fw) rfl am (by intro r e;obtain ⟨y,_,rfl⟩:=Qt.1 e;rfl) am (fun W X d=>?_);obtain ⟨Y,cz,u,_⟩:=id d;cases u
   simp only [aw] at d ⊢;exact G.dropAll<|Uq 0 mup (hn_ [0,8,9,10,20,21,22] Z) ⟨_,_,d,Z,Z⟩
  obtain ⟨g,k,ai,rfl,rfl⟩:=p;refine G.loop (fun fr C' n o=>∃ (j:Nat),(j<=(r.f++[r.b]).length)/\fr=[(0,[],.slice l a.length c0),(8,[],.slice l a.length c0),(9,[],.int .i64 a.length),(10,[],.int .i64 i),(20,[],.slice g (r.f++[r.b]).length k),(21,[],.int .i64 (r.f++[r.b]).length),(22,[],.int .i64 j)]/\n=[]/\o=(r.f++[r.b]).length-j) (hn_ [0,8,9,10,20,21,22] Z) ⟨0,Qn _,Z,Z,Z⟩ (fun fr aC aD m _ p=>?_);obtain ⟨j,hj,rfl,rfl,rfl⟩:=p;refine Ua 1 [0,8,9,10,20,21,22,23] Z<|Ud (fun aa=>?_) fun aa=>?_
  ·have aj:j<(r.f++[r.b]).length:=by
    have:=aV aa;omega
   obtain ⟨q,hq⟩:∃ q,(r.f++[r.b])[j]?=some q:=⟨(r.f++[r.b])[j],ak aj⟩;have ab:QB 22 q:=by
    rcases Qy.1 (Qi hq) with h | h
    ·exact ae q h
    rw [QF.1 h];exact af
   refine Uf fun R c=>Us ai.m_ U10 om_ (bV hq) fl_ fun aE al=>Uc al U8<|C4 1 [0,7,8,9,10,20,21,22] c Z<|Ub 1 Z fun R c=>Uo (dV _ hT.m_ _ (tU ab)) U7<|C4 1 [0,8,9,10,20,21,22,28] c Z<|Ud (fun F=>?_) fun F=>?_
   ·exfalso;rw [xy ab] at F;exact absurd F dc_
   refine Uf fun R c=>Ul _ U7<|C4 1 [0,8,9,10,20,21,22] c Z<|Up (m':=(r.f++[r.b]).length-(j+1)) om_ mup (hn_ [0,8,9,10,20,21,22] Z) ⟨j+1,om_,Z,Z,Z⟩
  refine Uf fun R c=>Ul _ U7<|C4 1 [0,8,9,10] c Z<|Up (m':=a.length-(i+1)) om_ mup (hn_ [0,8,9,10] Z) ⟨i+1,om_,Z,Z,Z⟩
 refine Ua 3 [2,3] Z<|Un (G.dropAll (UC U3 ?_));exact ⟨Z,Z⟩
def iC (s p k:Nat)(fm:List (Nat × Rat))(b sg:Rat):RowQ:=⟨I1 s p k fm sg,sg*b⟩
theorem jp (C:Mem)(N:Tabs C)(s p d b g v:Nat)(c:List (Nat × Rat))(e:Rat)(a:List Rat)(H w:Value)(n:List Value)(f:List RowQ)(ai:s*p<=60)(O:d<s)(Q:C v=some (.cells ⟨[.int .i64 (s:Nat),.int .i64 (p:Nat)]⟩ 142 (0,0)))(S:C b=some (aQ keyZ.enc (eJ c)))(T:(c.map (·.1)).Nodup)(U:∀ x∈c,x.1<p)(V:∀ x∈c,QB 23 x.2)(W:QB 23 e)
  (y:Sl C 1 H (a.map fw)) (X:∀ q∈a,QB 1 q) (aj:a.length<=2) (Y:RowsOk C n f) (al:f.length<=10000) :
  Jog.Fn cx.P 195 [.int .i64 d,.map (some b),ah (qtx e),H,.pointer (some ⟨g,0,none⟩),.pointer (some ⟨v,0,none⟩)] C [.obj g (.cells ⟨[w]⟩ 78 (0,0)),.arr w 123 2 f.length (aS n f).flatten]
   fun u C' k=>∃ I w',u=.tuple #[]/\k=[.obj g (.cells ⟨[w']⟩ 78 (0,0)),.arr w' 123 2 (f++a.map (iC s p d c e)).length (aS I (f++a.map (iC s p d c e))).flatten]/\RowsOk C' I (f++a.map (iC s p d c e)):=by
 obtain ⟨A0,c0,rfl,aa,an,_⟩:=id y;have ao:maxLen<=9223372036854775807:=by simp [maxLen]
 simp only [aw] at y aa ⊢;refine Uk func195 28 U3 fun w0=>Ua 3 [0,1,2,4,5,12,13,14] Z<|Ut (L':=[.obj g (.cells ⟨[w]⟩ 78 (0,0)),.arr w 123 2 (f++(a.take 0).map (iC s p d c e)).length (aS n (f++(a.take 0).map (iC s p d c e))).flatten]) am<|G.loop (fun fr C' k μ=>∃ (i:Nat)(h:List Value)(o:Value),(i<=a.length/\RowsOk C' h (f++(a.take i).map (iC s p d c e)))/\fr=[(0,[],.int .i64 d),(1,[],.map (some b)),(2,[],ah (qtx e)),(4,[],.pointer (some ⟨g,0,none⟩)),(5,[],.pointer (some ⟨v,0,none⟩)),(12,[],.slice A0 a.length c0),(13,[],.int .i64 a.length),(14,[],.int .i64 i)]/\k=[.obj g (.cells ⟨[o]⟩ 78 (0,0)),.arr o 123 2 (f++(a.take i).map (iC s p d c e)).length (aS h (f++(a.take i).map (iC s p d c e))).flatten]/\μ=a.length-i) (hn_ [0,1,2,4,5,12,13,14] Z) ⟨0,n,w,⟨Qn _,by simpa using Y⟩,Z,Z,Z⟩ (fun fr ap aq m _ hI=>?_);obtain ⟨i,h,o,⟨hi,t⟩,rfl,rfl,rfl⟩:=hI;refine Ua 1 [0,1,2,4,5,12,13,14,15] Z<|Ud (fun z=>?_) fun z=>?_
 ·have A:i<a.length:=by simpa using z
  obtain ⟨sg,B⟩:∃ sg,a[i]?=some sg:=⟨a[i],ak A⟩;have ab:=X sg (Qi B);have ar:(f++(a.take i).map (iC s p d c e)).length<=10002:=by
   rw [Qp,aw,Qz];omega
  have J:f++(a.take (i+1)).map (iC s p d c e)=f++(a.take i).map (iC s p d c e)++[iC s p d c e sg]:=by
   rw [QJ,B];simp
  refine Uf fun R l=>Us y.m_ U10 om_ (bV B) fl_ fun au ac=>Uc ac U8<|C4 1 [0,1,2,4,5,11,12,13,14] l Z<|Uy [0,1,2,3,4,5,6,7,8,9] [] Z kr_ fun R hB l=>Uj af U9<|Uc (bkT Q 2) U8<|Uh 4 Z<|UH (OD _ N.m_ s p d b c sg e 23 dc_ dc_ om_ O (Mem.get S mup) T U V (ab.le dc_) W) U7 fl_ (fun av _ _ ad=>?_);obtain ⟨fv,rfl,D⟩:=ad;obtain ⟨E,F,rfl,_⟩:=id D;simp only [aw] at D ⊢;refine Ux [[.slice E (I1 s p d c sg).length F,ah (qtx (sg*e))]] U12 fun ay _ _ ae=>UG (j:=1) U11 ae.m_ Z ax (by simp only [PH];omega) fl_ fun K L M=>Um (j:=1) U12<|Ug [0,1,2,4,5,12,13,14] l Z<|Uf fun R l=>Ul _ U7<|C4 1 [0,1,2,4,5,12,13,14] l Z ?_;have ag:=RowsOk.snoc (r:=iC s p d c e sg) t.m_ D;refine Ut (L':=[.obj g (.cells ⟨[.slice K L M]⟩ 78 (0,0)),.arr (.slice K L M) 123 2 (f++(a.take (i+1)).map (iC s p d c e)).length (aS (h++[.slice E (I1 s p d c sg).length F]) (f++(a.take (i+1)).map (iC s p d c e))).flatten]) (by rw [J,ft t.1];simp [iC,aD];omega)<|Up (m':=a.length-(i+1)) om_ mup (hn_ [0,1,2,4,5,12,13,14] Z) ⟨i+1,h++[.slice E (I1 s p d c sg).length F],_,⟨by omega,by rw [J];exact ag.mono mup⟩,Z,Z,Z⟩
 have A:i=a.length:=by
  have:¬ i<a.length:=by simpa using z
  omega
 rw [A,Qv] at t ⊢;exact Vn Z<|⟨h,o,Z,Z,t.mono mup⟩
noncomputable def qj (o:Obs):Rat:=-dx o.nx / dx o.nz
noncomputable def jb (o:Obs):Rat:=-dx o.ny / dx o.nz
def upN (B:Bk)(o:Obs):Nat:=(kf (isU o.upper) B.col 0).toNat
noncomputable def rowsO (B:Bk)(o:Obs)(p:Pt)(t:Tri)(z:Rat):List RowQ :=
 if o.kind=1 then (if 0<upN B o then [iC (bs B) (bp B) (upN B o-1) (atT t (wgt B.pts t p)) (kA o z) 1] else [])++(if upN B o<bs B then [iC (bs B) (bp B) (upN B o) (atT t (wgt B.pts t p)) (kA o z) (-1)] else [])
 else if o.kind=2 then (cJ B.col o).flatMap fun k=>[1, -1].map (iC (bs B) (bp B) k (atT t (wgt B.pts t p)) (kA o z))
 else (cJ B.col o).flatMap fun k=>[1, -1].map (iC (bs B) (bp B) k (atT t fun j=>(slf B.pts t j).1) (qj o))++[1, -1].map (iC (bs B) (bp B) k (atT t fun j=>(slf B.pts t j).2) (jb o))
structure Fine (B:Bk)(fs:List Rat)(o:Obs)(p:Pt)(ti:Nat)(t:Tri)(z:Rat):Prop where
 place:ObsAt o p
 loc:∃ r,lP B.pts B.tris p=ti::r
 tri:B.tris[ti]?=some t
 val:EE B.pts B.tris fs p=.tuple #[ah (qtx z),.int .i64 0]
 qz:QB 22 z
 qh:QB 22 (kA o z)
 w:∀ j,QB 22 (wgt B.pts t p j)
 up:0<=kf (isU o.upper) B.col 0
 sl:∀ j,QP 22 (slf B.pts t j)
 nr:o.kind≠1->o.kind≠2->(ba o.nx=true/\ba o.ny=true/\ba o.nz=true)/\QB 11 (dx o.nx)/\QB 11 (dx o.ny)/\QB 11 (dx o.nz)/\dx o.nz≠0
 rows:∀ r∈rowsO B o p t z,N5 r
theorem Ow (h:Sl C 1 v [[ah [49]]]):Sl C 1 v (([1]:List Rat).map fw):=by rw [<- dy] at h;exact h
theorem Ox (h:Sl C 1 v [[ah [45,49]]]):Sl C 1 v (([-1]:List Rat).map fw):=by rw [<- cW] at h;exact h
theorem Fc (h:Sl C 1 v [[ah [49]],[ah [45,49]]]):Sl C 1 v (([1, -1]:List Rat).map fw):=by rw [<- cW,<- dy] at h;exact h
theorem On:∀ q∈([1]:List Rat),QB 1 q:=by simp;exact QB_one
theorem Oo:∀ q∈([-1]:List Rat),QB 1 q:=by simp;exact mT
theorem rF:∀ q∈([1, -1]:List Rat),QB 1 q:=by
 intro q a;simp only [Qw,Rk,SI] at a;rcases a with rfl | rfl
 ·exact QB_one
 exact mT
theorem gl {f:Nat->Rat}{P:Nat × Rat->Prop}(b:P (t.1,f 0))(c:P (t.2.1,f 1))(d:P (t.2.2,f 2)):∀ x∈atT t f,P x:=by
 intro x a;simp only [atT,Qw,Rk,SI] at a;rcases a with rfl | rfl | rfl <;> assumption
theorem Iw {a b:Int}(h:k∈vQ a b n):k<n:=by
 unfold vQ at h;rw [Si,QA] at h;exact h.1
theorem jm {a b:Type}(f:a->List b){l:List a}{j:Nat}{x:a}(h:l[j]?=some x):(l.take (j+1)).flatMap f=(l.take j).flatMap f++f x:=by
 rw [QJ,h,List.flatMap_append];simp
theorem fN {a b:Type}{f:a->List b}{c:Nat}(h:∀ x,(f x).length=c):∀ l:List a,(l.flatMap f).length=c*l.length
 | []=>by simp
 | x::l=>by rw [List.flatMap_cons,Qp,h,fN h l,QC,Nat.mul_succ,SL]
theorem AM :∀ r∈rowsO B o p t z,r.f.length=bs B*bp B:=by
 have a:∀ k d b sg,(iC (bs B) (bp B) k d b sg).f.length=bs B*bp B:=fun k d b sg=>jE _ _;intro r hr;unfold rowsO at hr;split at hr
 ·rcases Qy.1 hr with h | h
  ·split at h
   ·rw [QF.1 h];exact a _ _ _ _
   cases h
  split at h
  ·rw [QF.1 h];exact a _ _ _ _
  cases h
 split at hr
 ·obtain ⟨k,_,c⟩:=List.mem_flatMap.1 hr;obtain ⟨sg,_,rfl⟩:=Qt.1 c;exact a _ _ _ _
 obtain ⟨k,_,c⟩:=List.mem_flatMap.1 hr;rcases Qy.1 c with h | h
 ·obtain ⟨sg,_,rfl⟩:=Qt.1 h;exact a _ _ _ _
 obtain ⟨sg,_,rfl⟩:=Qt.1 h;exact a _ _ _ _
theorem wg (h:(cJ B.col o).length<=60):(rowsO B o p t z).length<=240:=by
 unfold rowsO;split
 ·rw [Qp];have h1:∀ (c:Prop)[Decidable c] (r:RowQ),(if c then [r] else []).length<=1:=fun c _ r=>by split <;> simp
  have:=h1 (0<upN B o) (iC (bs B) (bp B) (upN B o-1) (atT t (wgt B.pts t p)) (kA o z) 1);have:=h1 (upN B o<bs B) (iC (bs B) (bp B) (upN B o) (atT t (wgt B.pts t p)) (kA o z) (-1));omega
 split
 ·rw [fN (c:=2) (fun k=>by simp)];omega
 rw [fN (c:=4) (fun k=>by simp)];omega
theorem Ms (C:Mem)(d:Tabs C)(bv:Value)(B:Bk)(fs:List Rat)(i:Nat)(o:Obs)(p:Pt)(ti:Nat)(t:Tri)(z:Rat)(L:BookIn C bv B)(Q:Good B.pts B.tris)(al:BookR B)(aL:ix B=0)(hF:Terr B fs)(U:B.obs[i]?=some o)(b:Fine B fs o p ti t z)(S:bs B*bp B<=60)(a4:sM B.col=0)(bS:bs B+1=B.col.length)(bT:B.col.length<=60) :
  Pur cx.P 128 [gv (bs B) (bp B),bv,.int .i64 i] C fun u D=>∃ v,u=.tuple #[v,.int .i64 0]/\RowsIn D v (rowsO B o p t z):=by
 have am:=L;have hM:=Q.ok;obtain ⟨r,a5⟩:=b.loc;have aM:=Qi b.tri;have l:=hM.ins t aM;have an:=tG hM aM;have bU:=(aF.1 U).1;have V:=b.place;obtain ⟨u,W⟩:∃ u:Nat,kf (isU o.upper) B.col 0=(u:Nat):=⟨_,(Int.toNat_of_nonneg b.up).symm⟩;have a6:upN B o=u:=by unfold upN;rw [W];rfl
 have bW:u<B.col.length:=by
  rcases mW (isU o.upper) B.col with ⟨h,_⟩ | ⟨k,x,h,h2,_⟩
  ·rw [W] at h;omega
  have:=(aF.1 h2).1;rw [W] at h;omega
 have ao:=qK (wgt B.pts t p) an;have ap:∀ x∈atT t (wgt B.pts t p),x.1<bp B:=gl (P:=fun x=>x.1<bp B) l.1 l.2.1 l.2.2;have aq:∀ x∈atT t (wgt B.pts t p),QB 23 x.2:=gl (P:=fun x=>QB 23 x.2) ((b.w 0).le dc_) ((b.w 1).le dc_) ((b.w 2).le dc_);have ar:QB 23 (kA o z):=b.qh.le dc_;have a7:(cJ B.col o).length<=bs B:=by
  unfold cJ vQ;refine QE (RE _ _) ?_;rw [Rh];unfold bs;omega
 have aN:∀ k∈cJ B.col o,k<bs B:=fun k hk=>Iw hk;obtain ⟨v1,v2,tv,cv,ov,rfl,h1,h2,h3,h4,h5⟩:=id L.ex;have aO:MeshIn C (.agg ⟨[v1,v2]⟩) B.pts B.tris:=⟨v1,v2,rfl,h1,h2⟩;obtain ⟨A5,c5,rfl,a8,bX,_⟩:=id h5;have bY:maxLen<=9223372036854775807:=by simp [maxLen]
 simp only [aw] at h5 a8 am ⊢;refine Uk func128 172 U3 fun w0=>?_;refine Uf fun R a=>?_;refine Uw U6 (fun n=>?_);refine Uw U6 (fun b4=>?_);refine C4 2 [2,3,4] a Z ?_;clear a R;refine G.freeze 1 Z (fun _ _ M=>?_);refine G.freeze 0 Z (fun _ _ N=>?_);refine Ub 1 Z fun R a=>?_;refine Uc (bkT N 1) U8 ?_;refine Ue U6 ?_;refine Us h5.m_ U10 om_ (bV U) fl_ (fun bZ a9=>?_);refine Uc a9 U8 ?_;refine Uv U5 (fun b8=>?_);refine Um (j:=0) U12 ?_;refine Ug [2,3,4,8] a Z ?_;clear a R;refine G.freeze 0 Z (fun C8 _ E=>?_);refine Ub 1 Z fun R a=>?_;refine Uc (bkT N 2) U8 ?_;refine Ue U6 ?_;refine Uc (bkT E 2) U8 ?_;refine UH (by have h:=DX C8 d.m_ _ B.pts B.tris p ti r t aO.m_ Q V.q V.r a5 b.tri b.w;rw [<- wI V] at h;exact h) U7 fl_ (fun b0 _ _ ba=>?_);obtain ⟨T,rfl,au⟩:=ba;refine C4 7 [2,3,4,8,9,10,11] a Z ?_;clear a R;refine Ua 2 [2,3,4,8,9,10,11,45] Z ?_;refine Ud (fun aP=>?_) fun aP=>?_
 ·exact absurd aP dc_
 refine Uf fun R a=>?_;refine Uc (bkT N 5) U8 ?_;refine Ue U6 ?_;refine Uo (Dz _ d.m_ _ B fs i o p z am.m_ Q al aL hF U V b.val b.qz b.qh) U7 ?_;refine C4 5 [2,3,4,8,9,10,11,12] a Z ?_;clear a R;refine Ua 2 [2,3,4,8,9,10,11,12,54] Z ?_;refine Ud (fun aQ=>?_) fun aQ=>?_
 ·exact absurd aQ dc_
 refine Uf fun R a=>?_;refine Uc (bkT N 5) U8 ?_;refine Ue U6 ?_;refine UM (vP _ d.m_ _ B i o am.m_ Q al aL U) U7 (fun b1 _ _ bb=>?_);obtain ⟨lv,rfl,av⟩:=bb;obtain ⟨Al,cl,aR,_⟩:=id av;rw [aw] at aR;subst aR;refine C4 5 [3,4,8,9,10,11,12,13] a Z ?_;clear a R;refine Ua 2 [3,4,8,9,10,11,12,13,63] Z ?_;refine Ud (fun aT=>?_) fun aT=>?_
 ·exact absurd aT dc_
 refine Uf fun R a=>?_;refine Uv U5 (fun c=>?_);refine Ug [3,4,8,9,10,12,13,14] a Z ?_;clear a R;refine G.nilArr 123 2 (G.perm (L':=[.obj c (.cells ⟨[.slice none 0 0]⟩ 78 (0,0)),.arr (.slice none 0 0) 123 2 0 []]) (List.Perm.swap _ _ _) ?_);refine Ua 2 [3,4,8,9,10,12,13,14,15] Z ?_;refine Ub 1 Z fun R a=>?_;refine Uc (bkT E 1) U8 ?_;refine Ug [3,4,8,9,10,12,13,14,15,67] a Z ?_;clear a R;refine Ua 2 [3,4,8,9,10,12,13,14,15,67,120] Z ?_;refine G.cut (fun fr C' y F=>∃ (vs:List Value)(w:Value),(RowsOk C' vs (rowsO B o p t z))/\fr=[(14,[],.pointer (some ⟨c,0,none⟩))]/\y=[.obj c (.cells ⟨[w]⟩ 78 (0,0)),.arr w 123 2 (rowsO B o p t z).length (aS vs (rowsO B o p t z)).flatten]) ?_ (fun fr _ b2 F _ H=>?_)
 ·refine Ud (fun X=>?_) fun X=>?_
  ·have hk:o.kind=1:=dS X;obtain ⟨s,O⟩:∃ s,(if 0<u then [iC (bs B) (bp B) (u-1) (atT t (wgt B.pts t p)) (kA o z) 1] else [])=s:=⟨_,rfl⟩;have A:rowsO B o p t z=s++(if u<bs B then [iC (bs B) (bp B) u (atT t (wgt B.pts t p)) (kA o z) (-1)] else []):=by unfold rowsO;rw [aH hk,a6,O]
   refine Ub 1 Z fun R a=>?_;refine Uc (bkT N 1) U8 ?_;refine Ue U6 ?_;refine Uc (bkT E 1) U8 ?_;refine Uo (ze _ d.m_ _ B.col o.upper h4.m_ al.col a4 u W) U7 ?_;refine C4 7 [3,9,12,14,15,16,18] a Z ?_;clear a R;refine Ua 2 [3,9,12,14,15,16,18,132] Z ?_;refine Ud (fun aU=>?_) fun aU=>?_
   ·exact absurd aU dc_
   refine Ua 2 [3,9,12,14,15,16,135] Z ?_;refine G.cut (fun fr C' y F=>∃ (vs:List Value)(w:Value),(RowsOk C' vs s)/\fr=[(3,[],.pointer (some ⟨n,0,none⟩)),(9,[],.map (some T)),(12,[],ah (qtx (kA o z))),(14,[],.pointer (some ⟨c,0,none⟩)),(15,[],.func (.func 195) #[] #[.pointer (some ⟨c,0,none⟩),.pointer (some ⟨n,0,none⟩)]),(16,[],.int .i64 u)]/\y=[.obj c (.cells ⟨[w]⟩ 78 (0,0)),.arr w 123 2 s.length (aS vs s).flatten]) ?_ (fun fr _ b5 F _ H=>?_)
   ·refine Ud (fun ax=>?_) fun ax=>?_
    ·have ay:0<u:=by
      have:=aV ax;omega
     rw [aH ay] at O;subst O;refine UB [(6,3)] Z (fun R a=>?_);refine Uh 2 Z ?_;refine UN (((u-1:Nat):Int)) U4 om_ om_ om_ U2 ?_;refine Uh 2 Z ?_;refine Ux [[ah [49]]] U12 (fun b6 _ _ bc=>?_);refine D.call (jp _ d.m_ (bs B) (bp B) (u-1) T c n (atT t (wgt B.pts t p)) (kA o z) [1] _ (.slice none 0 0) [] [] S om_ (Mem.get M mup) (Mem.get au mup) ao ap aq ar ((Ow bc).mono mup) On dc_ (RowsOk.nil _) dc_) Z (.inr dc_) U6 (Qo _) fl_ (fun b7 _ b9 _ bd=>?_);refine Ug [3,9,12,14,15,16] a Z ?_;clear a R;obtain ⟨bf,w1,rfl,rfl,bg⟩:=bd;refine Uq 0 mup (hn_ [3,9,12,14,15,16] Z) ⟨bf,w1,bg,Z,Z⟩
    have ay:¬ 0<u:=by
     have:=Qm ax;omega
    rw [aA ay] at O;subst O;refine Uq 0 (Mem.le.refl _) (hn_ [3,9,12,14,15,16] Z) ⟨[],.slice none 0 0,RowsOk.nil _,Z,Z⟩
   obtain ⟨vs ,w,az,rfl,rfl⟩:=H;refine Ub 2 Z fun R a=>?_;refine Uc (bkT M 1) U8 ?_;refine C4 1 [9,12,14,15,16,146] a Z ?_;clear a R;refine Ud (fun aB=>?_) fun aB=>?_
   ·have Y:u<bs B:=by
     have:=aV aB;omega
    rw [aH Y] at A;have ca:s.length<=1:=by rw [<- O];split <;> simp
    refine UB [(5,3)] Z (fun R a=>?_);refine Uh 4 Z ?_;refine Ux [[ah [45,49]]] U12 (fun cb _ _ bh=>?_);refine D.call (jp _ d.m_ (bs B) (bp B) u T c n (atT t (wgt B.pts t p)) (kA o z) [-1] _ w vs s S Y (Mem.get M mup) (Mem.get au mup) ao ap aq ar ((Ox bh).mono mup) Oo dc_ az.m_ om_) Z (.inr dc_) U6 (Qo _) fl_ (fun cc _ cd _ bi=>?_);refine Ug [14] a Z ?_;clear a R;obtain ⟨bj,w2,rfl,rfl,aW⟩:=bi;rw [show s++([-1]:List Rat).map (iC (bs B) (bp B) u (atT t (wgt B.pts t p)) (kA o z))=rowsO B o p t z from A.symm] at aW ⊢;refine Uq 0 mup (hn_ [14] Z) ⟨bj,w2,aW,Z,Z⟩
   have Y:¬ u<bs B:=by
    have:=Qm aB;omega
   rw [aA Y,QI] at A;rw [<- A] at az ⊢;refine Uq 0 mup (hn_ [14] Z) ⟨vs,w,az.mono mup,Z,Z⟩
  have aC:¬ o.kind=1:=by
   intro e;rw [show ((o.kind == 1)=true) by rw [e];rfl] at X;cases X
  refine Ua 2 [4,8,9,10,12,13,14,15,153] Z ?_;refine Ud (fun aa=>?_) fun aa=>?_
  ·have ab:o.kind=2:=dS aa;obtain ⟨f,aD⟩:∃ f,(fun k=>([1, -1]:List Rat).map (iC (bs B) (bp B) k (atT t (wgt B.pts t p)) (kA o z)))=f:=⟨_,rfl⟩;have A:rowsO B o p t z=(cJ B.col o).flatMap f:=by unfold rowsO;rw [aA aC,aH ab,<- aD]
   have bk:∀ k,(f k).length=2:=fun k=>by rw [<- aD];rfl
   refine Ua 3 [9,12,14,15,155,156,157] Z ?_;refine G.loop (fun fr C' y F=>∃ (j:Nat)(vs:List Value)(w:Value),(j<=(cJ B.col o).length/\RowsOk C' vs (((cJ B.col o).take j).flatMap f))/\fr=[(9,[],.map (some T)),(12,[],ah (qtx (kA o z))),(14,[],.pointer (some ⟨c,0,none⟩)),(15,[],.func (.func 195) #[] #[.pointer (some ⟨c,0,none⟩),.pointer (some ⟨n,0,none⟩)]),(155,[],.slice Al (cJ B.col o).length cl),(156,[],.int .i64 (cJ B.col o).length),(157,[],.int .i64 j)]/\y=[.obj c (.cells ⟨[w]⟩ 78 (0,0)),.arr w 123 2 (((cJ B.col o).take j).flatMap f).length (aS vs (((cJ B.col o).take j).flatMap f)).flatten]/\F=(cJ B.col o).length-j) (hn_ [9,12,14,15,155,156,157] Z) ⟨0,[],.slice none 0 0,⟨Qn _,RowsOk.nil _⟩,Z,Z,Z⟩ (fun fr ce cf m _ H=>?_);obtain ⟨j,vs,w,⟨hj,I⟩,rfl,rfl,rfl⟩:=H;refine Ua 1 [9,12,14,15,155,156,157,158] Z ?_;refine Ud (fun aE=>?_) fun aE=>?_
   ·have J:j<(cJ B.col o).length:=by
     have:=aV aE;omega
    obtain ⟨k,K⟩:∃ k,(cJ B.col o)[j]?=some k:=⟨(cJ B.col o)[j],ak J⟩;have ac:=aN k (Qi K);have ad:=fN bk ((cJ B.col o).take j);rw [Qz] at ad;have aG:=jm f K;refine Uf fun R a=>?_;refine Us av.m_ U10 om_ (bV K) fl_ (fun cg bl=>?_);refine Uc bl U8 ?_;refine C4 1 [9,12,14,15,20,155,156,157] a Z ?_;clear a R;refine UB [(5,3)] Z (fun R a=>?_);refine Uh 4 Z ?_;refine Ux [[ah [49]],[ah [45,49]]] U12 (fun ch _ _ bm=>?_);refine D.call (jp _ d.m_ (bs B) (bp B) k T c n (atT t (wgt B.pts t p)) (kA o z) [1, -1] _ w vs _ S ac (Mem.get M mup) (Mem.get au mup) ao ap aq ar ((Fc bm).mono mup) rF dc_ I.m_ om_) Z (.inr dc_) U6 (Qo _) fl_ (fun ci _ cj _ bo=>?_);refine Ug [9,12,14,15,155,156,157] a Z ?_;clear a R;refine Uf fun R a=>?_;refine Ul _ U7 ?_;refine C4 1 [9,12,14,15,155,156,157] a Z ?_;clear a R;obtain ⟨aI,w3,rfl,rfl,ae⟩:=bo;rw [show ((cJ B.col o).take j).flatMap f++([1, -1]:List Rat).map (iC (bs B) (bp B) k (atT t (wgt B.pts t p)) (kA o z))=((cJ B.col o).take (j+1)).flatMap f by rw [aG,<- aD]] at ae ⊢;refine Up (m':=(cJ B.col o).length-(j+1)) om_ mup (hn_ [9,12,14,15,155,156,157] Z) ⟨j+1,aI,w3,⟨by omega,ae⟩,Z,Z,Z⟩
   have J:j=(cJ B.col o).length:=by
    have:=Qm aE;omega
   rw [J,Qv,<- A] at I ⊢;refine Uq 0 mup (hn_ [14] Z) ⟨vs,w,I.mono mup,Z,Z⟩
  have ab:¬ o.kind=2:=by
   intro e;rw [show ((o.kind == 2)=true) by rw [e];rfl] at aa;cases aa
  obtain ⟨⟨bq,br,bt⟩,aX,aY,ag,ai⟩:=b.nr aC ab;obtain ⟨e1,q1⟩:=dJ bq;obtain ⟨e2,q2⟩:=dJ br;obtain ⟨e3,q3⟩:=dJ bt;have aZ:(qtx (dx o.nx)).length<=1000000:=QE (bK q1 dc_) dc_;have bu:(qtx (dx o.ny)).length<=1000000:=QE (bK q2 dc_) dc_;have bx:QB 23 (qj o):=(jr (fa aX) ag ai).le dc_;have bz:QB 23 (jb o):=(jr (fa aY) ag ai).le dc_;obtain ⟨g,aJ⟩:∃ g,(fun k=>([1, -1]:List Rat).map (iC (bs B) (bp B) k (atT t fun j=>(slf B.pts t j).1) (qj o))++([1, -1]:List Rat).map (iC (bs B) (bp B) k (atT t fun j=>(slf B.pts t j).2) (jb o)))=g:=⟨_,rfl⟩;have A:rowsO B o p t z=(cJ B.col o).flatMap g:=by unfold rowsO;rw [aA aC,aA ab,<- aJ]
  have bA:∀ k,(g k).length=4:=fun k=>by rw [<- aJ];rfl
  have bB:=qK (fun j=>(slf B.pts t j).1) an;have bC:=qK (fun j=>(slf B.pts t j).2) an;have bD:∀ x∈atT t (fun j=>(slf B.pts t j).1),x.1<bp B:=gl (P:=fun x=>x.1<bp B) l.1 l.2.1 l.2.2;have bE:∀ x∈atT t (fun j=>(slf B.pts t j).2),x.1<bp B:=gl (P:=fun x=>x.1<bp B) l.1 l.2.1 l.2.2;have bF:∀ x∈atT t (fun j=>(slf B.pts t j).1),QB 23 x.2:=gl (P:=fun x=>QB 23 x.2) ((b.sl 0).1.le dc_) ((b.sl 1).1.le dc_) ((b.sl 2).1.le dc_);have bG:∀ x∈atT t (fun j=>(slf B.pts t j).2),QB 23 x.2:=gl (P:=fun x=>QB 23 x.2) ((b.sl 0).2.le dc_) ((b.sl 1).2.le dc_) ((b.sl 2).2.le dc_);refine Ub 1 Z fun R a=>?_;refine Uc (bkT N 2) U8 ?_;refine Ue U6 ?_;refine UM (DQ _ d.m_ _ B.pts B.tris ti t aO.m_ Q b.tri b.sl) U7 (fun ck aj _ bH=>?_);obtain ⟨be,bn,rfl,bI,bJ⟩:=bH;refine C4 7 [8,13,14,15,21,22,23] a Z ?_;clear a R;refine Ua 2 [8,13,14,15,21,22,23,77] Z ?_;refine Ud (fun a0=>?_) fun a0=>?_
  ·exact absurd a0 dc_
  refine Uy [0,1,2,3,4,5,6,7,8,9,10,11,12] [(3,1),(7,1)] Z kr_ (fun R L a=>?_);refine Uh 2 Z ?_;refine Uc (bkT E 1) U8 ?_;refine Uz (fun _=>(by have h:=eN aj (dx o.nx) aZ;rw [<- e1] at h;exact h)) U9 ?_;refine Uh 2 Z ?_;refine Uc (bkT E 1) U8 ?_;refine Uz (fun _=>(by have h:=gT aj d.m_ (-dx o.nx) (dx o.nz) 11 dc_ dc_ (fa aX) ag ai;rw [<- e3] at h;exact h)) U9 ?_;refine Uh 5 Z ?_;refine Ug [8,13,14,15,21,22,24] a Z ?_;clear a L R;refine Uy [0,1,2,3,4,5,6,7,8,9,10,11,12] [(3,1),(7,1)] Z kr_ (fun R L a=>?_);refine Uh 2 Z ?_;refine Uc (bkT E 1) U8 ?_;refine Uz (fun _=>(by have h:=eN aj (dx o.ny) bu;rw [<- e2] at h;exact h)) U9 ?_;refine Uh 2 Z ?_;refine Uc (bkT E 1) U8 ?_;refine Uz (fun _=>(by have h:=gT aj d.m_ (-dx o.ny) (dx o.nz) 11 dc_ dc_ (fa aY) ag ai;rw [<- e3] at h;exact h)) U9 ?_;refine Uh 5 Z ?_;refine Ug [13,14,15,21,22,24,26] a Z ?_;clear a L R;refine Ua 3 [14,15,21,22,24,26,101,102,103] Z ?_;refine G.loop (fun fr C' y F=>∃ (j:Nat)(vs:List Value)(w:Value),(j<=(cJ B.col o).length/\RowsOk C' vs (((cJ B.col o).take j).flatMap g))/\fr=[(14,[],.pointer (some ⟨c,0,none⟩)),(15,[],.func (.func 195) #[] #[.pointer (some ⟨c,0,none⟩),.pointer (some ⟨n,0,none⟩)]),(21,[],.map (some be)),(22,[],.map (some bn)),(24,[],ah (qtx (qj o))),(26,[],ah (qtx (jb o))),(101,[],.slice Al (cJ B.col o).length cl),(102,[],.int .i64 (cJ B.col o).length),(103,[],.int .i64 j)]/\y=[.obj c (.cells ⟨[w]⟩ 78 (0,0)),.arr w 123 2 (((cJ B.col o).take j).flatMap g).length (aS vs (((cJ B.col o).take j).flatMap g)).flatten]/\F=(cJ B.col o).length-j) (hn_ [14,15,21,22,24,26,101,102,103] Z) ⟨0,[],.slice none 0 0,⟨Qn _,RowsOk.nil _⟩,Z,Z,Z⟩ (fun fr cm cn m aZ H=>?_);obtain ⟨j,vs,w,⟨hj,I⟩,rfl,rfl,rfl⟩:=H;refine Ua 1 [14,15,21,22,24,26,101,102,103,104] Z ?_;refine Ud (fun aK=>?_) fun aK=>?_
  ·have J:j<(cJ B.col o).length:=by
    have:=aV aK;omega
   obtain ⟨k,K⟩:∃ k,(cJ B.col o)[j]?=some k:=⟨(cJ B.col o)[j],ak J⟩;have ac:=aN k (Qi K);have ad:=fN bA ((cJ B.col o).take j);rw [Qz] at ad;have aG:=jm g K;refine Uf fun R a=>?_;refine Us av.m_ U10 om_ (bV K) fl_ (fun co bL=>?_);refine Uc bL U8 ?_;refine C4 1 [14,15,21,22,24,26,29,101,102,103] a Z ?_;clear a R;refine UB [(5,3)] Z (fun R a=>?_);refine Uh 4 Z ?_;refine Ux [[ah [49]],[ah [45,49]]] U12 (fun cp _ _ bM=>?_);refine D.call (jp _ d.m_ (bs B) (bp B) k be c n (atT t fun j=>(slf B.pts t j).1) (qj o) [1, -1] _ w vs _ S ac (Mem.get M mup) (Mem.get bI mup) bB bD bF bx ((Fc bM).mono mup) rF dc_ I.m_ om_) Z (.inr dc_) U6 (Qo _) fl_ (fun cq _ cr _ bN=>?_);refine Ug [14,15,21,22,24,26,29,101,102,103] a Z ?_;clear a R;obtain ⟨aI,w3,rfl,rfl,ae⟩:=bN;refine UB [(5,3)] Z (fun R a=>?_);refine Uh 4 Z ?_;refine Ux [[ah [49]],[ah [45,49]]] U12 (fun cs _ _ bO=>?_);refine D.call (jp _ d.m_ (bs B) (bp B) k bn c n (atT t fun j=>(slf B.pts t j).2) (jb o) [1, -1] _ w3 aI _ S ac (Mem.get M mup) (Mem.get bJ mup) bC bE bG bz ((Fc bO).mono mup) rF dc_ ae.m_ (by rw [Qp,ad];simp;omega)) Z (.inr dc_) U6 (Qo _) fl_ (fun ct _ cu _ bP=>?_);refine Ug [14,15,21,22,24,26,101,102,103] a Z ?_;clear a R;refine Uf fun R a=>?_;refine Ul _ U7 ?_;refine C4 1 [14,15,21,22,24,26,101,102,103] a Z ?_;clear a R;obtain ⟨bQ,w4,rfl,rfl,a1⟩:=bP;rw [show ((cJ B.col o).take j).flatMap g++([1, -1]:List Rat).map (iC (bs B) (bp B) k (atT t fun j=>(slf B.pts t j).1) (qj o))++([1, -1]:List Rat).map (iC (bs B) (bp B) k (atT t fun j=>(slf B.pts t j).2) (jb o))=((cJ B.col o).take (j+1)).flatMap g by rw [aG,<- aJ,QO]] at a1 ⊢;refine Up (m':=(cJ B.col o).length-(j+1)) om_ mup (hn_ [14,15,21,22,24,26,101,102,103] Z) ⟨j+1,bQ,w4,⟨by omega,a1⟩,Z,Z,Z⟩
  have J:j=(cJ B.col o).length:=by
   have:=Qm aK;omega
  rw [J,Qv,<- A] at I ⊢;refine Uq 0 mup (hn_ [14] Z) ⟨vs,w,I.mono mup,Z,Z⟩
 obtain ⟨vs ,w,a2,rfl,rfl⟩:=H;refine G.freezeArr 1 (aS vs (rowsO B o p t z)) Z Z (iU _ _) (ep a2.1) (fun Cr cw bR=>?_);have a3:RowsIn Cr w (rowsO B o p t z):=⟨vs,a2.mono mup,bR⟩;refine Uf fun R a=>?_;refine Uj af U9 ?_;refine Ur (D1 _ d.m_ w (rowsO B o p t z) a3.m_ b.rows (fun r hr=>by rw [AM r hr];omega) (QE (wg (by unfold bs at a7;omega)) dc_)) U7 fl_ ?_;refine C4 4 [6,7] a Z ?_;clear a R;refine Un (G.dropAll (UC U3 ?_));exact ⟨Z,w,Z,a3.mono mup⟩
structure Rich (B:Bk)(fs:List Rat)(RO:Nat->List RowQ):Prop where
 good:Good B.pts B.tris
 br:BookR B
 bz:ix B=0
 terr:Terr B fs
 h60:bs B*bp B<=60
 fine:∀ i o,B.obs[i]?=some o->∃ p ti t z,Fine B fs o p ti t z/\RO i=rowsO B o p t z
theorem mm (h:ix B=0):sM B.col=0:=by
 unfold ix at h;split at h
 ·rename_i h1;exact absurd h h1
 split at h
 ·rename_i h1;exact absurd h h1
 rename_i h1;exact QM h1
theorem uX {l:List Lay}(h:sM l=0):l≠[]/\l.length<=60:=by
 unfold sM at h;split at h
 ·exact absurd h dc_
 rename_i h0;split at h
 ·exact absurd h dc_
 exact ⟨h0,by omega⟩
theorem Rich.bookz {a:Value}(h:Rich B fs RO)(d:Tabs C)(b:BookIn C a B):BookZ C a B 0 :=
 ⟨b,fun D c=>by have h2:=kT D (d.mono c) a B (b.mono c) h.good h.br;rwa [h.bz] at h2,fun _=>(uX (mm h.bz)).1,QE (uX (mm h.bz)).2 dc_,h.good.ok.lp⟩
theorem Rich.scol (h:Rich B fs RO):bs B+1=B.col.length/\B.col.length<=60:=by
 obtain ⟨h1,h2⟩:=uX (mm h.bz);have:=Q3.2 h1;unfold bs;omega
theorem PO (C:Mem)(f:Tabs C)(b:Value)(B:Bk)(c:List Rat)(d:Nat->List RowQ)(i:Nat)(g:BookIn C b B)(a:Rich B c d)(j:i<B.obs.length) :
  Pur cx.P 128 [gv (bs B) (bp B),b,.int .i64 i] C fun u D=>∃ v,u=.tuple #[v,.int .i64 0]/\RowsIn D v (d i):=by
 have e:B.obs[i]?=some B.obs[i]:=ak j;obtain ⟨p,k,t,z,l,m⟩:=a.fine i _ e;have h:=Ms C f b B c i _ p k t z g a.good a.br a.bz a.terr e l a.h60 (mm a.bz) a.scol.1 a.scol.2
 rwa [<- m] at h
theorem oZ (a:Rich B fs RO)(b:i<B.obs.length):(RO i).length<=240/\∀ r∈RO i,r.f.length=bs B*bp B:=by
 have c:B.obs[i]?=some B.obs[i]:=ak b;obtain ⟨p,g,t,z,h,d⟩:=a.fine i _ c;have e:(cJ B.col B.obs[i]).length<=60:=by
  unfold cJ vQ;refine QE (RE _ _) ?_;rw [Rh];have:=a.scol.2;omega
 rw [d];exact ⟨wg e,AM⟩
def bI (B:Bk):List RowQ:=bj (bs B) (bp B) B.col (B.col.length-2)
theorem CG (a:Rich B fs RO):(bI B).length<=120:=by
 have h:=jB (bs B) (bp B) B.col (B.col.length-2);have h1:=a.scol.1;have h2:(B.col.length-2)*bp B<=bs B*bp B:=Ri _ om_;have h3:=a.h60;unfold bI;omega
structure SrcQ where
 n:Int
 r:RowQ
def bZ (vs:List Value)(l:List SrcQ):List (List Value):=List.zipWith (fun w (s:SrcQ)=>[.int .i64 s.n,w,ah (qtx s.r.b)]) vs l
def SrcsOk (C:Mem)(vs:List Value)(l:List SrcQ):Prop:=RowsOk C vs (l.map SrcQ.r)
def Ci (C:Mem)(v:Value)(l:List SrcQ):Prop:=∃ vs,SrcsOk C vs l/\Sl C 3 v (bZ vs l)
theorem SrcsOk.mono {C D:Mem}{a:List Value}{l:List SrcQ}(h:SrcsOk C a l)(b:C.le D):SrcsOk D a l:=RowsOk.mono h b
theorem SrcsOk.m_ {D:Mem}{l:List SrcQ}(h:SrcsOk C vs l)(a:C.le D:=by exact mup):SrcsOk D vs l:=SrcsOk.mono h a
theorem SrcsOk.snoc {C:Mem}{a:List Value}{l:List SrcQ}{v:Value}{s:SrcQ}(h:SrcsOk C a l)(b:Sl C 1 v (s.r.f.map fw)):SrcsOk C (a++[v]) (l++[s]):=by
 unfold SrcsOk at h ⊢;rw [QX];exact RowsOk.snoc h b
theorem ly {l:List SrcQ}(h:SrcsOk C vs l):vs.length=l.length:=by have:=h.1;simpa using this
theorem lA {l:List SrcQ}(h:vs.length=l.length)(v:Value)(s:SrcQ):bZ (vs++[v]) (l++[s])=bZ vs l++[[.int .i64 s.n,v,ah (qtx s.r.b)]]:=by
 unfold bZ;rw [List.zipWith_append h];rfl
theorem nn {l:List SrcQ}(h:vs.length=l.length):(bZ vs l).length=l.length:=by simp [bZ,h]
theorem qY (b:List Value)(l:List SrcQ):∀ r∈bZ b l,r.length=3:=by
 intro r hr;unfold bZ at hr;obtain ⟨i,a⟩:=RP hr;rw [List.getElem?_zipWith] at a;cases h1:b[i]? <;> cases h2:l[i]? <;> rw [h1,h2] at a <;> simp at a
 subst a;rfl
def kE (n:Int)(l:List RowQ):List SrcQ:=l.map fun r=>⟨n,r⟩
def bQ (T:List RowQ)(RO:Nat->List RowQ)(l:List Nat):List SrcQ:=kE (-1) T++l.flatMap fun i=>kE (i:Nat) (RO i)
theorem lu {n:Int}{l:List RowQ}(h:l[i]?=some r):kE n (l.take (i+1))=kE n (l.take i)++[⟨n,r⟩]:=by
 unfold kE;rw [QJ,h,QX];rfl
theorem xw {T:List RowQ}:∀ {l:List Nat},(∀ i∈l,(RO i).length<=240)->l.length<=100->T.length<=120->(bQ T RO l).length<=120+240*l.length:=by
 intro l h e hT;unfold bQ;rw [Qp];have b:∀ l:List Nat,(∀ i∈l,(RO i).length<=240)->(l.flatMap fun i=>kE (i:Nat) (RO i)).length<=240*l.length:=by
  intro l;induction l with
  | nil=>intro _;simp
  | cons a l c =>
   intro h;have h1:=h a aL;have h2:=c fun i d=>h i (Qq _ d);rw [List.flatMap_cons,Qp,QC];have:(kE (a:Nat) (RO a)).length=(RO a).length:=by simp [kE]
   omega
 have h1:=b l h;have:(kE (-1) T).length=T.length:=by simp [kE]
 omega
theorem HA (C:Mem)(hT:Tabs C)(bv lv:Value)(B:Bk)(fs:List Rat)(c:Nat->List RowQ)(l:List Nat)(hB:BookIn C bv B)(o:Rich B fs c)(L:Sl C 1 lv (l.map aO))(ac:∀ i∈l,i<B.obs.length)(aN:l.length<=100)(aP:(bQ (bI B) c l).length<=300) :
  Pur cx.P 85 [gv (bs B) (bp B),bv,lv] C fun u D=>∃ v,u=.tuple #[v,.int .i64 0]/\Ci D v (bQ (bI B) c l):=by
 have au:=hB;have av:=CG o;obtain ⟨v1,v2,tv,cv,ov,rfl,h1,h2,h3,h4,h5⟩:=id hB.ex;obtain ⟨M,N,rfl,ay,aQ,_⟩:=id L;have aR:maxLen<=9223372036854775807:=by simp [maxLen]
 simp only [aw] at L ay ⊢;have az:=fun m:List Nat=>fun hm:∀ i∈m,i<B.obs.length=>fun aA:m.length<=100=>xw (T:=bI B) (RO:=c) (l:=m) (fun i E=>(oZ o (hm i E)).1) aA av;refine Uk func85 66 U3 fun w0=>Uf fun R d=>Uw U6 fun O=>Uw U6 fun Q=>C4 2 [2,3,4] d Z<|G.freeze 1 Z fun _ _ ad=>G.freeze 0 Z fun _ _ ae=>Ua 1 [2,3,4,8] Z<|Uf fun R d=>Uc (bkT ad 2) U8<|Ue U6<|Uc (bkT ae 1) U8<|UM (vN _ hT.m_ _ (bs B) (bp B) B.col h4.m_ o.scol.1 o.h60 o.br.col) U7 (fun aS _ _ aB=>?_);obtain ⟨ag,S,F⟩:=aB;rw [show bj (bs B) (bp B) B.col (B.col.length-2)=bI B from rfl] at S F;have ai:=S.1;obtain ⟨At,ct,rfl,aC,aT,_⟩:=id F;simp only [ep ai] at F aC ⊢;refine C4 2 [2,3,4,8,20,21,22] d Z<|G.nilArr 125 3<|G.loop (fun fr C' e x=>∃ (i:Nat)(vs:List Value)(w:Value),(i<=(bI B).length/\SrcsOk C' vs (kE (-1) ((bI B).take i)))/\fr=[(2,[],.slice M l.length N),(3,[],.pointer (some ⟨O,0,none⟩)),(4,[],.pointer (some ⟨Q,0,none⟩)),(8,[],w),(20,[],.slice At (bI B).length ct),(21,[],.int .i64 (bI B).length),(22,[],.int .i64 i)]/\e=[.arr w 125 3 (kE (-1) ((bI B).take i)).length (bZ vs (kE (-1) ((bI B).take i))).flatten]/\x=(bI B).length-i) (hn_ [2,3,4,8,20,21,22] Z) ⟨0,[],_,⟨Qn _,RowsOk.nil _⟩,Z,Z,Z⟩ (fun fr aU aW m _ y=>?_);obtain ⟨i,vs,w,⟨E,H⟩,rfl,rfl,rfl⟩:=y;refine Ua 1 [2,3,4,8,20,21,22,23] Z<|Ud (fun U=>?_) fun U=>?_
 ·have I:i<(bI B).length:=by
   have:=aV U;omega
  obtain ⟨r,g⟩:∃ r,(bI B)[i]?=some r:=⟨(bI B)[i],ak I⟩;obtain ⟨p,q⟩:∃ p,ag[i]?=some p:=⟨ag[i]'(by rw [ai];exact I),ak _⟩;have t:=S.2 i p r q g;obtain ⟨h,n,rfl,_⟩:=id t;simp only [aw] at t q;have aD:(kE (-1) ((bI B).take i)).length=i:=by simp [kE];omega
  refine Uf fun R d=>Us F.m_ U10 om_ (kH q g) fl_ fun aX aE=>Uc aE U8<|Uv U5 fun aY=>Um (j:=0) U12<|Ug [2,3,4,8,10,20,21,22] d Z<|Ub 1 Z fun R d=>Uj af U9<|Uu [.int .i64 (-1),.slice h r.f.length n,ah (qtx r.b)] U8<|Ux [[.int .i64 (-1),.slice h r.f.length n,ah (qtx r.b)]] U12 fun aZ _ _ aF=>D.append (j:=1) U11 aF Z ax (by simp only [PH];omega) fl_ fun aj=>C4 1 [2,3,4,8,20,21,22] d Z<|Uf fun R d=>Ul _ U7<|C4 1 [2,3,4,8,20,21,22] d Z ?_;have z:=SrcsOk.snoc (s:=⟨-1,r⟩) H.m_ t.m_;rw [<- lu g] at z;refine UV 1 Z<|Ut (L':=[.arr aj 125 3 (kE (-1) ((bI B).take (i+1))).length (bZ (vs++[.slice h r.f.length n]) (kE (-1) ((bI B).take (i+1)))).flatten]) (by rw [lu g,lA (ly H)];simp)<|Up (m':=(bI B).length-(i+1)) om_ mup (hn_ [2,3,4,8,20,21,22] Z) ⟨i+1,vs++[.slice h r.f.length n],aj,⟨by omega,z.mono mup⟩,Z,Z,Z⟩
 have I:i=(bI B).length:=by
  have:=Qm U;omega
 rw [I,Qv] at H ⊢;refine Ua 3 [3,4,8,32,33,34] Z<|Ut (L':=[.arr w 125 3 (bQ (bI B) c (l.take 0)).length (bZ vs (bQ (bI B) c (l.take 0))).flatten]) (by simp [bQ])<|G.loop (fun fr C' e x=>∃ (j:Nat)(vs:List Value)(w:Value),(j<=l.length/\SrcsOk C' vs (bQ (bI B) c (l.take j)))/\fr=[(3,[],.pointer (some ⟨O,0,none⟩)),(4,[],.pointer (some ⟨Q,0,none⟩)),(8,[],w),(32,[],.slice M l.length N),(33,[],.int .i64 l.length),(34,[],.int .i64 j)]/\e=[.arr w 125 3 (bQ (bI B) c (l.take j)).length (bZ vs (bQ (bI B) c (l.take j))).flatten]/\x=l.length-j) (hn_ [3,4,8,32,33,34] Z) ⟨0,vs,w,⟨Qn _,by simpa [bQ] using H⟩,Z,Z,Z⟩ (fun fr a0 a1 m _ y=>?_);obtain ⟨j,vs,w,⟨hj,A⟩,rfl,rfl,rfl⟩:=y;refine Ua 1 [3,4,8,32,33,34,35] Z<|Ud (fun V=>?_) fun V=>?_
 ·have W:j<l.length:=by
   have:=aV V;omega
  obtain ⟨a,X⟩:∃ a,l[j]?=some a:=⟨l[j],ak W⟩;have al:=ac a (Qi X);have aG:=az (l.take j) (fun i E=>ac i (Rw E)) (by rw [Qz];omega);rw [Qz] at aG;have aH:bQ (bI B) c (l.take (j+1))=bQ (bI B) c (l.take j)++kE (a:Nat) (c a):=by
   unfold bQ;rw [jm _ X,QO]
  have a2:=(oZ o al).1;refine Uf fun R d=>Us L.m_ U10 om_ (bV X) fl_ fun a3 aI=>Uc aI U8<|C4 1 [3,4,8,12,32,33,34] d Z<|Uf fun R d=>Uc (bkT ad 2) U8<|Uc (bkT ae 5) U8<|Ue U6<|UM (PO _ hT.m_ _ B fs c a au.m_ o al) U7 (fun a4 _ _ aJ=>?_);obtain ⟨rv,rfl,am,an,Y⟩:=aJ;have ao:=an.1;obtain ⟨Ar,cr,rfl,aK,a5,_⟩:=id Y;simp only [ep ao] at Y aK ⊢;refine C4 5 [3,4,8,12,13,14,32,33,34] d Z<|Ua 2 [3,4,8,12,13,14,32,33,34,46] Z<|Ud (fun ap=>?_) fun ap=>?_
  ·exact absurd ap dc_
  refine Ua 3 [3,4,8,12,32,33,34,48,49,50] Z<|Ut (L':=[.arr w 125 3 (bQ (bI B) c (l.take j)++kE (a:Nat) ((c a).take 0)).length (bZ vs (bQ (bI B) c (l.take j)++kE (a:Nat) ((c a).take 0))).flatten]) (by simp [kE])<|G.loop (fun fr C' e x=>∃ (k:Nat)(vs:List Value)(w:Value),(k<=(c a).length/\SrcsOk C' vs (bQ (bI B) c (l.take j)++kE (a:Nat) ((c a).take k)))/\fr=[(3,[],.pointer (some ⟨O,0,none⟩)),(4,[],.pointer (some ⟨Q,0,none⟩)),(8,[],w),(12,[],.int .i64 a),(32,[],.slice M l.length N),(33,[],.int .i64 l.length),(34,[],.int .i64 j),(48,[],.slice Ar (c a).length cr),(49,[],.int .i64 (c a).length),(50,[],.int .i64 k)]/\e=[.arr w 125 3 (bQ (bI B) c (l.take j)++kE (a:Nat) ((c a).take k)).length (bZ vs (bQ (bI B) c (l.take j)++kE (a:Nat) ((c a).take k))).flatten]/\x=(c a).length-k) (hn_ [3,4,8,12,32,33,34,48,49,50] Z) ⟨0,vs,w,⟨Qn _,by rw [show kE (a:Nat) ((c a).take 0)=[] from Z,QI];exact A.mono mup⟩,Z,Z,Z⟩ (fun fr a6 a7 m _ y=>?_);obtain ⟨k,vs,w,⟨hk,J⟩,rfl,rfl,rfl⟩:=y;refine Ua 1 [3,4,8,12,32,33,34,48,49,50,51] Z<|Ud (fun aa=>?_) fun aa=>?_
  ·have K:k<(c a).length:=by
    have:=aV aa;omega
   obtain ⟨r,g⟩:∃ r,(c a)[k]?=some r:=⟨(c a)[k],ak K⟩;obtain ⟨p,q⟩:∃ p,am[k]?=some p:=⟨am[k]'(by rw [ao];exact K),ak _⟩;have t:=an.2 k p r q g;obtain ⟨h,n,rfl,_⟩:=id t;simp only [aw] at t q;have aD:(kE (a:Nat) ((c a).take k)).length<=240:=by simp [kE];omega
   have a8:(bQ (bI B) c (l.take j)++kE (a:Nat) ((c a).take k)).length<=100000:=by rw [Qp];omega
   refine Uf fun R d=>Us Y.m_ U10 om_ (kH q g) fl_ fun a9 aL=>Uc aL U8<|Uv U5 fun ba=>Um (j:=0) U12<|Ug [3,4,8,12,16,32,33,34,48,49,50] d Z<|Ub 2 Z fun R d=>Uj af U9<|Uu [.int .i64 (a:Nat),.slice h r.f.length n,ah (qtx r.b)] U8<|Ux [[.int .i64 (a:Nat),.slice h r.f.length n,ah (qtx r.b)]] U12 fun bb _ _ aM=>D.append (j:=1) U11 aM Z ax (by simp only [PH];omega) fl_ fun aq=>C4 1 [3,4,8,12,32,33,34,48,49,50] d Z<|Uf fun R d=>Ul _ U7<|C4 1 [3,4,8,12,32,33,34,48,49,50] d Z ?_;have z:=SrcsOk.snoc (s:=⟨(a:Nat),r⟩) J.m_ t.m_;rw [QO,<- lu g] at z;refine UV 1 Z<|Ut (L':=[.arr aq 125 3 (bQ (bI B) c (l.take j)++kE (a:Nat) ((c a).take (k+1))).length (bZ (vs++[.slice h r.f.length n]) (bQ (bI B) c (l.take j)++kE (a:Nat) ((c a).take (k+1)))).flatten]) (by rw [lu g,<- QO,lA (ly J)];simp;omega)<|Up (m':=(c a).length-(k+1)) om_ mup (hn_ [3,4,8,12,32,33,34,48,49,50] Z) ⟨k+1,vs++[.slice h r.f.length n],aq,⟨by omega,z.mono mup⟩,Z,Z,Z⟩
  have K:k=(c a).length:=by
   have:=Qm aa;omega
  rw [K,Qv,<- aH] at J ⊢;refine Uf fun R d=>Ul _ U7<|C4 1 [3,4,8,32,33,34] d Z<|Up (m':=l.length-(j+1)) om_ mup (hn_ [3,4,8,32,33,34] Z) ⟨j+1,vs,w,⟨by omega,J⟩,Z,Z,Z⟩
 have W:j=l.length:=by
  have:=Qm V;omega
 rw [W,Qv] at A ⊢;refine G.freezeArr 0 (bZ vs (bQ (bI B) c l)) Z Z (qY _ _) (nn (ly A)) (fun Cg hg ab=>?_);obtain ⟨Ag,cg,rfl,_⟩:=id ab;rw [nn (ly A)] at ab ⊢;refine Ua 3 [8,64] Z<|Ud (fun ar=>?_) fun ar=>?_
 ·exfalso;have:=aV ar;omega
 refine Ua 3 [6,7] Z<|Un (G.dropAll (UC U3 ?_));exact ⟨Z,_,Z,vs,A.mono mup,ab.mono mup⟩
def bS (err:Nat->Int):Nat->Int
 | 0=>0
 | n+1=>if bS err n≠0 then bS err n else err n
theorem lY {a:Nat->Int}{n:Nat}(h:bS a n≠0):∀ m,n<=m->bS a m=bS a n
 | 0,hm=>by rw [show n=0 by omega]
 | m+1,hm=>by
  rcases QQ m n with h1 | h1
  ·rw [show n=m+1 by omega]
  have b:=lY h m h1;simp only [bS,b];rw [aH h]
theorem gb (a:bS err i=0)(b:err i≠0)(c:i<n):bS err n=err i:=by
 have h1:bS err (i+1)=err i:=by simp only [bS,a];rw [aA dc_]
 rw [lY (n:=i+1) (by rw [h1];exact b) n om_,h1]
theorem ik (a:bS err i=0)(b:err i=0):bS err (i+1)=0:=by
 simp only [bS,a];rw [aA dc_,b]
theorem lX {a:Nat->Int}:∀ {n:Nat},bS a n=0->∀ i,i<n->a i=0
 | 0,_,i,b=>by omega
 | n+1,h,i,b=>by
  by_cases h0:bS a n=0
  ·rcases QQ i n with h1 | h1
   ·exact lX h0 i h1
   have:i=n:=by omega
   subst this;simp only [bS,h0] at h
   rwa [aA dc_] at h
  simp only [bS] at h;rw [aH h0] at h;exact absurd h h0
theorem kQ {a:Nat->Int}:∀ {n:Nat},(∀ i,i<n->a i=0)->bS a n=0
 | 0,_=>rfl
 | n+1,h=>ik (kQ fun i b=>h i om_) (h n om_)
theorem Dv (C:Mem)(v:Value)(l:List Int)(z:Int)(b:Sl C 1 v (l.map me)):Gives cx.P 126 [v,.int .i64 z] C (.int .i64 (kf (fun y=>decide (z=y)) l 0)):=by
 obtain ⟨h,c0,rfl,j,t,_⟩:=id b;have u:maxLen<=9223372036854775807:=by simp [maxLen]
 simp only [aw] at b j ⊢;refine Uk func126 19 U3 fun w0=>Ua 1 [0,1] Z<|Ua 3 [0,1,7,8] Z<|G.loop (fun fr C' k n=>∃ (i:Nat),(i<=l.length/\∀ y∈l.take i,(fun y=>decide (z=y)) y=false)/\fr=[(0,[],.slice h l.length c0),(1,[],.int .i64 z),(7,[],.int .i64 l.length),(8,[],.int .i64 i)]/\k=[]/\n=l.length-i) (hn_ [0,1,7,8] Z) ⟨0,⟨Qn _,by simp⟩,Z,Z,Z⟩ (fun fr w A m o p=>?_);obtain ⟨i,⟨B,a⟩,rfl,rfl,rfl⟩:=p;refine Ua 1 [0,1,7,8,9] Z<|Ud (fun c=>?_) fun c=>?_
 ·have d:i<l.length:=by simpa using c
  obtain ⟨x,e⟩:∃ x,l[i]?=some x:=⟨l[i],ak d⟩;refine Ua 2 [0,1,5,7,8] Z<|Ub 3 Z fun R f=>Us b.m_ U10 om_ (bV e) fl_ fun D q=>Uc q U8<|C4 1 [0,1,5,7,8,16] f Z<|Ud (fun g=>?_) fun g=>?_
  ·have r:decide (z=x)=true:=by simpa using g
   exact Ua 2 [4] Z<|Ui U2<|⟨by rw [oa e r a,RC],Z⟩
  have s:decide (z=x)=false:=by simpa using g
  refine Uf fun R f=>Ul _ U7<|C4 1 [0,1,7,8] f Z<|Up (m':=l.length-(i+1)) om_ o (hn_ [0,1,7,8] Z) ⟨i+1,⟨by omega,fun y hy=>by
   rw [QJ,e] at hy;rcases Qy.1 hy with hy | hy
   ·exact a y hy
   simp only [RD,QF] at hy;subst hy;exact s⟩,Z,Z,Z⟩
 have d:i=l.length:=by
  have:¬ i<l.length:=by simpa using c
  omega
 exact Ua 1 [4] Z<|Ui U2<|⟨by rw [d,Qv] at a;rw [lV a],Z⟩
theorem uT (C:Mem)(v:Value)(l:List Int)(z:Int)(a:Sl C 1 v (l.map me)):Gives cx.P 84 [v,.int .i64 z] C (.bool (decide (z∈l))):=by
 refine Uk func84 9 U3 fun w0=>?_;refine Ua 1 [0,1] Z ?_;refine Ub 2 Z fun R b=>?_;refine Uo (Dv _ v l z a.m_) U7 ?_;refine C4 2 [4] b Z ?_;refine Ui U2 ?_;refine ⟨?_,Z⟩;congr 1;rw [Q7];rcases mW (fun y=>decide (z=y)) l with ⟨h1,h2⟩ | ⟨i,x,h1,h2,h3,_⟩
 ·rw [h1];constructor
  ·intro h;omega
  intro h;have:=h2 z h;simp at this
 rw [h1];constructor
 ·intro _;have:z=x:=aV h3;rw [this];exact Qi h2
 intro _;omega
def rx (n:Nat)(l:List Int)(i:Nat):Int:=if l.getD i 0<0∨(n:Int)<=l.getD i 0 then 3 else if l.getD i 0∈l.take i then 9 else 0
def chZ (n:Nat)(l:List Int):Int:=bS (rx n l) l.length
theorem Pf {l:List Int}(h:chZ n l=0):l=(l.map Int.toNat).map (fun i:Nat=>(i:Int))/\∀ i∈l.map Int.toNat,i<n:=by
 have c:∀ z∈l,0<=z/\z<(n:Int):=by
  intro z a;obtain ⟨i,b⟩:=RP a;have h1:=lX h i (aF.1 b).1;unfold rx at h1;rw [al,b,Rx] at h1;split at h1
  ·cases h1
  omega
 refine ⟨?_,fun i b=>?_⟩
 ·rw [Q6];symm;have e:∀ z∈l,((fun i:Nat=>(i:Int)) ∘ Int.toNat) z=id z:=fun z a=>Int.toNat_of_nonneg (c z a).1;rw [List.map_congr_left e,List.map_id]
 obtain ⟨z,a,rfl⟩:=Qt.1 b;have:=c z a;omega
theorem DV (C:Mem)(y:Tabs C)(A E:Value)(B:Bk)(F:List Rat)(g:Nat->List RowQ)(l:List Int)(o:BookIn C A B)(p:Rich B F g)(c:Sl C 1 E (l.map me))(N:l.length<=100)(O:chZ B.obs.length l=0->(bQ (bI B) g (l.map Int.toNat)).length<=300) :
  Pur cx.P 52 [A,E] C fun u D=>∃ v,u=.tuple #[v,.int .i64 (chZ B.obs.length l)]/\Ci D v (if chZ B.obs.length l=0 then bQ (bI B) g (l.map Int.toNat) else []):=by
 have H:=o;have Q:=c;have I:=p.bookz y o;obtain ⟨v1,v2,tv,cv,ov,rfl,h1,h2,h3,h4,h5⟩:=id o.ex;obtain ⟨A5,c5,rfl,S,ag,_⟩:=id h5;obtain ⟨q,d,rfl,T,ah,_⟩:=id c;have ai:maxLen<=9223372036854775807:=by simp [maxLen]
 simp only [aw] at h5 S H I c Q T ⊢;refine Uk func52 46 U3 fun w0=>Uf fun R a=>Uw U6 fun U=>C4 2 [1,2] a Z<|G.freeze 0 Z fun _ _ r=>Uf fun R a=>Uc (bkT r 5) U8<|Uo (P0 _ _ B I.m_ p.h60) U7<|Uh 3 Z<|Uv U5 fun V=>Um (j:=0) U12<|C4 1 [1,2,6,7] a Z<|Ua 2 [1,2,6,7,16] Z<|Ud (fun J=>?_) fun J=>?_
 ·exact absurd J dc_
 refine G.freeze 0 Z fun _ _ W=>Ua 3 [1,2,6,18,19,20] Z<|G.loop (fun fr C' X Y=>∃ (i:Nat),(i<=l.length/\bS (rx B.obs.length l) i=0)/\fr=[(1,[],.slice q l.length d),(2,[],.pointer (some ⟨U,0,none⟩)),(6,[],.pointer (some ⟨V,0,none⟩)),(18,[],.slice q l.length d),(19,[],.int .i64 l.length),(20,[],.int .i64 i)]/\X=[]/\Y=l.length-i) (hn_ [1,2,6,18,19,20] Z) ⟨0,⟨Qn _,Z⟩,Z,Z,Z⟩ (fun fr aj am m _ hI=>?_);obtain ⟨i,⟨hi,k⟩,rfl,rfl,rfl⟩:=hI;refine Ua 1 [1,2,6,18,19,20,21] Z<|Ud (fun s=>?_) fun s=>?_
 ·have e:i<l.length:=by
   have:=aV s;omega
  obtain ⟨z,K⟩:∃ z,l[i]?=some z:=⟨l[i],ak e⟩;have t:l.getD i 0=z:=by rw [al,K,Rx]
  have L:=Sl.sub c (l:=0) (h:=i) (m:=d) (Qn _) ap om_ (Qj _);rw [Ru,<- SE] at L;refine Ub 1 Z fun R a=>Us c.m_ U10 om_ (bV K) fl_ fun an aa=>Uc aa U8<|C4 2 [1,2,6,8,9,18,19,20] a Z<|Ub 5 Z fun R a=>UE U6 (fun _=>PtrTo.blockT (Mem.get r mup) _ 1) U3<|Uh 2 Z<|UF U8<|Ug [1,2,6,8,9,18,19,20,33] a Z<|Ud (fun w=>?_) fun w=>?_
  ·have b:rx B.obs.length l i=3:=by
    unfold rx;rw [t,aH (by simp only [RY,Qs] at w;omega)]
   have f:chZ B.obs.length l=3:=by
    unfold chZ;rw [gb k (by rw [b];decide) e,b]
   refine Ua 2 [4,5] Z<|Un (G.dropAll (UC U3 ?_));exact ⟨Z,.slice none 0 0,by rw [f],by rw [f];exact ⟨[],RowsOk.nil _,Sl.nil _ _⟩⟩
  have M:¬ (z<0∨(B.obs.length:Int)<=z):=by
   simp only [RQ,QG] at w;omega
  refine Ub 2 Z fun R a=>U0 0 i d U12 (fun _=>⟨.inl ⟨Z,Z⟩,.inr ⟨_,Z⟩,.inl ⟨Z,Z⟩,by omega,by omega,by omega⟩) U2<|Ue U6<|Uo (uT _ _ (l.take i) z L.m_) U7<|Ug [1,2,6,18,19,20,38] a Z<|Ud (fun x=>?_) fun x=>?_
  ·have hm:z∈l.take i:=aV x;have b:rx B.obs.length l i=9:=by
    unfold rx;rw [t,aA M,aH hm]
   have f:chZ B.obs.length l=9:=by
    unfold chZ;rw [gb k (by rw [b];decide) e,b]
   refine Ua 2 [4,5] Z<|Un (G.dropAll (UC U3 ?_));exact ⟨Z,.slice none 0 0,by rw [f],by rw [f];exact ⟨[],RowsOk.nil _,Sl.nil _ _⟩⟩
  have hm:z ∉ l.take i:=Qm x;have b:rx B.obs.length l i=0:=by
   unfold rx;rw [t,aA M,aA hm]
  refine Uf fun R a=>Ul _ U7<|C4 1 [1,2,6,18,19,20] a Z<|Up (m':=l.length-(i+1)) om_ mup (hn_ [1,2,6,18,19,20] Z) ⟨i+1,⟨by omega,ik k b⟩,Z,Z,Z⟩
 have e:i=l.length:=by
  have:=Qm s;omega
 subst e;have n:chZ B.obs.length l=0:=k;obtain ⟨ab,ac⟩:=Pf n;have ad:Sl C 1 (.slice q l.length d) ((l.map Int.toNat).map aO):=by
  have h:=congrArg (List.map me) ab;rw [Q6] at h;rw [show (l.map Int.toNat).map aO=l.map me from h.symm];exact c
 refine Uf fun R a=>Uc (bkT W 2) U8<|Uc (bkT r 5) U8<|Ue U6<|UH (HA _ y.m_ _ _ B F g (l.map Int.toNat) H.m_ p ad.m_ ac (by simpa using N) (O n)) U7 fl_ (fun ao _ _ ae=>?_);obtain ⟨rv,rfl,af⟩:=ae;refine C4 4 [4,5] a Z<|Un (G.dropAll (UC U3 ?_));exact ⟨Z,rv,by rw [n],by rw [aH n];exact af⟩
def dotV (f x:List Rat):Nat->Rat
 | 0=>0
 | n+1=>dotV f x n+f.getD n 0*x.getD n 0
structure DotOk (r:RowQ)(x:List Rat):Prop where
 f:∀ q∈r.f,QB 22 q
 b:QB 22 r.b
 len:r.f.length=x.length
 s:∀ n,QB 2000 (dotV r.f x n)
def sqP:List (Int × Int):=[(0,0),(4,0),(4,4),(0,4)]
def shP:Nat->List (Int × Int)
 | 0=>sqP
 | 1=>sqP
 | 2=>sqP++[(2,1)]
 | 3=>[(0,0),(6,0),(0,4)]
 | 4=>[(0,0),(2,0),(4,0),(0,2),(2,2),(4,2)]
 | 5=>[(1,4),(5,3),(4,0),(0,0)]
 | 6=>sqP++[(2,0)]
 | _=>[(0,0),(6,0),(0,6),(2,2)]
def shT:Nat->List Tri
 | 0=>[(0,1,2),(0,2,3)]
 | 1=>[(0,1,3),(1,2,3)]
 | 2=>[(0,1,4),(1,2,4),(2,3,4),(3,0,4)]
 | 3=>[(2,0,1)]
 | 4=>[(0,1,4),(0,4,3),(1,2,5),(1,5,4)]
 | 5=>[(3,2,1),(3,1,0)]
 | 6=>[(0,4,3),(4,2,3),(4,1,2)]
 | _=>[(0,1,3),(1,2,3),(2,0,3)]
def P7 (p:Int × Int):List Value:=[.int .i64 p.1,.int .i64 p.2]
def ShIn (u:Value)(D:Mem)(m:Nat):Prop:=∃ pv tv,u=.tuple #[pv,tv]/\Sl D 2 pv ((shP m).map P7)/\Sl D 3 tv ((shT m).map kC)
theorem CR (C:Mem)(a:Nat)(_H:a<256):Pur cx.P 94 [.int .u8 a] C fun u D=>ShIn u D (a % 8):=by
 have I:a % 8<8:=Q2 _ dc_;obtain ⟨m,hm⟩:∃ m,a % 8=m:=⟨_,rfl⟩;refine Uk func94 86 U3 fun w0=>Ua 2 [0] Z<|Uf fun R b=>Uu ([.int .i64 0,.int .i64 0]) U8<|Uu ([.int .i64 4,.int .i64 0]) U8<|Uu ([.int .i64 4,.int .i64 4]) U8<|Uu ([.int .i64 0,.int .i64 4]) U8<|UO [[.int .i64 0,.int .i64 0],[.int .i64 4,.int .i64 0],[.int .i64 4,.int .i64 4],[.int .i64 0,.int .i64 4]] U12 fl_ fun J _ _ d=>C4 1 [0,4] b Z<|Ub 1 Z fun R b=>U1 (a) (8) U6 om_ U2<|Ug [4,11] b Z<|Ua 2 [4,11,12] Z<|Ud (fun f=>?_) fun f=>?_
 ·have c:a % 8=0:=by
   have:=dS f;omega
  refine Ub 1 Z fun R b=>Uu ([.int .i64 0,.int .i64 1,.int .i64 2]) U8<|Uu ([.int .i64 0,.int .i64 2,.int .i64 3]) U8<|Ux [[.int .i64 0,.int .i64 1,.int .i64 2],[.int .i64 0,.int .i64 2,.int .i64 3]] U12 fun K _ _ n=>C4 2 [2,3] b Z<|Un (G.dropAll (UC U3 ?_));exact ⟨Z,by rw [c];exact ⟨_,_,Z,d.mono mup,n.mono mup⟩⟩
 have L:a % 8≠0:=by
  intro e;rw [e] at f;exact absurd f dc_
 refine Ua 2 [4,11,18] Z<|Ud (fun g=>?_) fun g=>?_
 ·have c:a % 8=1:=by
   have:=dS g;omega
  refine Ub 1 Z fun R b=>Uu ([.int .i64 0,.int .i64 1,.int .i64 3]) U8<|Uu ([.int .i64 1,.int .i64 2,.int .i64 3]) U8<|Ux [[.int .i64 0,.int .i64 1,.int .i64 3],[.int .i64 1,.int .i64 2,.int .i64 3]] U12 fun M _ _ o=>C4 2 [2,3] b Z<|Un (G.dropAll (UC U3 ?_));exact ⟨Z,by rw [c];exact ⟨_,_,Z,d.mono mup,o.mono mup⟩⟩
 have N:a % 8≠1:=by
  intro e;rw [e] at g;exact absurd g dc_
 refine Ua 2 [4,11,24] Z<|Ud (fun h=>?_) fun h=>?_
 ·have c:a % 8=2:=by
   have:=dS h;omega
  refine Ub 1 Z fun R b=>Uu ([.int .i64 2,.int .i64 1]) U8<|Ux [[.int .i64 2,.int .i64 1]] U12 fun O _ _ p=>V9 Z Z Z Z Z Z Z Z Z Z d.m_ p.m_ (.inr dc_) (by simp only [QC,QW,maxLen];omega) dc_ fl_ fun Q _ _ q=>Uu ([.int .i64 0,.int .i64 1,.int .i64 4]) U8<|Uu ([.int .i64 1,.int .i64 2,.int .i64 4]) U8<|Uu ([.int .i64 2,.int .i64 3,.int .i64 4]) U8<|Uu ([.int .i64 3,.int .i64 0,.int .i64 4]) U8<|Ux [[.int .i64 0,.int .i64 1,.int .i64 4],[.int .i64 1,.int .i64 2,.int .i64 4],[.int .i64 2,.int .i64 3,.int .i64 4],[.int .i64 3,.int .i64 0,.int .i64 4]] U12 fun S _ _ r=>C4 2 [2,3] b Z<|Un (G.dropAll (UC U3 ?_));exact ⟨Z,by rw [c];exact ⟨_,_,Z,q.mono mup,r.mono mup⟩⟩
 have T:a % 8≠2:=by
  intro e;rw [e] at h;exact absurd h dc_
 refine Ua 2 [4,11,35] Z<|Ud (fun i=>?_) fun i=>?_
 ·have c:a % 8=3:=by
   have:=dS i;omega
  refine Uf fun R b=>Uu ([.int .i64 0,.int .i64 0]) U8<|Uu ([.int .i64 6,.int .i64 0]) U8<|Uu ([.int .i64 0,.int .i64 4]) U8<|Ux [[.int .i64 0,.int .i64 0],[.int .i64 6,.int .i64 0],[.int .i64 0,.int .i64 4]] U12 fun U _ _ s=>Uu ([.int .i64 2,.int .i64 0,.int .i64 1]) U8<|Ux [[.int .i64 2,.int .i64 0,.int .i64 1]] U12 fun V _ _ t=>C4 2 [2,3] b Z<|Un (G.dropAll (UC U3 ?_));exact ⟨Z,by rw [c];exact ⟨_,_,Z,s.mono mup,t.mono mup⟩⟩
 have W:a % 8≠3:=by
  intro e;rw [e] at i;exact absurd i dc_
 refine Ua 2 [4,11,43] Z<|Ud (fun j=>?_) fun j=>?_
 ·have c:a % 8=4:=by
   have:=dS j;omega
  refine Uf fun R b=>Uu ([.int .i64 0,.int .i64 0]) U8<|Uu ([.int .i64 2,.int .i64 0]) U8<|Uu ([.int .i64 4,.int .i64 0]) U8<|Uu ([.int .i64 0,.int .i64 2]) U8<|Uu ([.int .i64 2,.int .i64 2]) U8<|Uu ([.int .i64 4,.int .i64 2]) U8<|Ux [[.int .i64 0,.int .i64 0],[.int .i64 2,.int .i64 0],[.int .i64 4,.int .i64 0],[.int .i64 0,.int .i64 2],[.int .i64 2,.int .i64 2],[.int .i64 4,.int .i64 2]] U12 fun X _ _ v=>Uu ([.int .i64 0,.int .i64 1,.int .i64 4]) U8<|Uu ([.int .i64 0,.int .i64 4,.int .i64 3]) U8<|Uu ([.int .i64 1,.int .i64 2,.int .i64 5]) U8<|Uu ([.int .i64 1,.int .i64 5,.int .i64 4]) U8<|Ux [[.int .i64 0,.int .i64 1,.int .i64 4],[.int .i64 0,.int .i64 4,.int .i64 3],[.int .i64 1,.int .i64 2,.int .i64 5],[.int .i64 1,.int .i64 5,.int .i64 4]] U12 fun Y _ _ w=>C4 2 [2,3] b Z<|Un (G.dropAll (UC U3 ?_));exact ⟨Z,by rw [c];exact ⟨_,_,Z,v.mono mup,w.mono mup⟩⟩
 have aa:a % 8≠4:=by
  intro e;rw [e] at j;exact absurd j dc_
 refine Ua 2 [4,11,57] Z<|Ud (fun k=>?_) fun k=>?_
 ·have c:a % 8=5:=by
   have:=dS k;omega
  refine Uf fun R b=>Uu ([.int .i64 1,.int .i64 4]) U8<|Uu ([.int .i64 5,.int .i64 3]) U8<|Uu ([.int .i64 4,.int .i64 0]) U8<|Uu ([.int .i64 0,.int .i64 0]) U8<|Ux [[.int .i64 1,.int .i64 4],[.int .i64 5,.int .i64 3],[.int .i64 4,.int .i64 0],[.int .i64 0,.int .i64 0]] U12 fun ab _ _ x=>Uu ([.int .i64 3,.int .i64 2,.int .i64 1]) U8<|Uu ([.int .i64 3,.int .i64 1,.int .i64 0]) U8<|Ux [[.int .i64 3,.int .i64 2,.int .i64 1],[.int .i64 3,.int .i64 1,.int .i64 0]] U12 fun ac _ _ y=>C4 2 [2,3] b Z<|Un (G.dropAll (UC U3 ?_));exact ⟨Z,by rw [c];exact ⟨_,_,Z,x.mono mup,y.mono mup⟩⟩
 have ad:a % 8≠5:=by
  intro e;rw [e] at k;exact absurd k dc_
 refine Ua 2 [4,67] Z<|Ud (fun l=>?_) fun l=>?_
 ·have c:a % 8=6:=by
   have:=dS l;omega
  refine Ub 1 Z fun R b=>Uu ([.int .i64 2,.int .i64 0]) U8<|Ux [[.int .i64 2,.int .i64 0]] U12 fun ae _ _ z=>V9 Z Z Z Z Z Z Z Z Z Z d.m_ z.m_ (.inr dc_) (by simp only [QC,QW,maxLen];omega) dc_ fl_ fun af _ _ A=>Uu ([.int .i64 0,.int .i64 4,.int .i64 3]) U8<|Uu ([.int .i64 4,.int .i64 2,.int .i64 3]) U8<|Uu ([.int .i64 4,.int .i64 1,.int .i64 2]) U8<|Ux [[.int .i64 0,.int .i64 4,.int .i64 3],[.int .i64 4,.int .i64 2,.int .i64 3],[.int .i64 4,.int .i64 1,.int .i64 2]] U12 fun ag _ _ B=>C4 2 [2,3] b Z<|Un (G.dropAll (UC U3 ?_));exact ⟨Z,by rw [c];exact ⟨_,_,Z,A.mono mup,B.mono mup⟩⟩
 have ah:a % 8≠6:=by
  intro e;rw [e] at l;exact absurd l dc_
 refine Uf fun R b=>Uu ([.int .i64 0,.int .i64 0]) U8<|Uu ([.int .i64 6,.int .i64 0]) U8<|Uu ([.int .i64 0,.int .i64 6]) U8<|Uu ([.int .i64 2,.int .i64 2]) U8<|Ux [[.int .i64 0,.int .i64 0],[.int .i64 6,.int .i64 0],[.int .i64 0,.int .i64 6],[.int .i64 2,.int .i64 2]] U12 fun ai _ _ E=>Uu ([.int .i64 0,.int .i64 1,.int .i64 3]) U8<|Uu ([.int .i64 1,.int .i64 2,.int .i64 3]) U8<|Uu ([.int .i64 2,.int .i64 0,.int .i64 3]) U8<|Ux [[.int .i64 0,.int .i64 1,.int .i64 3],[.int .i64 1,.int .i64 2,.int .i64 3],[.int .i64 2,.int .i64 0,.int .i64 3]] U12 fun aj _ _ F=>C4 2 [2,3] b Z<|Un (G.dropAll (UC U3 ?_));exact ⟨Z,by rw [show a % 8=7 by omega];exact ⟨_,_,Z,E.mono mup,F.mono mup⟩⟩
theorem Ew {n:Int}(a:-128<=n)(b:n<128):IntKind.i8.wrap n=n:=by
 simp [IntKind.wrap,IntKind.bits,IntKind.signed];omega
theorem K5:∀ m:Nat,∀ p∈shP m,0<=p.1/\p.1<=6/\0<=p.2/\p.2<=6
 | 0=>by decide
 | 1=>by decide
 | 2=>by decide
 | 3=>by decide
 | 4=>by decide
 | 5=>by decide
 | 6=>by decide
 | _+7=>by
  show ∀ p∈([(0,0),(6,0),(0,6),(2,2)]:List (Int × Int)),0<=p.1/\p.1<=6/\0<=p.2/\p.2<=6;decide
theorem Fa:∀ m:Nat,(shP m).length<=6
 | 0=>by decide
 | 1=>by decide
 | 2=>by decide
 | 3=>by decide
 | 4=>by decide
 | 5=>by decide
 | 6=>by decide
 | _+7=>by
  show ([(0,0),(6,0),(0,6),(2,2)]:List (Int × Int)).length<=6;decide
def cD (m:Nat)(a b:Int)(h:Bool):List Pt:=(shP m).map fun p=>dA a b h p.1 p.2 1
theorem lG (m:Nat)(a b:Int)(h:Bool):(cD m a b h).length<=6:=by rw [cD,aw];exact Fa m
theorem qm {z w:Int}(c:w≠0)(a:z.natAbs<1000000000)(b:w.natAbs<1000000000):QB 1 (kR z w):=by
 unfold kR;refine hU om_ ?_ ?_
 ·show _<B9 ^ 1;split
  ·rw [Tr];exact a
  exact a
 exact b
theorem Bc {a b:Int}{h:Bool}{x y n:Int}(i:0<n)(j:n<=4)(k:-128<=x/\x<=127)(l:-128<=y/\y<=127):QP 1 (dA a b h x y n):=by
 have c:=yd a;have d:=yd b;have g:dT h=1∨dT h=2:=by cases h <;> simp [dT]
 have f:∀ z:Int, -8<z->z<8->-32<z*n/\z*n<32:=fun z h1 h2=>by
  rcases (by omega:n=1∨n=2∨n=3∨n=4) with e | e | e | e <;> subst e <;> omega
 have m:=f _ c.1 c.2;have o:=f _ d.1 d.2;have p:0<dT h*n/\dT h*n<=8:=by rcases g with e | e <;> rw [e] <;> omega
 exact ⟨qm om_ om_ om_,qm om_ om_ om_⟩
theorem wP (C:Mem)(F:Tabs C)(d:Nat)(a b:Int)(h:Bool)(H:d<256):Pur cx.P 61 [K4 d a b h] C fun u D=>MeshIn D u (cD (d % 8) a b h) (shT (d % 8)):=by
 have I:=K5 (d % 8);have ad:=Fa (d % 8);refine Uk func61 42 U3 fun w0=>Uf fun R e=>Uw U6 fun J=>Uv U5 fun f=>Ug [1,2] e Z<|G.freeze 1 Z fun _ _ x=>Ub 1 Z fun R e=>Uc (bkT x 1) U8<|UM (CR _ d H) U7 (fun ae _ _ K=>?_);obtain ⟨pv,tv,rfl,g,q⟩:=K;obtain ⟨L,M,rfl,N,ag,_⟩:=id g;obtain ⟨k,l,rfl,ah,ai,_⟩:=id q;simp only [aw] at g q N ⊢;refine C4 5 [1,2,3,4] e Z<|Ub 1 Z fun R e=>Uu [.slice none 0 0,.slice k (shT (d % 8)).length l] U8<|Uv U5 fun n=>Um (j:=0) U12<|Ug [1,2,3,5] e Z<|Ua 1 [1,2,3,5,6] Z<|G.nilArr 58 2<|G.perm (L':=[.obj n (.cells ⟨[.slice none 0 0,.slice k (shT (d % 8)).length l]⟩ 36 (0,0)),.arr (.slice none 0 0) 58 2 0 [],.obj f (.cells ⟨[.slice none 0 0,.slice none 0 0]⟩ 36 (0,0))]) (List.Perm.swap _ _ _)<|G.loop (fun fr C' s O=>∃ (i:Nat)(w:Value),(i<=(shP (d % 8)).length)/\fr=[(1,[],.pointer (some ⟨J,0,none⟩)),(2,[],.pointer (some ⟨f,0,none⟩)),(3,[],.slice L (shP (d % 8)).length M),(5,[],.pointer (some ⟨n,0,none⟩)),(6,[],.int .i64 i)]/\s=[.obj n (.cells ⟨[w,.slice k (shT (d % 8)).length l]⟩ 36 (0,0)),.arr w 58 2 ((cD (d % 8) a b h).take i).length (((cD (d % 8) a b h).take i).map gp).flatten,.obj f (.cells ⟨[.slice none 0 0,.slice none 0 0]⟩ 36 (0,0))]/\O=(shP (d % 8)).length-i) (hn_ [1,2,3,5,6] Z) ⟨0,.slice none 0 0,Qn _,Z,Z,Z⟩ (fun fr aj al m _ Q=>?_);obtain ⟨i,w,hi,rfl,rfl,rfl⟩:=Q;refine Ua 4 [1,2,3,5,6,18] Z<|Ud (fun t=>?_) fun t=>?_
 ·have v:i<(shP (d % 8)).length:=by
   have:=aV t;omega
  obtain ⟨p,o⟩:∃ p,(shP (d % 8))[i]?=some p:=⟨(shP (d % 8))[i],ak v⟩;obtain ⟨am,an,ao,ap⟩:=I p (Qi o);have S:(cD (d % 8) a b h)[i]?=some (dA a b h p.1 p.2 1):=by unfold cD;rw [Ql,o];rfl
  have T:(cD (d % 8) a b h).take (i+1)=(cD (d % 8) a b h).take i++[dA a b h p.1 p.2 1]:=by rw [QJ,S];rfl
  have aq:((cD (d % 8) a b h).take i).length<=6:=by rw [Qz];have:=lG (d % 8) a b h;omega
  refine Uy [0,1,2,3,4,5,6,7,8,9,10,11,12,13,14,15,16,17,18,19,20] [(16,1),(8,0),(14,0)] Z kr_ fun R hB e=>Ue U6<|Uj af U9<|Uc (bkT x 4) U8<|Uh 2 Z<|Us g.m_ U10 om_ (bV o) fl_ fun ar U=>VK U9 (fun _=>U) (fun _=>⟨by omega,om_⟩) fl_ Z (fun au V=>?_);have W:=V trivial;refine Uc W U8<|Vi (c:=p.1) U8 (Ew om_ om_) U2<|Uh 2 Z<|Us g.m_ U10 om_ (bV o) fl_ fun av X=>VK U9 (fun _=>X) (fun _=>⟨by omega,om_⟩) fl_ Z (fun ay Y=>?_);have aa:=Y trivial;refine Uc aa U8<|Vi (c:=p.2) U8 (Ew om_ om_) U2<|Uu [.int .i8 p.1,.int .i8 p.2] U8<|Uz (fun _=>(Bd _ F.m_ d a b h p.1 p.2 1 dc_ dc_ ⟨by omega,by omega⟩ ⟨by omega,by omega⟩)) U9<|Ux [gp (dA a b h p.1 p.2 1)] U12 fun az _ _ ab=>UG (j:=1) U11 ab.m_ Z ax (by simp only [PH];omega) fl_ fun z A B=>Ue U6<|Um (j:=1) U12<|Ug [1,2,3,5,6] e Z<|Ub 1 Z fun R e=>Ul _ U7<|C4 1 [1,2,3,5,6] e Z<|Ut (L':=[.obj n (.cells ⟨[.slice z A B,.slice k (shT (d % 8)).length l]⟩ 36 (0,0)),.arr (.slice z A B) 58 2 ((cD (d % 8) a b h).take (i+1)).length (((cD (d % 8) a b h).take (i+1)).map gp).flatten,.obj f (.cells ⟨[.slice none 0 0,.slice none 0 0]⟩ 36 (0,0))]) (by rw [T,QX,Q8,Qp];rfl)<|Up (m':=(shP (d % 8)).length-(i+1)) om_ mup (hn_ [1,2,3,5,6] Z) ⟨i+1,_,om_,Z,Z,Z⟩
 have v:i=(shP (d % 8)).length:=by
  have:=Qm t;omega
 have ac:(cD (d % 8) a b h).take i=cD (d % 8) a b h:=Q0 (by rw [v,cD,aw];exact Qj _);rw [ac];refine G.freezeArr 1 ((cD (d % 8) a b h).map gp) rfl rfl (by intro r hr;obtain ⟨y,_,rfl⟩:=Qt.1 hr;rfl) (by rw [aw]) (fun Cg hg E=>?_);obtain ⟨Aw,cw,rfl,_⟩:=id E;refine Uf fun R e=>Uj af U9<|Um (j:=1) U12<|Ug [2] e Z<|Un (UU af U4 ?_);exact ⟨Z,_,_,Z,E,q.mono mup⟩
structure Hts where
 h0:Int
 h1:Int
 h2:Int
 h3:Int
 h4:Int
 h5:Int
 half:Bool
def H9 (H:Hts):List Int:=[H.h0,H.h1,H.h2,H.h3,H.h4,H.h5]
def O6 (H:Hts):List Value:=[.int .i8 H.h0,.int .i8 H.h1,.int .i8 H.h2,.int .i8 H.h3,.int .i8 H.h4,.int .i8 H.h5,.bool H.half]
def PG (H:Hts):Prop:=∀ z∈H9 H, -128<=z/\z<=127
def fsK (n:Nat)(H:Hts):List Rat:=(List.range n).map fun i=>kR (((H9 H).getD (i % 6) 0).tmod 20) (dT H.half)
theorem EO (a:Int):-20<a.tmod 20/\a.tmod 20<20:=by
 have h:(a.tmod 20).natAbs=a.natAbs % 20:=S5 a 20;omega
theorem uC (h:Bool):dT h=1∨dT h=2:=by cases h <;> simp [dT]
theorem uF (n:Nat)(H:Hts):(fsK n H).length=n:=by simp [fsK]
theorem G3 (n:Nat)(H:Hts):∀ q∈fsK n H,QB 1 q:=by
 intro q a;unfold fsK at a;obtain ⟨i,_,rfl⟩:=Qt.1 a;have h1:=EO ((H9 H).getD (i % 6) 0);have h2:=uC H.half;exact qm om_ om_ om_
theorem Nl (H:Hts)(j:Nat)(a:j<6):((O6 H).drop j).take 1=[.int .i8 ((H9 H).getD j 0)]:=by
 rcases (by omega:j=0∨j=1∨j=2∨j=3∨j=4∨j=5) with rfl | rfl | rfl | rfl | rfl | rfl <;> rfl
theorem jg (C:Mem)(B:Tabs C)(o E:Value)(n:Nat)(F:Option Addr)(I:Nat)(H:Hts)(J:o=.slice F n I)(S:n<=400)(K:PG H):Pur cx.P 62 [.agg ⟨[o,E]⟩,.agg ⟨O6 H⟩] C fun u D=>Sl D 1 u ((fsK n H).map fw):=by
 subst J;obtain ⟨h0,h1,h2,h3,h4,h5,a⟩:=H;have T:maxLen<=9223372036854775807:=by simp [maxLen]
 refine Uk func62 31 U3 fun w0=>Uf fun R b=>Uw U6 fun p=>Uw U6 fun q=>C4 1 [2,3] b Z<|G.freeze 1 Z fun _ _ L=>G.freeze 0 Z fun _ _ s=>Uf fun R b=>Vo [] U12 fl_ fun t=>C4 1 [2,3,5] b Z<|Ua 1 [2,3,5,6] Z<|Ub 1 Z fun R b=>Uc (bkT s 1) U8<|Ug [2,3,5,6,10] b Z<|G.cut (fun fr C' d e=>(True)/\fr=[(2,[],.pointer (some ⟨p,0,none⟩)),(3,[],.pointer (some ⟨q,0,none⟩)),(5,[],.slice (some ⟨t,0,none⟩) 0 0),(6,[],.int .i64 (dT a))]/\d=[.arr (.slice (some ⟨t,0,none⟩) 0 0) 56 1 0 []]) ?_ (fun fr _ U e _ f=>?_)
 ·refine Ud (fun g=>?_) fun g=>?_
  ·have h1:a=true:=g;subst h1;refine Ua 1 [2,3,5,6] Z<|Uq 0 (Mem.le.refl _) (hn_ [2,3,5,6] Z) ⟨trivial,Z,Z⟩
  have h1:a=false:=g;subst h1;refine Uq 0 (Mem.le.refl _) (hn_ [2,3,5,6] Z) ⟨trivial,Z,Z⟩
 obtain ⟨_,rfl,rfl⟩:=f;refine Ua 1 [2,3,5,6,7] Z<|G.loop (fun fr C' d e=>∃ (i:Nat)(w:Value),(i<=n)/\fr=[(2,[],.pointer (some ⟨p,0,none⟩)),(3,[],.pointer (some ⟨q,0,none⟩)),(5,[],w),(6,[],.int .i64 (dT a)),(7,[],.int .i64 i)]/\d=[.arr w 56 1 ((fsK n ⟨h0,h1,h2,h3,h4,h5,a⟩).take i).length (((fsK n ⟨h0,h1,h2,h3,h4,h5,a⟩).take i).map fw).flatten]/\e=n-i) (hn_ [2,3,5,6,7] Z) ⟨0,_,Qn _,Z,Z,Z⟩ (fun fr V W m _ f=>?_);obtain ⟨i,w,X,rfl,rfl,rfl⟩:=f;refine Ub 2 Z fun R b=>Uc (bkT L 1) U8<|C4 2 [2,3,5,6,7,15] b Z<|Ud (fun h=>?_) fun h=>?_
 ·have k:i<n:=by
   have:=aV h;omega
  have v:i % 6<6:=Q2 _ dc_;obtain ⟨z,l⟩:∃ z,(H9 ⟨h0,h1,h2,h3,h4,h5,a⟩).getD (i % 6) 0=z:=⟨_,rfl⟩;have x:=Nl ⟨h0,h1,h2,h3,h4,h5,a⟩ (i % 6) v;rw [l] at x;have M:z∈H9 ⟨h0,h1,h2,h3,h4,h5,a⟩:=by
   rw [<- l,al,ak (show i % 6<(H9 ⟨h0,h1,h2,h3,h4,h5,a⟩).length from v),Rx];exact Rf _
  have Y:=K z M;have aa:=EO z;have ab:=uC a;have N:(fsK n ⟨h0,h1,h2,h3,h4,h5,a⟩).take (i+1)=(fsK n ⟨h0,h1,h2,h3,h4,h5,a⟩).take i++[kR (z.tmod 20) (dT a)]:=by
   rw [QJ,show (fsK n ⟨h0,h1,h2,h3,h4,h5,a⟩)[i]?=some (kR (z.tmod 20) (dT a)) by unfold fsK;rw [Ql,QY k,<- l];rfl];rfl
  have ac:((fsK n ⟨h0,h1,h2,h3,h4,h5,a⟩).take i).length<=400:=by rw [Qz,uF];omega
  refine Ub 2 Z fun R b=>U1 (i) (6) U6 om_ U2<|Ue U6<|UA ((i % 6)) U9 (fun _=>⟨by omega,by omega,(by show i % 6=0+(i % 6)*1;omega)⟩) U2<|Vs (PtrTo.blockT (Mem.get s mup) (i % 6) 1) U6 (show cG _ (((O6 ⟨h0,h1,h2,h3,h4,h5,a⟩).drop (i % 6)).take 1)=some (.int .i8 z) from by rw [x];rfl) Z<|UQ (c:=z) U8 (wrap_i64 om_ om_) fl_<|Vh (z.tmod 20) U6 dc_ U3<|Ue U6<|Ur (OW _ B.m_ (z.tmod 20) (dT a) om_ om_ om_) U7 fl_<|Ux [fw (kR (z.tmod 20) (dT a))] U12 fun ad _ _ O=>D.append (j:=0) U11 O Z ax (by simp only [PH];omega) fl_ fun A=>C4 1 [2,3,5,6,7] b Z<|Ub 1 Z fun R b=>Ul _ U7<|C4 1 [2,3,5,6,7] b Z<|Ut (L':=[.arr A 56 1 ((fsK n ⟨h0,h1,h2,h3,h4,h5,a⟩).take (i+1)).length (((fsK n ⟨h0,h1,h2,h3,h4,h5,a⟩).take (i+1)).map fw).flatten]) (by rw [N,QX,Q8,Qp];rfl)<|Up (m':=n-(i+1)) om_ mup (hn_ [2,3,5,6,7] Z) ⟨i+1,A,om_,Z,Z,Z⟩
 have k:i=n:=by
  have:=Qm h;omega
 rw [show (fsK n ⟨h0,h1,h2,h3,h4,h5,a⟩).take i=fsK n ⟨h0,h1,h2,h3,h4,h5,a⟩ from Q0 (by rw [k,uF];exact Qj _)];exact Ua 2 [4] Z<|G.freezeArr 0 ((fsK n ⟨h0,h1,h2,h3,h4,h5,a⟩).map fw) rfl rfl (by intro r hr;obtain ⟨y,_,rfl⟩:=Qt.1 hr;rfl) (by rw [aw]) fun Cg hg Q=>Ui U2<|⟨Z,Q⟩
end Go.Proofs.YthnpijdjlddpmaaGreatDoor
