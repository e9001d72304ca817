/- Laws that the proofs of this seat share, part 10. -/
import Derived.Test.YthnpijdjlddpmaaGreatDoorG9
import Derived.Test.YthnpijdjlddpmaaGreatDoorShelf
set_option maxHeartbeats 4000000
namespace Go.Proofs.YthnpijdjlddpmaaGreatDoor
open Go.Proofs.Tryz
open Go Go.Jog
set_option maxRecDepth 100000
variable {B:Bk}{C:Mem}{RO:Nat->List RowQ}{err:Nat->Int}{fs:List Rat}{i k n:Nat}{o:Obs}{p:Pt}{r:RowQ}{t:Tri}{v:Value}{vs:List Value}{z:Rat}
theorem jX {l:List (Nat × Rat)}(q:Rat)(h:k ∉ l.map (·.1)):fQ (eJ l) ((k:Nat):Int) (ai (qtx q))=eJ (l++[(k,q)]):=by
 rw [jQ (by
  rw [cE];unfold eJ;rw [Rx];intro hm;obtain ⟨x,a,b⟩:=QM.1 hm;have:x.1=k:=by
   have h2:((x.1:Nat):Int)=(k:Int):=b;omega
  exact h (this ▸ S4 (f:=(·.1)) a))]
 simp [eJ]
theorem qS (a c:Pt):dG a a c=0/\dG c a a=0/\dG a c a=0:=by
 unfold dG;refine ⟨?_, ?_, ?_⟩ <;> grind
theorem tN {a:List Pt}{b:List Tri}(c:MeshOk a b)(d:t∈b):t.1≠t.2.1/\t.1≠t.2.2/\t.2.1≠t.2.2:=by
 have h:=jU c d;refine ⟨fun e=>h ?_,fun e=>h ?_,fun e=>h ?_⟩
 ·have:cor a t 1=cor a t 0:=by show a.getD t.2.1 _=a.getD t.1 _;rw [e]
  rw [this];exact (qS _ _).1
 ·have:cor a t 2=cor a t 0:=by show a.getD t.2.2 _=a.getD t.1 _;rw [e]
  rw [this];exact (qS _ _).2.2
 have:cor a t 2=cor a t 1:=by show a.getD t.2.2 _=a.getD t.2.1 _;rw [e]
 rw [this];exact (qS _ _).2.1
def atT (t:Tri)(f:Nat->Rat):List (Nat × Rat):=[(t.1,f 0),(t.2.1,f 1),(t.2.2,f 2)]
theorem qP (f:Nat->Rat)(h:t.1≠t.2.1/\t.1≠t.2.2/\t.2.1≠t.2.2):((atT t f).map (·.1)).Nodup:=by
 simp [atT,h.1,h.2.1,h.2.2]
theorem Ec (C:Mem)(w:Tabs C)(x:Value)(c:List Pt)(e:List Tri)(p:Pt)(i:Nat)(r:List Nat)(t:Tri)(y:MeshIn C x c e)(k:Good c e)(z:QP 23 p)(A:PtR p)(K:lO c e p=i::r)(g:e[i]?=some t)(L:∀ j,QB 22 (wgt c t p j)) :
  Pur cx.P 192 [x,ptV p] C fun u D=>∃ b,u=.tuple #[.map (some b),.int .i64 (i:Nat),.int .i64 0]/\D b=some (aO keyZ.enc (eJ (atT t (wgt c t p)))):=by
 have M:=k.ok;have n:=y;have ad:=(aE.1 g).1;obtain ⟨N,O,Q⟩:=tN M (PN g);obtain ⟨v1,v2,rfl,h1,h2⟩:=id y.ex;obtain ⟨A2,c2,rfl,S,ae,_⟩:=id h2;have af:maxLen<=9223372036854775807:=by simp [maxLen]
 simp only [ax] at h2 n S ⊢;refine Uv func192 54 U3 fun w0=>Ur fun R a=>UG U6 fun b2=>UG U6 fun b3=>C4 3 [2,3] a Z<|G.freeze 1 Z fun _ _ o=>G.freeze 0 Z fun _ _ B=>Ur fun R a=>Uo (bkT o 2) U8<|Uo (bkT B 2) U8<|UW (pP _ w.m_ _ c e p n.m_ k z A) U7 (fun ah _ _ T=>?_);obtain ⟨wv,rfl,f⟩:=T;rw [K] at f;obtain ⟨U,V,E,_⟩:=id f;rw [ax] at E;subst E;refine C4 5 [2,3,6,7] a Z<|Um 2 [2,3,6,7,18] Z<|Up (fun F=>?_) fun F=>?_
 ·exact absurd F dc_
 refine UK [0,1,2,3,4,5,6,7,8,9,10,11] [(5,1)] Z kr_ fun R H a=>Uo (bkT o 2) U8<|Uq U6<|UE f.m_ U10 om_ (rfl:(List.map aL (i::r))[0]?=some (aL i)) fl_ fun ai W=>Uo W U8<|Uo (bkT B 2) U8<|UV (fun _=>(Fj _ w.m_ _ c e p i t n.m_ k z A g L)) U9<|Us 3 Z<|UI U5 fun X=>Uy (j:=0) U12<|C4 1 [2,6,7,8] a Z<|Um 2 [2,6,7,8,30] Z<|Up (fun I=>?_) fun I=>?_
 ·exact absurd I dc_
 refine G.freeze 0 Z fun _ _ q=>Ur fun R a=>D.makeMap keyZ Z Z Z Z fl_ fun d=>C4 1 [2,4,7,8] a Z<|UK [0,1,2,3,4,5,6,7] [] Z kr_ fun R H a=>Uq U6<|Uo (bkT o 1) U8<|Uq U6<|UE f.m_ U10 om_ (rfl:(List.map aL (i::r))[0]?=some (aL i)) fl_ fun aj Y=>Uo Y U8<|UE h2.m_ U10 om_ (ce g) fl_ fun ak aa=>Uo aa U8<|C4 1 [4,7,8,39,40] a Z<|G.loop (fun fr C' h μ=>∃ (j:Nat),(j<=3)/\fr=[(4,[],.map (some d)),(7,[],.slice U (i::r).length V),(8,[],.pointer (some ⟨X,0,none⟩)),(39,[],.agg ⟨kH t⟩),(40,[],.int .i64 j)]/\h=[.obj d (aO keyZ.enc (eJ ((atT t (wgt c t p)).take j)))]/\μ=3-j) (hn_ [4,7,8,39,40] Z) ⟨0,QK _,Z,Z,Z⟩ (fun fr al an m s hI=>?_);obtain ⟨j,hj,rfl,rfl,rfl⟩:=hI;refine Um 1 [4,7,8,39,40,41] Z<|Up (fun v=>?_) fun v=>?_
 ·have J:j<3:=by
   simp only [QR] at v;omega
  rcases (by omega:j=0∨j=1∨j=2) with rfl | rfl | rfl
  ·refine Un 1 Z fun R a=>Vp U11 ag U2<|C4 2 [4,7,8,9,10,39,40] a Z<|Un 3 Z fun R a=>UN (_) U9 ag U2<|Uo (bkT q 1) U8<|D.mapUpdate keyZ (j:=0) Z Z Z Z Z Z Z Z Z Z kr_<|Ut [4,7,8,39,40] a Z<|Ur fun R a=>Ux _ U7<|C4 1 [4,7,8,39,40] a Z<|UF (L':=[.obj d (aO keyZ.enc (eJ ((atT t (wgt c t p)).take 1)))]) (congrArg (fun m=>[Ent.obj d (aO keyZ.enc m)]) (jX (l:=[]) _ am))<|UB (m':=2) om_ s (hn_ [4,7,8,39,40] Z) ⟨1,by decide,Z,Z,Z⟩
  ·refine Un 1 Z fun R a=>Vp U11 ag U2<|C4 2 [4,7,8,9,10,39,40] a Z<|Un 3 Z fun R a=>UN (_) U9 ag U2<|Uo (bkT q 1) U8<|D.mapUpdate keyZ (j:=0) Z Z Z Z Z Z Z Z Z Z kr_<|Ut [4,7,8,39,40] a Z<|Ur fun R a=>Ux _ U7<|C4 1 [4,7,8,39,40] a Z<|UF (L':=[.obj d (aO keyZ.enc (eJ ((atT t (wgt c t p)).take 2)))]) (congrArg (fun m=>[Ent.obj d (aO keyZ.enc m)]) (jX (l:=[(t.1,wgt c t p 0)]) _ (by simpa using N.symm)))<|UB (m':=1) om_ s (hn_ [4,7,8,39,40] Z) ⟨2,by decide,Z,Z,Z⟩
  refine Un 1 Z fun R a=>Vp U11 ag U2<|C4 2 [4,7,8,9,10,39,40] a Z<|Un 3 Z fun R a=>UN (_) U9 ag U2<|Uo (bkT q 1) U8<|D.mapUpdate keyZ (j:=0) Z Z Z Z Z Z Z Z Z Z kr_<|Ut [4,7,8,39,40] a Z<|Ur fun R a=>Ux _ U7<|C4 1 [4,7,8,39,40] a Z<|UF (L':=[.obj d (aO keyZ.enc (eJ ((atT t (wgt c t p)).take 3)))]) (congrArg (fun m=>[Ent.obj d (aO keyZ.enc m)]) (jX (l:=[(t.1,wgt c t p 0),(t.2.1,wgt c t p 1)]) _ (by simp [O.symm,Q.symm])))<|UB (m':=0) om_ s (hn_ [4,7,8,39,40] Z) ⟨3,by decide,Z,Z,Z⟩
 have J:j=3:=by
  simp only [Q2] at v;omega
 subst J;refine G.freeze 0 Z fun Cm ao ab=>UK [0,1,2,3,4,5,6] [] Z kr_ fun R H a=>Us 2 Z<|UE f.m_ U10 om_ (rfl:(List.map aL (i::r))[0]?=some (aL i)) fl_ fun ap ac=>Uo ac U8<|C4 3 [4,5,6] a Z<|UA (G.dropAll (Vm U4 ?_));exact ⟨Z,d,Z,ab⟩
theorem dh (t:Tri)(f:Nat->Rat)(j:Nat)(a:j<3)(h:t.1≠t.2.1/\t.1≠t.2.2/\t.2.1≠t.2.2):fQ (eJ ((atT t f).take j)) ((mC t j:Nat):Int) (ai (qtx (f j)))=eJ ((atT t f).take (j+1)):=by
 rcases (by omega:j=0∨j=1∨j=2) with rfl | rfl | rfl
 ·exact jX (l:=[]) _ am
 ·exact jX (l:=[(t.1,f 0)]) (k:=t.2.1) _ (by simpa using h.1.symm)
 exact jX (l:=[(t.1,f 0),(t.2.1,f 1)]) (k:=t.2.2) _ (by simp [h.2.1.symm,h.2.2.symm])
def nH (n k:Nat):List Rat:=rU n [(k,1)]
def slf (pts:List Pt)(t:Tri)(j:Nat):Pt:=dP pts (nH pts.length (mC t j)) t
theorem gt (n k:Nat):(nH n k).length=n:=jK n _
theorem AC :∀ q∈nH n k,q=0∨q=1:=by
 intro q a;unfold nH rU at a;obtain ⟨j,_,rfl⟩:=QM.1 a;simp only [dm];split
 ·exact .inr Z
 exact .inl Z
theorem jE :∀ q∈nH n k,QB 1 q:=by
 intro q a;rcases AC q a with rfl | rfl
 ·exact QB_zero
 exact QB_one
theorem D7 (C:Mem)(J:Tabs C)(N:Value)(a:List Pt)(s:List Tri)(i:Nat)(t:Tri)(O:MeshIn C N a s)(E:Good a s)(l:s[i]?=some t)(K:∀ j,QP 22 (slf a t j)) :
  Pur cx.P 198 [N,.int .i64 i] C fun u D=>∃ Q S,u=.tuple #[.map (some Q),.map (some S),.int .i64 0]/\D Q=some (aO keyZ.enc (eJ (atT t fun j=>(slf a t j).1)))/\D S=some (aO keyZ.enc (eJ (atT t fun j=>(slf a t j).2))):=by
 have L:=E.ok;have F:=O;have al:=L.lp;have H:=L.ins t (PN l);obtain ⟨am,an,ao⟩:=id H;have ap:=(aE.1 l).1;obtain ⟨f,g,h⟩:=tN L (PN l);obtain ⟨v1,v2,rfl,h1,h2⟩:=id O.ex;obtain ⟨A1,c1,rfl,aq,ar,_⟩:=id h1;obtain ⟨A2,c2,rfl,af,au,_⟩:=id h2;have av:maxLen<=9223372036854775807:=by simp [maxLen]
 simp only [ax] at h1 h2 F af ⊢;refine Uv func198 51 U3 fun w0=>Ur fun R b=>UG U6 fun I=>C4 3 [1,2] b Z<|G.freeze 0 Z fun _ _ n=>Ur fun R b=>D.makeMap keyZ Z Z Z Z fl_ fun c=>D.makeMap keyZ Z Z Z Z fl_ fun d=>C4 2 [1,2,4,5] b Z<|Un 1 Z fun R b=>Uo (bkT n 1) U8<|Uq U6<|UE h2.m_ U10 om_ (ce l) fl_ fun aw ah=>Uo ah U8<|C4 1 [1,2,4,5,18,19] b Z<|G.perm (L':=[.obj c (aO keyZ.enc (eJ [])),.obj d (aO keyZ.enc (eJ []))]) (List.Perm.swap _ _ _)<|G.loop (fun fr C' e o=>∃ (j:Nat),(j<=3)/\fr=[(1,[],.int .i64 i),(2,[],.pointer (some ⟨I,0,none⟩)),(4,[],.map (some c)),(5,[],.map (some d)),(18,[],.agg ⟨kH t⟩),(19,[],.int .i64 j)]/\e=[.obj c (aO keyZ.enc (eJ ((atT t fun j=>(slf a t j).1).take j))),.obj d (aO keyZ.enc (eJ ((atT t fun j=>(slf a t j).2).take j)))]/\o=3-j) (hn_ [1,2,4,5,18,19] Z) ⟨0,QK _,Z,Z,Z⟩ (fun fr ay az m _ p=>?_);obtain ⟨j,hj,rfl,rfl,rfl⟩:=p;refine Um 1 [1,2,4,5,18,19,20] Z<|Up (fun M=>?_) fun M=>?_
 ·have T:j<3:=by
   simp only [QR] at M;omega
  rcases (by omega:j=0∨j=1∨j=2) with rfl | rfl | rfl
  ·refine Ur fun R b=>Vp U11 ag U2<|C4 1 [1,2,4,5,8,18,19] b Z<|UO [(4,3)] Z fun R b=>UJ [[ai [48]]] U12 fun U V _ v=>Uq U6<|Uo (bkT n 1) U8<|Uq U6<|D.call (mM _ _ a.length [48] v.m_ om_) Z (.inr dc_) U6 (QL _) fl_ fun W X Y _ w=>C4 1 [1,2,4,5,8,9,18,19] b Z ?_;obtain ⟨bz,rfl,rfl⟩:=w;have x:mC t 0<a.length:=eT H 0;refine UF (L':=[.arr (.slice (some ⟨bz,0,none⟩) a.length a.length) 56 1 a.length (lf a.length []),.obj c (aO keyZ.enc (eJ ((atT t fun j=>(slf a t j).1).take 0))),.obj d (aO keyZ.enc (eJ ((atT t fun j=>(slf a t j).2).take 0)))]) (by rw [lX];rfl)<|Un 2 Z fun R b=>UT ((mC t 0)) U10 (fun _=>⟨by omega,by omega,(SL _).symm⟩) U2<|UX (j:=0) U11 (by rw [lY];simp;omega)<|Ut [1,2,4,5,8,9,18,19] b Z<|UF (L':=[.arr (.slice (some ⟨bz,0,none⟩) a.length a.length) 56 1 a.length (lf a.length [(mC t 0,1)]),.obj c (aO keyZ.enc (eJ ((atT t fun j=>(slf a t j).1).take 0))),.obj d (aO keyZ.enc (eJ ((atT t fun j=>(slf a t j).2).take 0)))]) (by rw [<- fu [] 1 x,dA];rfl)<|G.freezeArr 0 ((nH a.length (mC t 0)).map fa) rfl (ju _ _) (by intro r hr;obtain ⟨y,_,rfl⟩:=QM.1 hr;rfl) (by rw [ax,gt]) fun Cz hz z=>Ur fun R b=>Uo (bkT n 2) U8<|Us 2 Z<|UC (tQ _ J.m_ _ _ a s (nH a.length (mC t 0)) 1 dc_ dc_ F.m_ E z.m_ (gt _ _) jE (fun q A=>bP ((jE q A).le dc_)) i t l (K 0)) U7 fl_<|Us 3 Z<|UI U5 fun aa=>Uy (j:=0) U12<|C4 1 [1,2,4,5,8,10,11,18,19] b Z<|Um 2 [1,2,4,5,8,10,11,18,19,38] Z<|Up (fun ab=>?_) fun ab=>?_
   ·exact absurd ab dc_
   refine G.freeze 0 Z fun ac _ k=>G.cut (fun fr C' e o=>(True)/\fr=[(1,[],.int .i64 i),(2,[],.pointer (some ⟨I,0,none⟩)),(4,[],.map (some c)),(5,[],.map (some d)),(18,[],.agg ⟨kH t⟩),(19,[],.int .i64 ((0:Nat):Int))]/\e=[.obj c (aO keyZ.enc (eJ ((atT t fun j=>(slf a t j).1).take (0+1)))),.obj d (aO keyZ.enc (eJ ((atT t fun j=>(slf a t j).2).take (0+1))))]) ?_ (fun fr aA aB o aC p=>?_)
   ·refine Vh (.cut [0,1,2,3,4,5,6] (.alt 7 (.fin [8,9]) (.alt 8 (.fin [7,9]) .stop))) [] Z Z kr_ fun R hB b B=>Us 5 Z<|Uo (bkT k 1) U8<|Uq U6<|UZ B Z ⟨?_, ?_,trivial⟩
    ·refine Uo (bkT k 1) U8 ?_
     first | refine D.mapUpdate keyZ (j:=0) rfl rfl rfl rfl rfl rfl rfl rfl rfl rfl kr_ ?_ | refine D.mapUpdate keyZ (j:=1) rfl rfl rfl rfl rfl rfl rfl rfl rfl rfl kr_ ?_
     first | refine D.mapUpdate keyZ (j:=1) rfl rfl rfl rfl rfl rfl rfl rfl rfl rfl kr_ ?_ | refine D.mapUpdate keyZ (j:=0) rfl rfl rfl rfl rfl rfl rfl rfl rfl rfl kr_ ?_
     refine Ut [1,2,4,5,18,19] b Z<|G.perm (L':=[.obj c (aO keyZ.enc (eJ ((atT t fun j=>(slf a t j).1).take (0+1)))),.obj d (aO keyZ.enc (eJ ((atT t fun j=>(slf a t j).2).take (0+1))))]) (by
      rw [<- dh t (fun j=>(slf a t j).1) 0 dc_ ⟨f,g,h⟩,<- dh t (fun j=>(slf a t j).2) 0 dc_ ⟨f,g,h⟩]
      first | exact QL _ | exact List.Perm.swap _ _ _) ?_
     exact UD 0 (Mem.le.refl _) (hn_ [1,2,4,5,18,19] Z) ⟨trivial,Z,Z⟩
    first | refine D.mapUpdate keyZ (j:=0) rfl rfl rfl rfl rfl rfl rfl rfl rfl rfl kr_ ?_ | refine D.mapUpdate keyZ (j:=1) rfl rfl rfl rfl rfl rfl rfl rfl rfl rfl kr_ ?_
    refine Uo (bkT k 1) U8 ?_
    first | refine D.mapUpdate keyZ (j:=1) rfl rfl rfl rfl rfl rfl rfl rfl rfl rfl kr_ ?_ | refine D.mapUpdate keyZ (j:=0) rfl rfl rfl rfl rfl rfl rfl rfl rfl rfl kr_ ?_
    refine Ut [1,2,4,5,18,19] b Z<|G.perm (L':=[.obj c (aO keyZ.enc (eJ ((atT t fun j=>(slf a t j).1).take (0+1)))),.obj d (aO keyZ.enc (eJ ((atT t fun j=>(slf a t j).2).take (0+1))))]) (by
     rw [<- dh t (fun j=>(slf a t j).1) 0 dc_ ⟨f,g,h⟩,<- dh t (fun j=>(slf a t j).2) 0 dc_ ⟨f,g,h⟩]
     first | exact QL _ | exact List.Perm.swap _ _ _) ?_
    exact UD 0 (Mem.le.refl _) (hn_ [1,2,4,5,18,19] Z) ⟨trivial,Z,Z⟩
   obtain ⟨_,rfl,rfl⟩:=p;refine Ur fun R b=>Ux _ U7<|C4 1 [1,2,4,5,18,19] b Z<|UB (m':=2) om_ mup (hn_ [1,2,4,5,18,19] Z) ⟨1,by decide,Z,Z,Z⟩
  ·refine Ur fun R b=>Vp U11 ag U2<|C4 1 [1,2,4,5,8,18,19] b Z<|UO [(4,3)] Z fun R b=>UJ [[ai [48]]] U12 fun U V _ v=>Uq U6<|Uo (bkT n 1) U8<|Uq U6<|D.call (mM _ _ a.length [48] v.m_ om_) Z (.inr dc_) U6 (QL _) fl_ fun W X Y _ w=>C4 1 [1,2,4,5,8,9,18,19] b Z ?_;obtain ⟨bz,rfl,rfl⟩:=w;have x:mC t 1<a.length:=eT H 1;refine UF (L':=[.arr (.slice (some ⟨bz,0,none⟩) a.length a.length) 56 1 a.length (lf a.length []),.obj c (aO keyZ.enc (eJ ((atT t fun j=>(slf a t j).1).take 1))),.obj d (aO keyZ.enc (eJ ((atT t fun j=>(slf a t j).2).take 1)))]) (by rw [lX];rfl)<|Un 2 Z fun R b=>UT ((mC t 1)) U10 (fun _=>⟨by omega,by omega,(SL _).symm⟩) U2<|UX (j:=0) U11 (by rw [lY];simp;omega)<|Ut [1,2,4,5,8,9,18,19] b Z<|UF (L':=[.arr (.slice (some ⟨bz,0,none⟩) a.length a.length) 56 1 a.length (lf a.length [(mC t 1,1)]),.obj c (aO keyZ.enc (eJ ((atT t fun j=>(slf a t j).1).take 1))),.obj d (aO keyZ.enc (eJ ((atT t fun j=>(slf a t j).2).take 1)))]) (by rw [<- fu [] 1 x,dA];rfl)<|G.freezeArr 0 ((nH a.length (mC t 1)).map fa) rfl (ju _ _) (by intro r hr;obtain ⟨y,_,rfl⟩:=QM.1 hr;rfl) (by rw [ax,gt]) fun Cz hz z=>Ur fun R b=>Uo (bkT n 2) U8<|Us 2 Z<|UC (tQ _ J.m_ _ _ a s (nH a.length (mC t 1)) 1 dc_ dc_ F.m_ E z.m_ (gt _ _) jE (fun q A=>bP ((jE q A).le dc_)) i t l (K 1)) U7 fl_<|Us 3 Z<|UI U5 fun aa=>Uy (j:=0) U12<|C4 1 [1,2,4,5,8,10,11,18,19] b Z<|Um 2 [1,2,4,5,8,10,11,18,19,38] Z<|Up (fun ad=>?_) fun ad=>?_
   ·exact absurd ad dc_
   refine G.freeze 0 Z fun ac _ k=>G.cut (fun fr C' e o=>(True)/\fr=[(1,[],.int .i64 i),(2,[],.pointer (some ⟨I,0,none⟩)),(4,[],.map (some c)),(5,[],.map (some d)),(18,[],.agg ⟨kH t⟩),(19,[],.int .i64 ((1:Nat):Int))]/\e=[.obj c (aO keyZ.enc (eJ ((atT t fun j=>(slf a t j).1).take (1+1)))),.obj d (aO keyZ.enc (eJ ((atT t fun j=>(slf a t j).2).take (1+1))))]) ?_ (fun fr aD aF o aG p=>?_)
   ·refine Vh (.cut [0,1,2,3,4,5,6] (.alt 7 (.fin [8,9]) (.alt 8 (.fin [7,9]) .stop))) [] Z Z kr_ fun R hB b B=>Us 5 Z<|Uo (bkT k 1) U8<|Uq U6<|UZ B Z ⟨?_, ?_,trivial⟩
    ·refine Uo (bkT k 1) U8 ?_
     first | refine D.mapUpdate keyZ (j:=0) rfl rfl rfl rfl rfl rfl rfl rfl rfl rfl kr_ ?_ | refine D.mapUpdate keyZ (j:=1) rfl rfl rfl rfl rfl rfl rfl rfl rfl rfl kr_ ?_
     first | refine D.mapUpdate keyZ (j:=1) rfl rfl rfl rfl rfl rfl rfl rfl rfl rfl kr_ ?_ | refine D.mapUpdate keyZ (j:=0) rfl rfl rfl rfl rfl rfl rfl rfl rfl rfl kr_ ?_
     refine Ut [1,2,4,5,18,19] b Z<|G.perm (L':=[.obj c (aO keyZ.enc (eJ ((atT t fun j=>(slf a t j).1).take (1+1)))),.obj d (aO keyZ.enc (eJ ((atT t fun j=>(slf a t j).2).take (1+1))))]) (by
      rw [<- dh t (fun j=>(slf a t j).1) 1 dc_ ⟨f,g,h⟩,<- dh t (fun j=>(slf a t j).2) 1 dc_ ⟨f,g,h⟩]
      first | exact QL _ | exact List.Perm.swap _ _ _) ?_
     exact UD 0 (Mem.le.refl _) (hn_ [1,2,4,5,18,19] Z) ⟨trivial,Z,Z⟩
    first | refine D.mapUpdate keyZ (j:=0) rfl rfl rfl rfl rfl rfl rfl rfl rfl rfl kr_ ?_ | refine D.mapUpdate keyZ (j:=1) rfl rfl rfl rfl rfl rfl rfl rfl rfl rfl kr_ ?_
    refine Uo (bkT k 1) U8 ?_
    first | refine D.mapUpdate keyZ (j:=1) rfl rfl rfl rfl rfl rfl rfl rfl rfl rfl kr_ ?_ | refine D.mapUpdate keyZ (j:=0) rfl rfl rfl rfl rfl rfl rfl rfl rfl rfl kr_ ?_
    refine Ut [1,2,4,5,18,19] b Z<|G.perm (L':=[.obj c (aO keyZ.enc (eJ ((atT t fun j=>(slf a t j).1).take (1+1)))),.obj d (aO keyZ.enc (eJ ((atT t fun j=>(slf a t j).2).take (1+1))))]) (by
     rw [<- dh t (fun j=>(slf a t j).1) 1 dc_ ⟨f,g,h⟩,<- dh t (fun j=>(slf a t j).2) 1 dc_ ⟨f,g,h⟩]
     first | exact QL _ | exact List.Perm.swap _ _ _) ?_
    exact UD 0 (Mem.le.refl _) (hn_ [1,2,4,5,18,19] Z) ⟨trivial,Z,Z⟩
   obtain ⟨_,rfl,rfl⟩:=p;refine Ur fun R b=>Ux _ U7<|C4 1 [1,2,4,5,18,19] b Z<|UB (m':=1) om_ mup (hn_ [1,2,4,5,18,19] Z) ⟨2,by decide,Z,Z,Z⟩
  refine Ur fun R b=>Vp U11 ag U2<|C4 1 [1,2,4,5,8,18,19] b Z<|UO [(4,3)] Z fun R b=>UJ [[ai [48]]] U12 fun U V _ v=>Uq U6<|Uo (bkT n 1) U8<|Uq U6<|D.call (mM _ _ a.length [48] v.m_ om_) Z (.inr dc_) U6 (QL _) fl_ fun W X Y _ w=>C4 1 [1,2,4,5,8,9,18,19] b Z ?_;obtain ⟨bz,rfl,rfl⟩:=w;have x:mC t 2<a.length:=eT H 2;refine UF (L':=[.arr (.slice (some ⟨bz,0,none⟩) a.length a.length) 56 1 a.length (lf a.length []),.obj c (aO keyZ.enc (eJ ((atT t fun j=>(slf a t j).1).take 2))),.obj d (aO keyZ.enc (eJ ((atT t fun j=>(slf a t j).2).take 2)))]) (by rw [lX];rfl)<|Un 2 Z fun R b=>UT ((mC t 2)) U10 (fun _=>⟨by omega,by omega,(SL _).symm⟩) U2<|UX (j:=0) U11 (by rw [lY];simp;omega)<|Ut [1,2,4,5,8,9,18,19] b Z<|UF (L':=[.arr (.slice (some ⟨bz,0,none⟩) a.length a.length) 56 1 a.length (lf a.length [(mC t 2,1)]),.obj c (aO keyZ.enc (eJ ((atT t fun j=>(slf a t j).1).take 2))),.obj d (aO keyZ.enc (eJ ((atT t fun j=>(slf a t j).2).take 2)))]) (by rw [<- fu [] 1 x,dA];rfl)<|G.freezeArr 0 ((nH a.length (mC t 2)).map fa) rfl (ju _ _) (by intro r hr;obtain ⟨y,_,rfl⟩:=QM.1 hr;rfl) (by rw [ax,gt]) fun Cz hz z=>Ur fun R b=>Uo (bkT n 2) U8<|Us 2 Z<|UC (tQ _ J.m_ _ _ a s (nH a.length (mC t 2)) 1 dc_ dc_ F.m_ E z.m_ (gt _ _) jE (fun q A=>bP ((jE q A).le dc_)) i t l (K 2)) U7 fl_<|Us 3 Z<|UI U5 fun aa=>Uy (j:=0) U12<|C4 1 [1,2,4,5,8,10,11,18,19] b Z<|Um 2 [1,2,4,5,8,10,11,18,19,38] Z<|Up (fun ae=>?_) fun ae=>?_
  ·exact absurd ae dc_
  refine G.freeze 0 Z fun ac _ k=>G.cut (fun fr C' e o=>(True)/\fr=[(1,[],.int .i64 i),(2,[],.pointer (some ⟨I,0,none⟩)),(4,[],.map (some c)),(5,[],.map (some d)),(18,[],.agg ⟨kH t⟩),(19,[],.int .i64 ((2:Nat):Int))]/\e=[.obj c (aO keyZ.enc (eJ ((atT t fun j=>(slf a t j).1).take (2+1)))),.obj d (aO keyZ.enc (eJ ((atT t fun j=>(slf a t j).2).take (2+1))))]) ?_ (fun fr aH aI o aJ p=>?_)
  ·refine Vh (.cut [0,1,2,3,4,5,6] (.alt 7 (.fin [8,9]) (.alt 8 (.fin [7,9]) .stop))) [] Z Z kr_ fun R hB b B=>Us 5 Z<|Uo (bkT k 1) U8<|Uq U6<|UZ B Z ⟨?_, ?_,trivial⟩
   ·refine Uo (bkT k 1) U8 ?_
    first | refine D.mapUpdate keyZ (j:=0) rfl rfl rfl rfl rfl rfl rfl rfl rfl rfl kr_ ?_ | refine D.mapUpdate keyZ (j:=1) rfl rfl rfl rfl rfl rfl rfl rfl rfl rfl kr_ ?_
    first | refine D.mapUpdate keyZ (j:=1) rfl rfl rfl rfl rfl rfl rfl rfl rfl rfl kr_ ?_ | refine D.mapUpdate keyZ (j:=0) rfl rfl rfl rfl rfl rfl rfl rfl rfl rfl kr_ ?_
    refine Ut [1,2,4,5,18,19] b Z<|G.perm (L':=[.obj c (aO keyZ.enc (eJ ((atT t fun j=>(slf a t j).1).take (2+1)))),.obj d (aO keyZ.enc (eJ ((atT t fun j=>(slf a t j).2).take (2+1))))]) (by
     rw [<- dh t (fun j=>(slf a t j).1) 2 dc_ ⟨f,g,h⟩,<- dh t (fun j=>(slf a t j).2) 2 dc_ ⟨f,g,h⟩]
     first | exact QL _ | exact List.Perm.swap _ _ _) ?_
    exact UD 0 (Mem.le.refl _) (hn_ [1,2,4,5,18,19] Z) ⟨trivial,Z,Z⟩
   first | refine D.mapUpdate keyZ (j:=0) rfl rfl rfl rfl rfl rfl rfl rfl rfl rfl kr_ ?_ | refine D.mapUpdate keyZ (j:=1) rfl rfl rfl rfl rfl rfl rfl rfl rfl rfl kr_ ?_
   refine Uo (bkT k 1) U8 ?_
   first | refine D.mapUpdate keyZ (j:=1) rfl rfl rfl rfl rfl rfl rfl rfl rfl rfl kr_ ?_ | refine D.mapUpdate keyZ (j:=0) rfl rfl rfl rfl rfl rfl rfl rfl rfl rfl kr_ ?_
   refine Ut [1,2,4,5,18,19] b Z<|G.perm (L':=[.obj c (aO keyZ.enc (eJ ((atT t fun j=>(slf a t j).1).take (2+1)))),.obj d (aO keyZ.enc (eJ ((atT t fun j=>(slf a t j).2).take (2+1))))]) (by
    rw [<- dh t (fun j=>(slf a t j).1) 2 dc_ ⟨f,g,h⟩,<- dh t (fun j=>(slf a t j).2) 2 dc_ ⟨f,g,h⟩]
    first | exact QL _ | exact List.Perm.swap _ _ _) ?_
   exact UD 0 (Mem.le.refl _) (hn_ [1,2,4,5,18,19] Z) ⟨trivial,Z,Z⟩
  obtain ⟨_,rfl,rfl⟩:=p;refine Ur fun R b=>Ux _ U7<|C4 1 [1,2,4,5,18,19] b Z<|UB (m':=0) om_ mup (hn_ [1,2,4,5,18,19] Z) ⟨3,by decide,Z,Z,Z⟩
 have T:j=3:=by
  simp only [Q2] at M;omega
 subst T;refine G.freeze 0 Z fun Cm aK aj=>G.freeze 0 Z fun Cn aL ak=>Um 5 [4,5,6] Z<|UA (G.dropAll (Vm U4 ?_));exact ⟨Z,c,d,Z,Mem.get aj mup,ak⟩
theorem qJ (C:Mem)(v:Value)(l:List Rat)(b:Sl C 1 v (l.map fa))(t:l.length<=1000000):Jog.Fn cx.P 173 [v] C [] fun u _w e=>∃ A n c,u=.slice A n c/\e=[.arr (.slice A n c) 56 1 l.length (l.map fa).flatten]:=by
 obtain ⟨f,c0,rfl,m,x,y,o⟩:=id b;have z:maxLen<=9223372036854775807:=by simp [maxLen]
 simp only [ax] at b m ⊢;refine Uv func173 8 U3 fun w0=>Um 1 [0] Z<|Un 1 Z fun R d=>V0 U9<|Ut [0,4] d Z<|Up (fun h4=>?_) fun h4=>?_
 ·have p:f=none:=by
   cases f with
   | none=>rfl
   | some a=>cases h4
  have s:l=[]:=by
   cases l with
   | nil=>rfl
   | cons q r =>
    obtain ⟨a,g,_⟩:=o 0 (fa q) rfl;rw [p] at g;cases g
  refine Um 1 [2] Z<|G.nilArr 56 1<|UA (U0 Z Z ?_);exact ⟨none,0,0,Z,by rw [s];rfl⟩
 refine Ur fun R d=>Vz [] U12 fl_ fun B=>Uq U6<|UR (j:=0) U11 b.m_ (by simp [fa,nK,ai]) (by simp only [ax,Rp,maxLen];omega) (by simp only [ax,Rp];omega) fl_ fun h i k=>C4 1 [2] d Z<|UF (L':=[.arr (.slice h i k) 56 1 l.length (l.map fa).flatten]) am<|UA (U0 Z Z ?_);exact ⟨h,i,k,Z,Z⟩
def Oh (r:RowQ):Prop:=(∀ q∈r.f,QB 22 q)/\QB 22 r.b
theorem kL {a:List RowQ}{w:Value}(c:vs[i]?=some w)(d:a[i]?=some r):(aR vs a)[i]?=some [w,ai (qtx r.b)]:=by
 unfold aR;rw [List.getElem?_zipWith,c,d]
theorem Ee (C:Mem)(hT:Tabs C)(v:Value)(a:List RowQ)(hv:RowsIn C v a)(e:∀ r∈a,Oh r)(ac:∀ r∈a,r.f.length<=1000)(an:a.length<=100000) :
  Gives cx.P 200 [v] C (.tuple #[v,.int .i64 0]):=by
 obtain ⟨vs,z,A⟩:=hv;obtain ⟨l,c0,rfl,ad,ao,_⟩:=id A;have ap:maxLen<=9223372036854775807:=by simp [maxLen]
 simp only [dx z.1] at A ad ⊢;refine Uv func200 32 U3 fun w0=>Um 2 [0] Z<|Um 3 [0,8,9,10] Z<|G.loop (fun fr C' n o=>∃ (i:Nat),(i<=a.length)/\fr=[(0,[],.slice l a.length c0),(8,[],.slice l a.length c0),(9,[],.int .i64 a.length),(10,[],.int .i64 i)]/\n=[]/\o=a.length-i) (hn_ [0,8,9,10] Z) ⟨0,QK _,Z,Z,Z⟩ (fun fr aq ar m _ p=>?_);obtain ⟨i,hi,rfl,rfl,rfl⟩:=p;refine Um 1 [0,8,9,10,11] Z<|Up (fun H=>?_) fun H=>?_
 ·have I:i<a.length:=by simpa using H
  obtain ⟨r,B⟩:∃ r,a[i]?=some r:=⟨a[i],aj I⟩;obtain ⟨w,J⟩:∃ w,vs[i]?=some w:=⟨vs[i]'(by rw [z.1];exact I),aj _⟩;have K:=PN B;obtain ⟨ae,af⟩:=e r K;have au:=ac r K;have av:(r.f++[r.b]).length<=1001:=by simp;omega
  have x:=z.2 i w r J B;obtain ⟨Aw,cw,rfl,_⟩:=id x;refine Ur fun R c=>UE A.m_ U10 om_ (kL J B) fl_ fun ay ag=>Uo ag U8<|UI U5 fun b5=>Uy (j:=0) U12<|Ut [0,5,8,9,10] c Z<|G.freeze 0 Z fun _ _ E=>G.cut (fun fr C' n o=>∃ (g:Option Addr)(k:Nat),(Sl C' 1 (.slice g (r.f++[r.b]).length k) ((r.f++[r.b]).map fa))/\fr=[(0,[],.slice l a.length c0),(8,[],.slice l a.length c0),(9,[],.int .i64 a.length),(10,[],.int .i64 i),(20,[],.slice g (r.f++[r.b]).length k),(21,[],.int .i64 (r.f++[r.b]).length),(22,[],.int .i64 0)]/\n=[]) ?_ (fun fr az aA o aB p=>?_)
  ·refine Vh (.cut [0,1,3,8] (.alt 2 (.fin [4,5,6,7]) (.alt 4 (.cut [] (.alt 2 (.fin [5,6,7]) (.alt 5 (.fin [2,6,7]) .stop))) .stop))) [(2,3)] Z Z kr_ fun R hB c L=>Uq U6<|Uo (bkT E 1) U8<|Us 2 Z<|UZ L Z ⟨?_, ?_,trivial⟩
   ·refine D.call (qJ _ _ r.f x.m_ om_) Z (.inr dc_) U6 (QL _) fl_ fun M N O _ s=>Uo (bkT E 1) U8<|UJ [fa r.b] U12 (fun Q S _ t=>?_);obtain ⟨T,U,cc,rfl,rfl⟩:=s;refine UR (j:=0) U11 t.m_ (by simp [fa,nK,ai]) aw (by simp only [aU];omega) fl_ fun g V k=>C4 1 [0,8,9,10,20,21,22] c Z<|G.freezeArr 0 ((r.f++[r.b]).map fa) rfl am (by intro r e;obtain ⟨y,_,rfl⟩:=QM.1 e;rfl) am (fun W X d=>?_);obtain ⟨Y,cz,u,_⟩:=id d;cases u
    simp only [ax] at d ⊢;exact G.dropAll<|UD 0 mup (hn_ [0,8,9,10,20,21,22] Z) ⟨_,_,d,Z,Z⟩
   refine Uo (bkT E 1) U8<|UZ L Z ⟨?_, ?_,trivial⟩
   ·refine D.call (qJ _ _ r.f x.m_ om_) Z (.inr dc_) U6 (QL _) fl_ fun M N O _ s=>UJ [fa r.b] U12 (fun Q S _ t=>?_);obtain ⟨T,U,cc,rfl,rfl⟩:=s;refine UR (j:=0) U11 t.m_ (by simp [fa,nK,ai]) aw (by simp only [aU];omega) fl_ fun g V k=>C4 1 [0,8,9,10,20,21,22] c Z<|G.freezeArr 0 ((r.f++[r.b]).map fa) rfl am (by intro r e;obtain ⟨y,_,rfl⟩:=QM.1 e;rfl) am (fun W X d=>?_);obtain ⟨Y,cz,u,_⟩:=id d;cases u
    simp only [ax] at d ⊢;exact G.dropAll<|UD 0 mup (hn_ [0,8,9,10,20,21,22] Z) ⟨_,_,d,Z,Z⟩
   refine UJ [fa r.b] U12 fun Q S _ t=>D.call (qJ _ _ r.f x.m_ om_) Z (.inr dc_) U6 (QL _) fl_ (fun M N O _ s=>?_);obtain ⟨T,U,cc,rfl,rfl⟩:=s;refine UR (j:=0) U11 t.m_ (by simp [fa,nK,ai]) aw (by simp only [aU];omega) fl_ fun g V k=>C4 1 [0,8,9,10,20,21,22] c Z<|G.freezeArr 0 ((r.f++[r.b]).map fa) rfl am (by intro r e;obtain ⟨y,_,rfl⟩:=QM.1 e;rfl) am (fun W X d=>?_);obtain ⟨Y,cz,u,_⟩:=id d;cases u
   simp only [ax] at d ⊢;exact G.dropAll<|UD 0 mup (hn_ [0,8,9,10,20,21,22] Z) ⟨_,_,d,Z,Z⟩
  obtain ⟨g,k,ah,rfl,rfl⟩:=p;refine G.loop (fun fr C' n o=>∃ (j:Nat),(j<=(r.f++[r.b]).length)/\fr=[(0,[],.slice l a.length c0),(8,[],.slice l a.length c0),(9,[],.int .i64 a.length),(10,[],.int .i64 i),(20,[],.slice g (r.f++[r.b]).length k),(21,[],.int .i64 (r.f++[r.b]).length),(22,[],.int .i64 j)]/\n=[]/\o=(r.f++[r.b]).length-j) (hn_ [0,8,9,10,20,21,22] Z) ⟨0,QK _,Z,Z,Z⟩ (fun fr aC aD m _ p=>?_);obtain ⟨j,hj,rfl,rfl,rfl⟩:=p;refine Um 1 [0,8,9,10,20,21,22,23] Z<|Up (fun aa=>?_) fun aa=>?_
  ·have ak:j<(r.f++[r.b]).length:=by
    have:=QF aa;omega
   obtain ⟨q,hq⟩:∃ q,(r.f++[r.b])[j]?=some q:=⟨(r.f++[r.b])[j],aj ak⟩;have ab:QB 22 q:=by
    rcases QW.1 (PN hq) with h | h
    ·exact ae q h
    rw [Q4.1 h];exact af
   refine Ur fun R c=>UE ah.m_ U10 om_ (ce hq) fl_ fun aE al=>Uo al U8<|C4 1 [0,7,8,9,10,20,21,22] c Z<|Un 1 Z fun R c=>Uz (dW _ hT.m_ _ (tW ab)) U7<|C4 1 [0,8,9,10,20,21,22,28] c Z<|Up (fun F=>?_) fun F=>?_
   ·exfalso;rw [xA ab] at F;exact absurd F dc_
   refine Ur fun R c=>Ux _ U7<|C4 1 [0,8,9,10,20,21,22] c Z<|UB (m':=(r.f++[r.b]).length-(j+1)) om_ mup (hn_ [0,8,9,10,20,21,22] Z) ⟨j+1,om_,Z,Z,Z⟩
  refine Ur fun R c=>Ux _ U7<|C4 1 [0,8,9,10] c Z<|UB (m':=a.length-(i+1)) om_ mup (hn_ [0,8,9,10] Z) ⟨i+1,om_,Z,Z,Z⟩
 refine Um 3 [2,3] Z<|UA (G.dropAll (UP U3 ?_));exact ⟨Z,Z⟩
def iF (s p k:Nat)(fm:List (Nat × Rat))(b sg:Rat):RowQ:=⟨Jc s p k fm sg,sg*b⟩
theorem jA (C:Mem)(N:Tabs C)(s p d b g v:Nat)(c:List (Nat × Rat))(e:Rat)(a:List Rat)(H w:Value)(n:List Value)(f:List RowQ)(ah:s*p<=60)(O:d<s)(Q:C v=some (.cells ⟨[.int .i64 (s:Nat),.int .i64 (p:Nat)]⟩ 142 (0,0)))(S:C b=some (aO keyZ.enc (eJ c)))(T:(c.map (·.1)).Nodup)(U:∀ x∈c,x.1<p)(V:∀ x∈c,QB 23 x.2)(W:QB 23 e)
  (y:Sl C 1 H (a.map fa)) (X:∀ q∈a,QB 1 q) (ak:a.length<=2) (Y:RowsOk C n f) (al:f.length<=10000) :
  Jog.Fn cx.P 195 [.int .i64 d,.map (some b),ai (qtx e),H,.pointer (some ⟨g,0,none⟩),.pointer (some ⟨v,0,none⟩)] C [.obj g (.cells ⟨[w]⟩ 78 (0,0)),.arr w 123 2 f.length (aR n f).flatten]
   fun u C' k=>∃ I w',u=.tuple #[]/\k=[.obj g (.cells ⟨[w']⟩ 78 (0,0)),.arr w' 123 2 (f++a.map (iF s p d c e)).length (aR I (f++a.map (iF s p d c e))).flatten]/\RowsOk C' I (f++a.map (iF s p d c e)):=by
 obtain ⟨A0,c0,rfl,aa,an,_⟩:=id y;have ao:maxLen<=9223372036854775807:=by simp [maxLen]
 simp only [ax] at y aa ⊢;refine Uv func195 28 U3 fun w0=>Um 3 [0,1,2,4,5,12,13,14] Z<|UF (L':=[.obj g (.cells ⟨[w]⟩ 78 (0,0)),.arr w 123 2 (f++(a.take 0).map (iF s p d c e)).length (aR n (f++(a.take 0).map (iF s p d c e))).flatten]) am<|G.loop (fun fr C' k μ=>∃ (i:Nat)(h:List Value)(o:Value),(i<=a.length/\RowsOk C' h (f++(a.take i).map (iF s p d c e)))/\fr=[(0,[],.int .i64 d),(1,[],.map (some b)),(2,[],ai (qtx e)),(4,[],.pointer (some ⟨g,0,none⟩)),(5,[],.pointer (some ⟨v,0,none⟩)),(12,[],.slice A0 a.length c0),(13,[],.int .i64 a.length),(14,[],.int .i64 i)]/\k=[.obj g (.cells ⟨[o]⟩ 78 (0,0)),.arr o 123 2 (f++(a.take i).map (iF s p d c e)).length (aR h (f++(a.take i).map (iF s p d c e))).flatten]/\μ=a.length-i) (hn_ [0,1,2,4,5,12,13,14] Z) ⟨0,n,w,⟨QK _,by simpa using Y⟩,Z,Z,Z⟩ (fun fr ap aq m _ hI=>?_);obtain ⟨i,h,o,⟨hi,t⟩,rfl,rfl,rfl⟩:=hI;refine Um 1 [0,1,2,4,5,12,13,14,15] Z<|Up (fun z=>?_) fun z=>?_
 ·have A:i<a.length:=by simpa using z
  obtain ⟨sg,B⟩:∃ sg,a[i]?=some sg:=⟨a[i],aj A⟩;have ab:=X sg (PN B);have ar:(f++(a.take i).map (iF s p d c e)).length<=10002:=by
   rw [QO,ax,QX];omega
  have J:f++(a.take (i+1)).map (iF s p d c e)=f++(a.take i).map (iF s p d c e)++[iF s p d c e sg]:=by
   rw [Q5,B];simp
  refine Ur fun R l=>UE y.m_ U10 om_ (ce B) fl_ fun au ac=>Uo ac U8<|C4 1 [0,1,2,4,5,11,12,13,14] l Z<|UK [0,1,2,3,4,5,6,7,8,9] [] Z kr_ fun R hB l=>Uw af U9<|Uo (bkT Q 2) U8<|Us 4 Z<|US (OS _ N.m_ s p d b c sg e 23 dc_ dc_ om_ O (Mem.get S mup) T U V (ab.le dc_) W) U7 fl_ (fun av _ _ ad=>?_);obtain ⟨fv,rfl,D⟩:=ad;obtain ⟨E,F,rfl,_⟩:=id D;simp only [ax] at D ⊢;refine UJ [[.slice E (Jc s p d c sg).length F,ai (qtx (sg*e))]] U12 fun ay _ _ ae=>UR (j:=1) U11 ae.m_ Z aw (by simp only [aU];omega) fl_ fun K L M=>Uy (j:=1) U12<|Ut [0,1,2,4,5,12,13,14] l Z<|Ur fun R l=>Ux _ U7<|C4 1 [0,1,2,4,5,12,13,14] l Z ?_;have ag:=RowsOk.snoc (r:=iF s p d c e sg) t.m_ D;refine UF (L':=[.obj g (.cells ⟨[.slice K L M]⟩ 78 (0,0)),.arr (.slice K L M) 123 2 (f++(a.take (i+1)).map (iF s p d c e)).length (aR (h++[.slice E (Jc s p d c sg).length F]) (f++(a.take (i+1)).map (iF s p d c e))).flatten]) (by rw [J,fg t.1];simp [iF,az];omega)<|UB (m':=a.length-(i+1)) om_ mup (hn_ [0,1,2,4,5,12,13,14] Z) ⟨i+1,h++[.slice E (Jc s p d c sg).length F],_,⟨by omega,by rw [J];exact ag.mono mup⟩,Z,Z,Z⟩
 have A:i=a.length:=by
  have:¬ i<a.length:=by simpa using z
  omega
 rw [A,QV] at t ⊢;exact Vy Z<|⟨h,o,Z,Z,t.mono mup⟩
noncomputable def qu (o:Obs):Rat:=-dz o.nx / dz o.nz
noncomputable def jk (o:Obs):Rat:=-dz o.ny / dz o.nz
def upN (B:Bk)(o:Obs):Nat:=(ku (isU o.upper) B.col 0).toNat
noncomputable def rowsO (B:Bk)(o:Obs)(p:Pt)(t:Tri)(z:Rat):List RowQ :=
 if o.kind=1 then (if 0<upN B o then [iF (bs B) (bp B) (upN B o-1) (atT t (wgt B.pts t p)) (kF o z) 1] else [])++(if upN B o<bs B then [iF (bs B) (bp B) (upN B o) (atT t (wgt B.pts t p)) (kF o z) (-1)] else [])
 else if o.kind=2 then (cG B.col o).flatMap fun k=>[1, -1].map (iF (bs B) (bp B) k (atT t (wgt B.pts t p)) (kF o z))
 else (cG B.col o).flatMap fun k=>[1, -1].map (iF (bs B) (bp B) k (atT t fun j=>(slf B.pts t j).1) (qu o))++[1, -1].map (iF (bs B) (bp B) k (atT t fun j=>(slf B.pts t j).2) (jk o))
structure Fine (B:Bk)(fs:List Rat)(o:Obs)(p:Pt)(ti:Nat)(t:Tri)(z:Rat):Prop where
 place:ObsAt o p
 loc:∃ r,lO B.pts B.tris p=ti::r
 tri:B.tris[ti]?=some t
 val:EQ B.pts B.tris fs p=.tuple #[ai (qtx z),.int .i64 0]
 qz:QB 22 z
 qh:QB 22 (kF o z)
 w:∀ j,QB 22 (wgt B.pts t p j)
 up:0<=ku (isU o.upper) B.col 0
 sl:∀ j,QP 22 (slf B.pts t j)
 nr:o.kind≠1->o.kind≠2->(aW o.nx=true/\aW o.ny=true/\aW o.nz=true)/\QB 11 (dz o.nx)/\QB 11 (dz o.ny)/\QB 11 (dz o.nz)/\dz o.nz≠0
 rows:∀ r∈rowsO B o p t z,Oh r
theorem OL (h:Sl C 1 v [[ai [49]]]):Sl C 1 v (([1]:List Rat).map fa):=by rw [<- dA] at h;exact h
theorem OM (h:Sl C 1 v [[ai [45,49]]]):Sl C 1 v (([-1]:List Rat).map fa):=by rw [<- cT] at h;exact h
theorem Fm (h:Sl C 1 v [[ai [49]],[ai [45,49]]]):Sl C 1 v (([1, -1]:List Rat).map fa):=by rw [<- cT,<- dA] at h;exact h
theorem OF:∀ q∈([1]:List Rat),QB 1 q:=by simp;exact QB_one
theorem OG:∀ q∈([-1]:List Rat),QB 1 q:=by simp;exact mP
theorem rO:∀ q∈([1, -1]:List Rat),QB 1 q:=by
 intro q a;simp only [QT,RV,S9] at a;rcases a with rfl | rfl
 ·exact QB_one
 exact mP
theorem gj {f:Nat->Rat}{P:Nat × Rat->Prop}(b:P (t.1,f 0))(c:P (t.2.1,f 1))(d:P (t.2.2,f 2)):∀ x∈atT t f,P x:=by
 intro x a;simp only [atT,QT,RV,S9] at a;rcases a with rfl | rfl | rfl <;> assumption
theorem IK {a b:Int}(h:k∈vR a b n):k<n:=by
 unfold vR at h;rw [SH,QZ] at h;exact h.1
theorem jt {a b:Type}(f:a->List b){l:List a}{j:Nat}{x:a}(h:l[j]?=some x):(l.take (j+1)).flatMap f=(l.take j).flatMap f++f x:=by
 rw [Q5,h,List.flatMap_append];simp
theorem fJ {a b:Type}{f:a->List b}{c:Nat}(h:∀ x,(f x).length=c):∀ l:List a,(l.flatMap f).length=c*l.length
 | []=>by simp
 | x::l=>by rw [List.flatMap_cons,QO,h,fJ h l,QY,Nat.mul_succ,Tc]
theorem AZ :∀ r∈rowsO B o p t z,r.f.length=bs B*bp B:=by
 have a:∀ k d b sg,(iF (bs B) (bp B) k d b sg).f.length=bs B*bp B:=fun k d b sg=>jK _ _;intro r hr;unfold rowsO at hr;split at hr
 ·rcases QW.1 hr with h | h
  ·split at h
   ·rw [Q4.1 h];exact a _ _ _ _
   cases h
  split at h
  ·rw [Q4.1 h];exact a _ _ _ _
  cases h
 split at hr
 ·obtain ⟨k,_,c⟩:=List.mem_flatMap.1 hr;obtain ⟨sg,_,rfl⟩:=QM.1 c;exact a _ _ _ _
 obtain ⟨k,_,c⟩:=List.mem_flatMap.1 hr;rcases QW.1 c with h | h
 ·obtain ⟨sg,_,rfl⟩:=QM.1 h;exact a _ _ _ _
 obtain ⟨sg,_,rfl⟩:=QM.1 h;exact a _ _ _ _
theorem wh (h:(cG B.col o).length<=60):(rowsO B o p t z).length<=240:=by
 unfold rowsO;split
 ·rw [QO];have h1:∀ (c:Prop)[Decidable c] (r:RowQ),(if c then [r] else []).length<=1:=fun c _ r=>by split <;> simp
  have:=h1 (0<upN B o) (iF (bs B) (bp B) (upN B o-1) (atT t (wgt B.pts t p)) (kF o z) 1);have:=h1 (upN B o<bs B) (iF (bs B) (bp B) (upN B o) (atT t (wgt B.pts t p)) (kF o z) (-1));omega
 split
 ·rw [fJ (c:=2) (fun k=>by simp)];omega
 rw [fJ (c:=4) (fun k=>by simp)];omega
theorem MG (C:Mem)(d:Tabs C)(bv:Value)(B:Bk)(fs:List Rat)(i:Nat)(o:Obs)(p:Pt)(ti:Nat)(t:Tri)(z:Rat)(L:BookIn C bv B)(Q:Good B.pts B.tris)(al:BookR B)(aL:iz B=0)(hF:Terr B fs)(U:B.obs[i]?=some o)(b:Fine B fs o p ti t z)(S:bs B*bp B<=60)(a3:sX B.col=0)(bR:bs B+1=B.col.length)(bS:B.col.length<=60) :
  Pur cx.P 128 [gx (bs B) (bp B),bv,.int .i64 i] C fun u D=>∃ v,u=.tuple #[v,.int .i64 0]/\RowsIn D v (rowsO B o p t z):=by
 have am:=L;have hM:=Q.ok;obtain ⟨r,a4⟩:=b.loc;have aM:=PN b.tri;have l:=hM.ins t aM;have an:=tN hM aM;have bT:=(aE.1 U).1;have V:=b.place;obtain ⟨u,W⟩:∃ u:Nat,ku (isU o.upper) B.col 0=(u:Nat):=⟨_,(Int.toNat_of_nonneg b.up).symm⟩;have a5:upN B o=u:=by unfold upN;rw [W];rfl
 have bU:u<B.col.length:=by
  rcases mT (isU o.upper) B.col with ⟨h,_⟩ | ⟨k,x,h,h2,_⟩
  ·rw [W] at h;omega
  have:=(aE.1 h2).1;rw [W] at h;omega
 have ao:=qP (wgt B.pts t p) an;have ap:∀ x∈atT t (wgt B.pts t p),x.1<bp B:=gj (P:=fun x=>x.1<bp B) l.1 l.2.1 l.2.2;have aq:∀ x∈atT t (wgt B.pts t p),QB 23 x.2:=gj (P:=fun x=>QB 23 x.2) ((b.w 0).le dc_) ((b.w 1).le dc_) ((b.w 2).le dc_);have ar:QB 23 (kF o z):=b.qh.le dc_;have a6:(cG B.col o).length<=bs B:=by
  unfold cG vR;refine Q1 (RT _ _) ?_;rw [RB];unfold bs;omega
 have aN:∀ k∈cG B.col o,k<bs B:=fun k hk=>IK hk;obtain ⟨v1,v2,tv,cv,ov,rfl,h1,h2,h3,h4,h5⟩:=id L.ex;have aO:MeshIn C (.agg ⟨[v1,v2]⟩) B.pts B.tris:=⟨v1,v2,rfl,h1,h2⟩;obtain ⟨A5,c5,rfl,a7,bV,_⟩:=id h5;have bW:maxLen<=9223372036854775807:=by simp [maxLen]
 simp only [ax] at h5 a7 am ⊢;refine Uv func128 172 U3 fun w0=>?_;refine Ur fun R a=>?_;refine UG U6 (fun n=>?_);refine UG U6 (fun b4=>?_);refine C4 2 [2,3,4] a Z ?_;clear a R;refine G.freeze 1 Z (fun _ _ M=>?_);refine G.freeze 0 Z (fun _ _ N=>?_);refine Un 1 Z fun R a=>?_;refine Uo (bkT N 1) U8 ?_;refine Uq U6 ?_;refine UE h5.m_ U10 om_ (ce U) fl_ (fun bX a8=>?_);refine Uo a8 U8 ?_;refine UI U5 (fun b8=>?_);refine Uy (j:=0) U12 ?_;refine Ut [2,3,4,8] a Z ?_;clear a R;refine G.freeze 0 Z (fun C8 _ E=>?_);refine Un 1 Z fun R a=>?_;refine Uo (bkT N 2) U8 ?_;refine Uq U6 ?_;refine Uo (bkT E 2) U8 ?_;refine US (by have h:=Ec C8 d.m_ _ B.pts B.tris p ti r t aO.m_ Q V.q V.r a4 b.tri b.w;rw [<- wK V] at h;exact h) U7 fl_ (fun bY _ _ a9=>?_);obtain ⟨T,rfl,au⟩:=a9;refine C4 7 [2,3,4,8,9,10,11] a Z ?_;clear a R;refine Um 2 [2,3,4,8,9,10,11,45] Z ?_;refine Up (fun aP=>?_) fun aP=>?_
 ·exact absurd aP dc_
 refine Ur fun R a=>?_;refine Uo (bkT N 5) U8 ?_;refine Uq U6 ?_;refine Uz (DM _ d.m_ _ B fs i o p z am.m_ Q al aL hF U V b.val b.qz b.qh) U7 ?_;refine C4 5 [2,3,4,8,9,10,11,12] a Z ?_;clear a R;refine Um 2 [2,3,4,8,9,10,11,12,54] Z ?_;refine Up (fun aQ=>?_) fun aQ=>?_
 ·exact absurd aQ dc_
 refine Ur fun R a=>?_;refine Uo (bkT N 5) U8 ?_;refine Uq U6 ?_;refine UW (vQ _ d.m_ _ B i o am.m_ Q al aL U) U7 (fun bZ _ _ ba=>?_);obtain ⟨lv,rfl,av⟩:=ba;obtain ⟨Al,cl,aS,_⟩:=id av;rw [ax] at aS;subst aS;refine C4 5 [3,4,8,9,10,11,12,13] a Z ?_;clear a R;refine Um 2 [3,4,8,9,10,11,12,13,63] Z ?_;refine Up (fun aT=>?_) fun aT=>?_
 ·exact absurd aT dc_
 refine Ur fun R a=>?_;refine UI U5 (fun c=>?_);refine Ut [3,4,8,9,10,12,13,14] a Z ?_;clear a R;refine G.nilArr 123 2 (G.perm (L':=[.obj c (.cells ⟨[.slice none 0 0]⟩ 78 (0,0)),.arr (.slice none 0 0) 123 2 0 []]) (List.Perm.swap _ _ _) ?_);refine Um 2 [3,4,8,9,10,12,13,14,15] Z ?_;refine Un 1 Z fun R a=>?_;refine Uo (bkT E 1) U8 ?_;refine Ut [3,4,8,9,10,12,13,14,15,67] a Z ?_;clear a R;refine Um 2 [3,4,8,9,10,12,13,14,15,67,120] Z ?_;refine G.cut (fun fr C' y F=>∃ (vs:List Value)(w:Value),(RowsOk C' vs (rowsO B o p t z))/\fr=[(14,[],.pointer (some ⟨c,0,none⟩))]/\y=[.obj c (.cells ⟨[w]⟩ 78 (0,0)),.arr w 123 2 (rowsO B o p t z).length (aR vs (rowsO B o p t z)).flatten]) ?_ (fun fr _ b0 F _ H=>?_)
 ·refine Up (fun X=>?_) fun X=>?_
  ·have hk:o.kind=1:=dS X;obtain ⟨s,O⟩:∃ s,(if 0<u then [iF (bs B) (bp B) (u-1) (atT t (wgt B.pts t p)) (kF o z) 1] else [])=s:=⟨_,rfl⟩;have A:rowsO B o p t z=s++(if u<bs B then [iF (bs B) (bp B) u (atT t (wgt B.pts t p)) (kF o z) (-1)] else []):=by unfold rowsO;rw [aJ hk,a5,O]
   refine Un 1 Z fun R a=>?_;refine Uo (bkT N 1) U8 ?_;refine Uq U6 ?_;refine Uo (bkT E 1) U8 ?_;refine Uz (zu _ d.m_ _ B.col o.upper h4.m_ al.col a3 u W) U7 ?_;refine C4 7 [3,9,12,14,15,16,18] a Z ?_;clear a R;refine Um 2 [3,9,12,14,15,16,18,132] Z ?_;refine Up (fun aU=>?_) fun aU=>?_
   ·exact absurd aU dc_
   refine Um 2 [3,9,12,14,15,16,135] Z ?_;refine G.cut (fun fr C' y F=>∃ (vs:List Value)(w:Value),(RowsOk C' vs s)/\fr=[(3,[],.pointer (some ⟨n,0,none⟩)),(9,[],.map (some T)),(12,[],ai (qtx (kF o z))),(14,[],.pointer (some ⟨c,0,none⟩)),(15,[],.func (.func 195) #[] #[.pointer (some ⟨c,0,none⟩),.pointer (some ⟨n,0,none⟩)]),(16,[],.int .i64 u)]/\y=[.obj c (.cells ⟨[w]⟩ 78 (0,0)),.arr w 123 2 s.length (aR vs s).flatten]) ?_ (fun fr _ b1 F _ H=>?_)
   ·refine Up (fun aw=>?_) fun aw=>?_
    ·have ay:0<u:=by
      have:=QF aw;omega
     rw [aJ ay] at O;subst O;refine UO [(6,3)] Z (fun R a=>?_);refine Us 2 Z ?_;refine UY (((u-1:Nat):Int)) U4 om_ om_ om_ U2 ?_;refine Us 2 Z ?_;refine UJ [[ai [49]]] U12 (fun b2 _ _ bb=>?_);refine D.call (jA _ d.m_ (bs B) (bp B) (u-1) T c n (atT t (wgt B.pts t p)) (kF o z) [1] _ (.slice none 0 0) [] [] S om_ (Mem.get M mup) (Mem.get au mup) ao ap aq ar ((OL bb).mono mup) OF dc_ (RowsOk.nil _) dc_) Z (.inr dc_) U6 (QL _) fl_ (fun b5 _ b6 _ bc=>?_);refine Ut [3,9,12,14,15,16] a Z ?_;clear a R;obtain ⟨bd,w1,rfl,rfl,bf⟩:=bc;refine UD 0 mup (hn_ [3,9,12,14,15,16] Z) ⟨bd,w1,bf,Z,Z⟩
    have ay:¬ 0<u:=by
     have:=QJ aw;omega
    rw [aB ay] at O;subst O;refine UD 0 (Mem.le.refl _) (hn_ [3,9,12,14,15,16] Z) ⟨[],.slice none 0 0,RowsOk.nil _,Z,Z⟩
   obtain ⟨vs ,w,az,rfl,rfl⟩:=H;refine Un 2 Z fun R a=>?_;refine Uo (bkT M 1) U8 ?_;refine C4 1 [9,12,14,15,16,146] a Z ?_;clear a R;refine Up (fun aA=>?_) fun aA=>?_
   ·have Y:u<bs B:=by
     have:=QF aA;omega
    rw [aJ Y] at A;have b7:s.length<=1:=by rw [<- O];split <;> simp
    refine UO [(5,3)] Z (fun R a=>?_);refine Us 4 Z ?_;refine UJ [[ai [45,49]]] U12 (fun b9 _ _ bg=>?_);refine D.call (jA _ d.m_ (bs B) (bp B) u T c n (atT t (wgt B.pts t p)) (kF o z) [-1] _ w vs s S Y (Mem.get M mup) (Mem.get au mup) ao ap aq ar ((OM bg).mono mup) OG dc_ az.m_ om_) Z (.inr dc_) U6 (QL _) fl_ (fun ca _ cb _ bh=>?_);refine Ut [14] a Z ?_;clear a R;obtain ⟨bi,w2,rfl,rfl,aV⟩:=bh;rw [show s++([-1]:List Rat).map (iF (bs B) (bp B) u (atT t (wgt B.pts t p)) (kF o z))=rowsO B o p t z from A.symm] at aV ⊢;refine UD 0 mup (hn_ [14] Z) ⟨bi,w2,aV,Z,Z⟩
   have Y:¬ u<bs B:=by
    have:=QJ aA;omega
   rw [aB Y,Q8] at A;rw [<- A] at az ⊢;refine UD 0 mup (hn_ [14] Z) ⟨vs,w,az.mono mup,Z,Z⟩
  have aC:¬ o.kind=1:=by
   intro e;rw [show ((o.kind == 1)=true) by rw [e];rfl] at X;cases X
  refine Um 2 [4,8,9,10,12,13,14,15,153] Z ?_;refine Up (fun aa=>?_) fun aa=>?_
  ·have ab:o.kind=2:=dS aa;obtain ⟨f,aD⟩:∃ f,(fun k=>([1, -1]:List Rat).map (iF (bs B) (bp B) k (atT t (wgt B.pts t p)) (kF o z)))=f:=⟨_,rfl⟩;have A:rowsO B o p t z=(cG B.col o).flatMap f:=by unfold rowsO;rw [aB aC,aJ ab,<- aD]
   have bj:∀ k,(f k).length=2:=fun k=>by rw [<- aD];rfl
   refine Um 3 [9,12,14,15,155,156,157] Z ?_;refine G.loop (fun fr C' y F=>∃ (j:Nat)(vs:List Value)(w:Value),(j<=(cG B.col o).length/\RowsOk C' vs (((cG B.col o).take j).flatMap f))/\fr=[(9,[],.map (some T)),(12,[],ai (qtx (kF o z))),(14,[],.pointer (some ⟨c,0,none⟩)),(15,[],.func (.func 195) #[] #[.pointer (some ⟨c,0,none⟩),.pointer (some ⟨n,0,none⟩)]),(155,[],.slice Al (cG B.col o).length cl),(156,[],.int .i64 (cG B.col o).length),(157,[],.int .i64 j)]/\y=[.obj c (.cells ⟨[w]⟩ 78 (0,0)),.arr w 123 2 (((cG B.col o).take j).flatMap f).length (aR vs (((cG B.col o).take j).flatMap f)).flatten]/\F=(cG B.col o).length-j) (hn_ [9,12,14,15,155,156,157] Z) ⟨0,[],.slice none 0 0,⟨QK _,RowsOk.nil _⟩,Z,Z,Z⟩ (fun fr cc cd m _ H=>?_);obtain ⟨j,vs,w,⟨hj,I⟩,rfl,rfl,rfl⟩:=H;refine Um 1 [9,12,14,15,155,156,157,158] Z ?_;refine Up (fun aF=>?_) fun aF=>?_
   ·have J:j<(cG B.col o).length:=by
     have:=QF aF;omega
    obtain ⟨k,K⟩:∃ k,(cG B.col o)[j]?=some k:=⟨(cG B.col o)[j],aj J⟩;have ac:=aN k (PN K);have ad:=fJ bj ((cG B.col o).take j);rw [QX] at ad;have aG:=jt f K;refine Ur fun R a=>?_;refine UE av.m_ U10 om_ (ce K) fl_ (fun cf bk=>?_);refine Uo bk U8 ?_;refine C4 1 [9,12,14,15,20,155,156,157] a Z ?_;clear a R;refine UO [(5,3)] Z (fun R a=>?_);refine Us 4 Z ?_;refine UJ [[ai [49]],[ai [45,49]]] U12 (fun cg _ _ bl=>?_);refine D.call (jA _ d.m_ (bs B) (bp B) k T c n (atT t (wgt B.pts t p)) (kF o z) [1, -1] _ w vs _ S ac (Mem.get M mup) (Mem.get au mup) ao ap aq ar ((Fm bl).mono mup) rO dc_ I.m_ om_) Z (.inr dc_) U6 (QL _) fl_ (fun ch _ ci _ bm=>?_);refine Ut [9,12,14,15,155,156,157] a Z ?_;clear a R;refine Ur fun R a=>?_;refine Ux _ U7 ?_;refine C4 1 [9,12,14,15,155,156,157] a Z ?_;clear a R;obtain ⟨aH,w3,rfl,rfl,ae⟩:=bm;rw [show ((cG B.col o).take j).flatMap f++([1, -1]:List Rat).map (iF (bs B) (bp B) k (atT t (wgt B.pts t p)) (kF o z))=((cG B.col o).take (j+1)).flatMap f by rw [aG,<- aD]] at ae ⊢;refine UB (m':=(cG B.col o).length-(j+1)) om_ mup (hn_ [9,12,14,15,155,156,157] Z) ⟨j+1,aH,w3,⟨by omega,ae⟩,Z,Z,Z⟩
   have J:j=(cG B.col o).length:=by
    have:=QJ aF;omega
   rw [J,QV,<- A] at I ⊢;refine UD 0 mup (hn_ [14] Z) ⟨vs,w,I.mono mup,Z,Z⟩
  have ab:¬ o.kind=2:=by
   intro e;rw [show ((o.kind == 2)=true) by rw [e];rfl] at aa;cases aa
  obtain ⟨⟨bo,bq,br⟩,aW,aX,ag,ah⟩:=b.nr aC ab;obtain ⟨e1,q1⟩:=dJ bo;obtain ⟨e2,q2⟩:=dJ bq;obtain ⟨e3,q3⟩:=dJ br;have aY:(qtx (dz o.nx)).length<=1000000:=Q1 (bG q1 dc_) dc_;have bt:(qtx (dz o.ny)).length<=1000000:=Q1 (bG q2 dc_) dc_;have bu:QB 23 (qu o):=(ms (fZ aW) ag ah).le dc_;have bx:QB 23 (jk o):=(ms (fZ aX) ag ah).le dc_;obtain ⟨g,aI⟩:∃ g,(fun k=>([1, -1]:List Rat).map (iF (bs B) (bp B) k (atT t fun j=>(slf B.pts t j).1) (qu o))++([1, -1]:List Rat).map (iF (bs B) (bp B) k (atT t fun j=>(slf B.pts t j).2) (jk o)))=g:=⟨_,rfl⟩;have A:rowsO B o p t z=(cG B.col o).flatMap g:=by unfold rowsO;rw [aB aC,aB ab,<- aI]
  have bz:∀ k,(g k).length=4:=fun k=>by rw [<- aI];rfl
  have bA:=qP (fun j=>(slf B.pts t j).1) an;have bB:=qP (fun j=>(slf B.pts t j).2) an;have bC:∀ x∈atT t (fun j=>(slf B.pts t j).1),x.1<bp B:=gj (P:=fun x=>x.1<bp B) l.1 l.2.1 l.2.2;have bD:∀ x∈atT t (fun j=>(slf B.pts t j).2),x.1<bp B:=gj (P:=fun x=>x.1<bp B) l.1 l.2.1 l.2.2;have bE:∀ x∈atT t (fun j=>(slf B.pts t j).1),QB 23 x.2:=gj (P:=fun x=>QB 23 x.2) ((b.sl 0).1.le dc_) ((b.sl 1).1.le dc_) ((b.sl 2).1.le dc_);have bF:∀ x∈atT t (fun j=>(slf B.pts t j).2),QB 23 x.2:=gj (P:=fun x=>QB 23 x.2) ((b.sl 0).2.le dc_) ((b.sl 1).2.le dc_) ((b.sl 2).2.le dc_);refine Un 1 Z fun R a=>?_;refine Uo (bkT N 2) U8 ?_;refine Uq U6 ?_;refine UW (D7 _ d.m_ _ B.pts B.tris ti t aO.m_ Q b.tri b.sl) U7 (fun cj ak _ bH=>?_);obtain ⟨be,bn,rfl,bI,bJ⟩:=bH;refine C4 7 [8,13,14,15,21,22,23] a Z ?_;clear a R;refine Um 2 [8,13,14,15,21,22,23,77] Z ?_;refine Up (fun aZ=>?_) fun aZ=>?_
  ·exact absurd aZ dc_
  refine UK [0,1,2,3,4,5,6,7,8,9,10,11,12] [(3,1),(7,1)] Z kr_ (fun R L a=>?_);refine Us 2 Z ?_;refine Uo (bkT E 1) U8 ?_;refine UL (fun _=>(by have h:=eV ak (dz o.nx) aY;rw [<- e1] at h;exact h)) U9 ?_;refine Us 2 Z ?_;refine Uo (bkT E 1) U8 ?_;refine UL (fun _=>(by have h:=jb ak d.m_ (-dz o.nx) (dz o.nz) 11 dc_ dc_ (fZ aW) ag ah;rw [<- e3] at h;exact h)) U9 ?_;refine Us 5 Z ?_;refine Ut [8,13,14,15,21,22,24] a Z ?_;clear a L R;refine UK [0,1,2,3,4,5,6,7,8,9,10,11,12] [(3,1),(7,1)] Z kr_ (fun R L a=>?_);refine Us 2 Z ?_;refine Uo (bkT E 1) U8 ?_;refine UL (fun _=>(by have h:=eV ak (dz o.ny) bt;rw [<- e2] at h;exact h)) U9 ?_;refine Us 2 Z ?_;refine Uo (bkT E 1) U8 ?_;refine UL (fun _=>(by have h:=jb ak d.m_ (-dz o.ny) (dz o.nz) 11 dc_ dc_ (fZ aX) ag ah;rw [<- e3] at h;exact h)) U9 ?_;refine Us 5 Z ?_;refine Ut [13,14,15,21,22,24,26] a Z ?_;clear a L R;refine Um 3 [14,15,21,22,24,26,101,102,103] Z ?_;refine G.loop (fun fr C' y F=>∃ (j:Nat)(vs:List Value)(w:Value),(j<=(cG B.col o).length/\RowsOk C' vs (((cG B.col o).take j).flatMap g))/\fr=[(14,[],.pointer (some ⟨c,0,none⟩)),(15,[],.func (.func 195) #[] #[.pointer (some ⟨c,0,none⟩),.pointer (some ⟨n,0,none⟩)]),(21,[],.map (some be)),(22,[],.map (some bn)),(24,[],ai (qtx (qu o))),(26,[],ai (qtx (jk o))),(101,[],.slice Al (cG B.col o).length cl),(102,[],.int .i64 (cG B.col o).length),(103,[],.int .i64 j)]/\y=[.obj c (.cells ⟨[w]⟩ 78 (0,0)),.arr w 123 2 (((cG B.col o).take j).flatMap g).length (aR vs (((cG B.col o).take j).flatMap g)).flatten]/\F=(cG B.col o).length-j) (hn_ [14,15,21,22,24,26,101,102,103] Z) ⟨0,[],.slice none 0 0,⟨QK _,RowsOk.nil _⟩,Z,Z,Z⟩ (fun fr ck cm m aY H=>?_);obtain ⟨j,vs,w,⟨hj,I⟩,rfl,rfl,rfl⟩:=H;refine Um 1 [14,15,21,22,24,26,101,102,103,104] Z ?_;refine Up (fun aK=>?_) fun aK=>?_
  ·have J:j<(cG B.col o).length:=by
    have:=QF aK;omega
   obtain ⟨k,K⟩:∃ k,(cG B.col o)[j]?=some k:=⟨(cG B.col o)[j],aj J⟩;have ac:=aN k (PN K);have ad:=fJ bz ((cG B.col o).take j);rw [QX] at ad;have aG:=jt g K;refine Ur fun R a=>?_;refine UE av.m_ U10 om_ (ce K) fl_ (fun cn bK=>?_);refine Uo bK U8 ?_;refine C4 1 [14,15,21,22,24,26,29,101,102,103] a Z ?_;clear a R;refine UO [(5,3)] Z (fun R a=>?_);refine Us 4 Z ?_;refine UJ [[ai [49]],[ai [45,49]]] U12 (fun co _ _ bL=>?_);refine D.call (jA _ d.m_ (bs B) (bp B) k be c n (atT t fun j=>(slf B.pts t j).1) (qu o) [1, -1] _ w vs _ S ac (Mem.get M mup) (Mem.get bI mup) bA bC bE bu ((Fm bL).mono mup) rO dc_ I.m_ om_) Z (.inr dc_) U6 (QL _) fl_ (fun cp _ cq _ bM=>?_);refine Ut [14,15,21,22,24,26,29,101,102,103] a Z ?_;clear a R;obtain ⟨aH,w3,rfl,rfl,ae⟩:=bM;refine UO [(5,3)] Z (fun R a=>?_);refine Us 4 Z ?_;refine UJ [[ai [49]],[ai [45,49]]] U12 (fun cr _ _ bN=>?_);refine D.call (jA _ d.m_ (bs B) (bp B) k bn c n (atT t fun j=>(slf B.pts t j).2) (jk o) [1, -1] _ w3 aH _ S ac (Mem.get M mup) (Mem.get bJ mup) bB bD bF bx ((Fm bN).mono mup) rO dc_ ae.m_ (by rw [QO,ad];simp;omega)) Z (.inr dc_) U6 (QL _) fl_ (fun cs _ ct _ bO=>?_);refine Ut [14,15,21,22,24,26,101,102,103] a Z ?_;clear a R;refine Ur fun R a=>?_;refine Ux _ U7 ?_;refine C4 1 [14,15,21,22,24,26,101,102,103] a Z ?_;clear a R;obtain ⟨bP,w4,rfl,rfl,a0⟩:=bO;rw [show ((cG B.col o).take j).flatMap g++([1, -1]:List Rat).map (iF (bs B) (bp B) k (atT t fun j=>(slf B.pts t j).1) (qu o))++([1, -1]:List Rat).map (iF (bs B) (bp B) k (atT t fun j=>(slf B.pts t j).2) (jk o))=((cG B.col o).take (j+1)).flatMap g by rw [aG,<- aI,Ra]] at a0 ⊢;refine UB (m':=(cG B.col o).length-(j+1)) om_ mup (hn_ [14,15,21,22,24,26,101,102,103] Z) ⟨j+1,bP,w4,⟨by omega,a0⟩,Z,Z,Z⟩
  have J:j=(cG B.col o).length:=by
   have:=QJ aK;omega
  rw [J,QV,<- A] at I ⊢;refine UD 0 mup (hn_ [14] Z) ⟨vs,w,I.mono mup,Z,Z⟩
 obtain ⟨vs ,w,a1,rfl,rfl⟩:=H;refine G.freezeArr 1 (aR vs (rowsO B o p t z)) Z Z (ja _ _) (dx a1.1) (fun Cr cu bQ=>?_);have a2:RowsIn Cr w (rowsO B o p t z):=⟨vs,a1.mono mup,bQ⟩;refine Ur fun R a=>?_;refine Uw af U9 ?_;refine UC (Ee _ d.m_ w (rowsO B o p t z) a2.m_ b.rows (fun r hr=>by rw [AZ r hr];omega) (Q1 (wh (by unfold bs at a6;omega)) dc_)) U7 fl_ ?_;refine C4 4 [6,7] a Z ?_;clear a R;refine UA (G.dropAll (UP U3 ?_));exact ⟨Z,w,Z,a2.mono mup⟩
structure Rich (B:Bk)(fs:List Rat)(RO:Nat->List RowQ):Prop where
 good:Good B.pts B.tris
 br:BookR B
 bz:iz B=0
 terr:Terr B fs
 h60:bs B*bp B<=60
 fine:∀ i o,B.obs[i]?=some o->∃ p ti t z,Fine B fs o p ti t z/\RO i=rowsO B o p t z
theorem mj (h:iz B=0):sX B.col=0:=by
 unfold iz at h;split at h
 ·rename_i h1;exact absurd h h1
 split at h
 ·rename_i h1;exact absurd h h1
 rename_i h1;exact Ro h1
theorem uS {l:List Lay}(h:sX l=0):l≠[]/\l.length<=60:=by
 unfold sX at h;split at h
 ·exact absurd h dc_
 rename_i h0;split at h
 ·exact absurd h dc_
 exact ⟨h0,by omega⟩
theorem Rich.bookz {a:Value}(h:Rich B fs RO)(d:Tabs C)(b:BookIn C a B):BookZ C a B 0 :=
 ⟨b,fun D c=>by have h2:=kX D (d.mono c) a B (b.mono c) h.good h.br;rwa [h.bz] at h2,fun _=>(uS (mj h.bz)).1,Q1 (uS (mj h.bz)).2 dc_,h.good.ok.lp⟩
theorem Rich.scol (h:Rich B fs RO):bs B+1=B.col.length/\B.col.length<=60:=by
 obtain ⟨h1,h2⟩:=uS (mj h.bz);have:=Ru.2 h1;unfold bs;omega
theorem P5 (C:Mem)(f:Tabs C)(b:Value)(B:Bk)(c:List Rat)(d:Nat->List RowQ)(i:Nat)(g:BookIn C b B)(a:Rich B c d)(j:i<B.obs.length) :
  Pur cx.P 128 [gx (bs B) (bp B),b,.int .i64 i] C fun u D=>∃ v,u=.tuple #[v,.int .i64 0]/\RowsIn D v (d i):=by
 have e:B.obs[i]?=some B.obs[i]:=aj j;obtain ⟨p,ti,t,z,k,l⟩:=a.fine i _ e;have h:=MG C f b B c i _ p ti t z g a.good a.br a.bz a.terr e k a.h60 (mj a.bz) a.scol.1 a.scol.2
 rwa [<- l] at h
theorem pd (a:Rich B fs RO)(b:i<B.obs.length):(RO i).length<=240/\∀ r∈RO i,r.f.length=bs B*bp B:=by
 have c:B.obs[i]?=some B.obs[i]:=aj b;obtain ⟨p,ti,t,z,g,d⟩:=a.fine i _ c;have e:(cG B.col B.obs[i]).length<=60:=by
  unfold cG vR;refine Q1 (RT _ _) ?_;rw [RB];have:=a.scol.2;omega
 rw [d];exact ⟨wh e,AZ⟩
def ba (B:Bk):List RowQ:=bj (bs B) (bp B) B.col (B.col.length-2)
theorem CR (a:Rich B fs RO):(ba B).length<=120:=by
 have h:=jF (bs B) (bp B) B.col (B.col.length-2);have h1:=a.scol.1;have h2:(B.col.length-2)*bp B<=bs B*bp B:=Rz _ om_;have h3:=a.h60;unfold ba;omega
structure SrcQ where
 n:Int
 r:RowQ
def bR (vs:List Value)(l:List SrcQ):List (List Value):=List.zipWith (fun w (s:SrcQ)=>[.int .i64 s.n,w,ai (qtx s.r.b)]) vs l
def SrcsOk (C:Mem)(vs:List Value)(l:List SrcQ):Prop:=RowsOk C vs (l.map SrcQ.r)
def xO (C:Mem)(v:Value)(l:List SrcQ):Prop:=∃ vs,SrcsOk C vs l/\Sl C 3 v (bR vs l)
theorem SrcsOk.mono {C D:Mem}{a:List Value}{l:List SrcQ}(h:SrcsOk C a l)(b:C.le D):SrcsOk D a l:=RowsOk.mono h b
theorem SrcsOk.m_ {D:Mem}{l:List SrcQ}(h:SrcsOk C vs l)(a:C.le D:=by exact mup):SrcsOk D vs l:=SrcsOk.mono h a
theorem SrcsOk.snoc {C:Mem}{a:List Value}{l:List SrcQ}{v:Value}{s:SrcQ}(h:SrcsOk C a l)(b:Sl C 1 v (s.r.f.map fa)):SrcsOk C (a++[v]) (l++[s]):=by
 unfold SrcsOk at h ⊢;rw [Rk];exact RowsOk.snoc h b
theorem gX {l:List SrcQ}(h:SrcsOk C vs l):vs.length=l.length:=by have:=h.1;simpa using this
theorem lA {l:List SrcQ}(h:vs.length=l.length)(v:Value)(s:SrcQ):bR (vs++[v]) (l++[s])=bR vs l++[[.int .i64 s.n,v,ai (qtx s.r.b)]]:=by
 unfold bR;rw [List.zipWith_append h];rfl
theorem nq {l:List SrcQ}(h:vs.length=l.length):(bR vs l).length=l.length:=by simp [bR,h]
theorem rj (b:List Value)(l:List SrcQ):∀ r∈bR b l,r.length=3:=by
 intro r hr;unfold bR at hr;obtain ⟨i,a⟩:=Sg hr;rw [List.getElem?_zipWith] at a;cases h1:b[i]? <;> cases h2:l[i]? <;> rw [h1,h2] at a <;> simp at a
 subst a;rfl
def jG (n:Int)(l:List RowQ):List SrcQ:=l.map fun r=>⟨n,r⟩
def aZ (T:List RowQ)(RO:Nat->List RowQ)(l:List Nat):List SrcQ:=jG (-1) T++l.flatMap fun i=>jG (i:Nat) (RO i)
theorem ly {n:Int}{l:List RowQ}(h:l[i]?=some r):jG n (l.take (i+1))=jG n (l.take i)++[⟨n,r⟩]:=by
 unfold jG;rw [Q5,h,Rk];rfl
theorem xy {T:List RowQ}:∀ {l:List Nat},(∀ i∈l,(RO i).length<=240)->l.length<=100->T.length<=120->(aZ T RO l).length<=120+240*l.length:=by
 intro l h e hT;unfold aZ;rw [QO];have b:∀ l:List Nat,(∀ i∈l,(RO i).length<=240)->(l.flatMap fun i=>jG (i:Nat) (RO i)).length<=240*l.length:=by
  intro l;induction l with
  | nil=>intro _;simp
  | cons a l c =>
   intro h;have h1:=h a aK;have h2:=c fun i d=>h i (QQ _ d);rw [List.flatMap_cons,QO,QY];have:(jG (a:Nat) (RO a)).length=(RO a).length:=by simp [jG]
   omega
 have h1:=b l h;have:(jG (-1) T).length=T.length:=by simp [jG]
 omega
theorem HG (C:Mem)(hT:Tabs C)(bv lv:Value)(B:Bk)(fs:List Rat)(c:Nat->List RowQ)(l:List Nat)(hB:BookIn C bv B)(o:Rich B fs c)(L:Sl C 1 lv (l.map aL))(ac:∀ i∈l,i<B.obs.length)(aO:l.length<=100)(aP:(aZ (ba B) c l).length<=300) :
  Pur cx.P 85 [gx (bs B) (bp B),bv,lv] C fun u D=>∃ v,u=.tuple #[v,.int .i64 0]/\xO D v (aZ (ba B) c l):=by
 have au:=hB;have av:=CR o;obtain ⟨v1,v2,tv,cv,ov,rfl,h1,h2,h3,h4,h5⟩:=id hB.ex;obtain ⟨M,N,rfl,ay,aQ,_⟩:=id L;have aR:maxLen<=9223372036854775807:=by simp [maxLen]
 simp only [ax] at L ay ⊢;have az:=fun m:List Nat=>fun hm:∀ i∈m,i<B.obs.length=>fun aA:m.length<=100=>xy (T:=ba B) (RO:=c) (l:=m) (fun i E=>(pd o (hm i E)).1) aA av;refine Uv func85 66 U3 fun w0=>Ur fun R d=>UG U6 fun O=>UG U6 fun Q=>C4 2 [2,3,4] d Z<|G.freeze 1 Z fun _ _ ad=>G.freeze 0 Z fun _ _ ae=>Um 1 [2,3,4,8] Z<|Ur fun R d=>Uo (bkT ad 2) U8<|Uq U6<|Uo (bkT ae 1) U8<|UW (vN _ hT.m_ _ (bs B) (bp B) B.col h4.m_ o.scol.1 o.h60 o.br.col) U7 (fun aS _ _ aB=>?_);obtain ⟨ag,S,F⟩:=aB;rw [show bj (bs B) (bp B) B.col (B.col.length-2)=ba B from rfl] at S F;have ah:=S.1;obtain ⟨At,ct,rfl,aC,aT,_⟩:=id F;simp only [dx ah] at F aC ⊢;refine C4 2 [2,3,4,8,20,21,22] d Z<|G.nilArr 125 3<|G.loop (fun fr C' e x=>∃ (i:Nat)(vs:List Value)(w:Value),(i<=(ba B).length/\SrcsOk C' vs (jG (-1) ((ba B).take i)))/\fr=[(2,[],.slice M l.length N),(3,[],.pointer (some ⟨O,0,none⟩)),(4,[],.pointer (some ⟨Q,0,none⟩)),(8,[],w),(20,[],.slice At (ba B).length ct),(21,[],.int .i64 (ba B).length),(22,[],.int .i64 i)]/\e=[.arr w 125 3 (jG (-1) ((ba B).take i)).length (bR vs (jG (-1) ((ba B).take i))).flatten]/\x=(ba B).length-i) (hn_ [2,3,4,8,20,21,22] Z) ⟨0,[],_,⟨QK _,RowsOk.nil _⟩,Z,Z,Z⟩ (fun fr aV aW m _ y=>?_);obtain ⟨i,vs,w,⟨E,H⟩,rfl,rfl,rfl⟩:=y;refine Um 1 [2,3,4,8,20,21,22,23] Z<|Up (fun U=>?_) fun U=>?_
 ·have I:i<(ba B).length:=by
   have:=QF U;omega
  obtain ⟨r,g⟩:∃ r,(ba B)[i]?=some r:=⟨(ba B)[i],aj I⟩;obtain ⟨p,q⟩:∃ p,ag[i]?=some p:=⟨ag[i]'(by rw [ah];exact I),aj _⟩;have t:=S.2 i p r q g;obtain ⟨h,n,rfl,_⟩:=id t;simp only [ax] at t q;have aD:(jG (-1) ((ba B).take i)).length=i:=by simp [jG];omega
  refine Ur fun R d=>UE F.m_ U10 om_ (kL q g) fl_ fun aX aE=>Uo aE U8<|UI U5 fun aY=>Uy (j:=0) U12<|Ut [2,3,4,8,10,20,21,22] d Z<|Un 1 Z fun R d=>Uw af U9<|UH [.int .i64 (-1),.slice h r.f.length n,ai (qtx r.b)] U8<|UJ [[.int .i64 (-1),.slice h r.f.length n,ai (qtx r.b)]] U12 fun a0 _ _ aF=>D.append (j:=1) U11 aF Z aw (by simp only [aU];omega) fl_ fun ak=>C4 1 [2,3,4,8,20,21,22] d Z<|Ur fun R d=>Ux _ U7<|C4 1 [2,3,4,8,20,21,22] d Z ?_;have z:=SrcsOk.snoc (s:=⟨-1,r⟩) H.m_ t.m_;rw [<- ly g] at z;refine Vf 1 Z<|UF (L':=[.arr ak 125 3 (jG (-1) ((ba B).take (i+1))).length (bR (vs++[.slice h r.f.length n]) (jG (-1) ((ba B).take (i+1)))).flatten]) (by rw [ly g,lA (gX H)];simp)<|UB (m':=(ba B).length-(i+1)) om_ mup (hn_ [2,3,4,8,20,21,22] Z) ⟨i+1,vs++[.slice h r.f.length n],ak,⟨by omega,z.mono mup⟩,Z,Z,Z⟩
 have I:i=(ba B).length:=by
  have:=QJ U;omega
 rw [I,QV] at H ⊢;refine Um 3 [3,4,8,32,33,34] Z<|UF (L':=[.arr w 125 3 (aZ (ba B) c (l.take 0)).length (bR vs (aZ (ba B) c (l.take 0))).flatten]) (by simp [aZ])<|G.loop (fun fr C' e x=>∃ (j:Nat)(vs:List Value)(w:Value),(j<=l.length/\SrcsOk C' vs (aZ (ba B) c (l.take j)))/\fr=[(3,[],.pointer (some ⟨O,0,none⟩)),(4,[],.pointer (some ⟨Q,0,none⟩)),(8,[],w),(32,[],.slice M l.length N),(33,[],.int .i64 l.length),(34,[],.int .i64 j)]/\e=[.arr w 125 3 (aZ (ba B) c (l.take j)).length (bR vs (aZ (ba B) c (l.take j))).flatten]/\x=l.length-j) (hn_ [3,4,8,32,33,34] Z) ⟨0,vs,w,⟨QK _,by simpa [aZ] using H⟩,Z,Z,Z⟩ (fun fr a1 a2 m _ y=>?_);obtain ⟨j,vs,w,⟨hj,A⟩,rfl,rfl,rfl⟩:=y;refine Um 1 [3,4,8,32,33,34,35] Z<|Up (fun V=>?_) fun V=>?_
 ·have W:j<l.length:=by
   have:=QF V;omega
  obtain ⟨a,X⟩:∃ a,l[j]?=some a:=⟨l[j],aj W⟩;have al:=ac a (PN X);have aG:=az (l.take j) (fun i E=>ac i (RZ E)) (by rw [QX];omega);rw [QX] at aG;have aH:aZ (ba B) c (l.take (j+1))=aZ (ba B) c (l.take j)++jG (a:Nat) (c a):=by
   unfold aZ;rw [jt _ X,Ra]
  have a3:=(pd o al).1;refine Ur fun R d=>UE L.m_ U10 om_ (ce X) fl_ fun a4 aI=>Uo aI U8<|C4 1 [3,4,8,12,32,33,34] d Z<|Ur fun R d=>Uo (bkT ad 2) U8<|Uo (bkT ae 5) U8<|Uq U6<|UW (P5 _ hT.m_ _ B fs c a au.m_ o al) U7 (fun a5 _ _ aJ=>?_);obtain ⟨rv,rfl,am,an,Y⟩:=aJ;have ao:=an.1;obtain ⟨Ar,cr,rfl,aK,a6,_⟩:=id Y;simp only [dx ao] at Y aK ⊢;refine C4 5 [3,4,8,12,13,14,32,33,34] d Z<|Um 2 [3,4,8,12,13,14,32,33,34,46] Z<|Up (fun ap=>?_) fun ap=>?_
  ·exact absurd ap dc_
  refine Um 3 [3,4,8,12,32,33,34,48,49,50] Z<|UF (L':=[.arr w 125 3 (aZ (ba B) c (l.take j)++jG (a:Nat) ((c a).take 0)).length (bR vs (aZ (ba B) c (l.take j)++jG (a:Nat) ((c a).take 0))).flatten]) (by simp [jG])<|G.loop (fun fr C' e x=>∃ (k:Nat)(vs:List Value)(w:Value),(k<=(c a).length/\SrcsOk C' vs (aZ (ba B) c (l.take j)++jG (a:Nat) ((c a).take k)))/\fr=[(3,[],.pointer (some ⟨O,0,none⟩)),(4,[],.pointer (some ⟨Q,0,none⟩)),(8,[],w),(12,[],.int .i64 a),(32,[],.slice M l.length N),(33,[],.int .i64 l.length),(34,[],.int .i64 j),(48,[],.slice Ar (c a).length cr),(49,[],.int .i64 (c a).length),(50,[],.int .i64 k)]/\e=[.arr w 125 3 (aZ (ba B) c (l.take j)++jG (a:Nat) ((c a).take k)).length (bR vs (aZ (ba B) c (l.take j)++jG (a:Nat) ((c a).take k))).flatten]/\x=(c a).length-k) (hn_ [3,4,8,12,32,33,34,48,49,50] Z) ⟨0,vs,w,⟨QK _,by rw [show jG (a:Nat) ((c a).take 0)=[] from Z,Q8];exact A.mono mup⟩,Z,Z,Z⟩ (fun fr a7 a8 m _ y=>?_);obtain ⟨k,vs,w,⟨hk,J⟩,rfl,rfl,rfl⟩:=y;refine Um 1 [3,4,8,12,32,33,34,48,49,50,51] Z<|Up (fun aa=>?_) fun aa=>?_
  ·have K:k<(c a).length:=by
    have:=QF aa;omega
   obtain ⟨r,g⟩:∃ r,(c a)[k]?=some r:=⟨(c a)[k],aj K⟩;obtain ⟨p,q⟩:∃ p,am[k]?=some p:=⟨am[k]'(by rw [ao];exact K),aj _⟩;have t:=an.2 k p r q g;obtain ⟨h,n,rfl,_⟩:=id t;simp only [ax] at t q;have aD:(jG (a:Nat) ((c a).take k)).length<=240:=by simp [jG];omega
   have a9:(aZ (ba B) c (l.take j)++jG (a:Nat) ((c a).take k)).length<=100000:=by rw [QO];omega
   refine Ur fun R d=>UE Y.m_ U10 om_ (kL q g) fl_ fun bb aM=>Uo aM U8<|UI U5 fun bc=>Uy (j:=0) U12<|Ut [3,4,8,12,16,32,33,34,48,49,50] d Z<|Un 2 Z fun R d=>Uw af U9<|UH [.int .i64 (a:Nat),.slice h r.f.length n,ai (qtx r.b)] U8<|UJ [[.int .i64 (a:Nat),.slice h r.f.length n,ai (qtx r.b)]] U12 fun bd _ _ aN=>D.append (j:=1) U11 aN Z aw (by simp only [aU];omega) fl_ fun aq=>C4 1 [3,4,8,12,32,33,34,48,49,50] d Z<|Ur fun R d=>Ux _ U7<|C4 1 [3,4,8,12,32,33,34,48,49,50] d Z ?_;have z:=SrcsOk.snoc (s:=⟨(a:Nat),r⟩) J.m_ t.m_;rw [Ra,<- ly g] at z;refine Vf 1 Z<|UF (L':=[.arr aq 125 3 (aZ (ba B) c (l.take j)++jG (a:Nat) ((c a).take (k+1))).length (bR (vs++[.slice h r.f.length n]) (aZ (ba B) c (l.take j)++jG (a:Nat) ((c a).take (k+1)))).flatten]) (by rw [ly g,<- Ra,lA (gX J)];simp;omega)<|UB (m':=(c a).length-(k+1)) om_ mup (hn_ [3,4,8,12,32,33,34,48,49,50] Z) ⟨k+1,vs++[.slice h r.f.length n],aq,⟨by omega,z.mono mup⟩,Z,Z,Z⟩
  have K:k=(c a).length:=by
   have:=QJ aa;omega
  rw [K,QV,<- aH] at J ⊢;refine Ur fun R d=>Ux _ U7<|C4 1 [3,4,8,32,33,34] d Z<|UB (m':=l.length-(j+1)) om_ mup (hn_ [3,4,8,32,33,34] Z) ⟨j+1,vs,w,⟨by omega,J⟩,Z,Z,Z⟩
 have W:j=l.length:=by
  have:=QJ V;omega
 rw [W,QV] at A ⊢;refine G.freezeArr 0 (bR vs (aZ (ba B) c l)) Z Z (rj _ _) (nq (gX A)) (fun Cg hg ab=>?_);obtain ⟨Ag,cg,rfl,_⟩:=id ab;rw [nq (gX A)] at ab ⊢;refine Um 3 [8,64] Z<|Up (fun ar=>?_) fun ar=>?_
 ·exfalso;have:=QF ar;omega
 refine Um 3 [6,7] Z<|UA (G.dropAll (UP U3 ?_));exact ⟨Z,_,Z,vs,A.mono mup,ab.mono mup⟩
def bT (err:Nat->Int):Nat->Int
 | 0=>0
 | n+1=>if bT err n≠0 then bT err n else err n
theorem lV {a:Nat->Int}{n:Nat}(h:bT a n≠0):∀ m,n<=m->bT a m=bT a n
 | 0,hm=>by rw [show n=0 by omega]
 | m+1,hm=>by
  rcases Rh m n with h1 | h1
  ·rw [show n=m+1 by omega]
  have b:=lV h m h1;simp only [bT,b];rw [aJ h]
theorem fY (a:bT err i=0)(b:err i≠0)(c:i<n):bT err n=err i:=by
 have h1:bT err (i+1)=err i:=by simp only [bT,a];rw [aB dc_]
 rw [lV (n:=i+1) (by rw [h1];exact b) n om_,h1]
theorem im (a:bT err i=0)(b:err i=0):bT err (i+1)=0:=by
 simp only [bT,a];rw [aB dc_,b]
theorem lU {a:Nat->Int}:∀ {n:Nat},bT a n=0->∀ i,i<n->a i=0
 | 0,_,i,b=>by omega
 | n+1,h,i,b=>by
  by_cases h0:bT a n=0
  ·rcases Rh i n with h1 | h1
   ·exact lU h0 i h1
   have:i=n:=by omega
   subst this;simp only [bT,h0] at h
   rwa [aB dc_] at h
  simp only [bT] at h;rw [aJ h0] at h;exact absurd h h0
theorem kV {a:Nat->Int}:∀ {n:Nat},(∀ i,i<n->a i=0)->bT a n=0
 | 0,_=>rfl
 | n+1,h=>im (kV fun i b=>h i om_) (h n om_)
theorem DI (C:Mem)(v:Value)(l:List Int)(z:Int)(b:Sl C 1 v (l.map lZ)):Gives cx.P 126 [v,.int .i64 z] C (.int .i64 (ku (fun y=>decide (z=y)) l 0)):=by
 obtain ⟨h,c0,rfl,j,t,_⟩:=id b;have u:maxLen<=9223372036854775807:=by simp [maxLen]
 simp only [ax] at b j ⊢;refine Uv func126 19 U3 fun w0=>Um 1 [0,1] Z<|Um 3 [0,1,7,8] Z<|G.loop (fun fr C' k n=>∃ (i:Nat),(i<=l.length/\∀ y∈l.take i,(fun y=>decide (z=y)) y=false)/\fr=[(0,[],.slice h l.length c0),(1,[],.int .i64 z),(7,[],.int .i64 l.length),(8,[],.int .i64 i)]/\k=[]/\n=l.length-i) (hn_ [0,1,7,8] Z) ⟨0,⟨QK _,by simp⟩,Z,Z,Z⟩ (fun fr w A m o p=>?_);obtain ⟨i,⟨B,a⟩,rfl,rfl,rfl⟩:=p;refine Um 1 [0,1,7,8,9] Z<|Up (fun c=>?_) fun c=>?_
 ·have d:i<l.length:=by simpa using c
  obtain ⟨x,e⟩:∃ x,l[i]?=some x:=⟨l[i],aj d⟩;refine Um 2 [0,1,5,7,8] Z<|Un 3 Z fun R f=>UE b.m_ U10 om_ (ce e) fl_ fun D q=>Uo q U8<|C4 1 [0,1,5,7,8,16] f Z<|Up (fun g=>?_) fun g=>?_
  ·have r:decide (z=x)=true:=by simpa using g
   exact Um 2 [4] Z<|Uu U2<|⟨by rw [od e r a,RR],Z⟩
  have s:decide (z=x)=false:=by simpa using g
  refine Ur fun R f=>Ux _ U7<|C4 1 [0,1,7,8] f Z<|UB (m':=l.length-(i+1)) om_ o (hn_ [0,1,7,8] Z) ⟨i+1,⟨by omega,fun y hy=>by
   rw [Q5,e] at hy;rcases QW.1 hy with hy | hy
   ·exact a y hy
   simp only [R5,Q4] at hy;subst hy;exact s⟩,Z,Z,Z⟩
 have d:i=l.length:=by
  have:¬ i<l.length:=by simpa using c
  omega
 exact Um 1 [4] Z<|Uu U2<|⟨by rw [d,QV] at a;rw [lT a],Z⟩
theorem uP (C:Mem)(v:Value)(l:List Int)(z:Int)(a:Sl C 1 v (l.map lZ)):Gives cx.P 84 [v,.int .i64 z] C (.bool (decide (z∈l))):=by
 refine Uv func84 9 U3 fun w0=>?_;refine Um 1 [0,1] Z ?_;refine Un 2 Z fun R b=>?_;refine Uz (DI _ v l z a.m_) U7 ?_;refine C4 2 [4] b Z ?_;refine Uu U2 ?_;refine ⟨?_,Z⟩;congr 1;rw [Rv];rcases mT (fun y=>decide (z=y)) l with ⟨h1,h2⟩ | ⟨i,x,h1,h2,h3,_⟩
 ·rw [h1];constructor
  ·intro h;omega
  intro h;have:=h2 z h;simp at this
 rw [h1];constructor
 ·intro _;have:z=x:=QF h3;rw [this];exact PN h2
 intro _;omega
def rF (n:Nat)(l:List Int)(i:Nat):Int:=if l.getD i 0<0∨(n:Int)<=l.getD i 0 then 3 else if l.getD i 0∈l.take i then 9 else 0
def chZ (n:Nat)(l:List Int):Int:=bT (rF n l) l.length
theorem Pz {l:List Int}(h:chZ n l=0):l=(l.map Int.toNat).map (fun i:Nat=>(i:Int))/\∀ i∈l.map Int.toNat,i<n:=by
 have c:∀ z∈l,0<=z/\z<(n:Int):=by
  intro z a;obtain ⟨i,b⟩:=Sg a;have h1:=lU h i (aE.1 b).1;unfold rF at h1;rw [al,b,R0] at h1;split at h1
  ·cases h1
  omega
 refine ⟨?_,fun i b=>?_⟩
 ·rw [Rx];symm;have e:∀ z∈l,((fun i:Nat=>(i:Int)) ∘ Int.toNat) z=id z:=fun z a=>Int.toNat_of_nonneg (c z a).1;rw [List.map_congr_left e,List.map_id]
 obtain ⟨z,a,rfl⟩:=QM.1 b;have:=c z a;omega
theorem Eb (C:Mem)(y:Tabs C)(A E:Value)(B:Bk)(F:List Rat)(g:Nat->List RowQ)(l:List Int)(o:BookIn C A B)(p:Rich B F g)(c:Sl C 1 E (l.map lZ))(N:l.length<=100)(O:chZ B.obs.length l=0->(aZ (ba B) g (l.map Int.toNat)).length<=300) :
  Pur cx.P 52 [A,E] C fun u D=>∃ v,u=.tuple #[v,.int .i64 (chZ B.obs.length l)]/\xO D v (if chZ B.obs.length l=0 then aZ (ba B) g (l.map Int.toNat) else []):=by
 have H:=o;have Q:=c;have I:=p.bookz y o;obtain ⟨v1,v2,tv,cv,ov,rfl,h1,h2,h3,h4,h5⟩:=id o.ex;obtain ⟨A5,c5,rfl,S,ag,_⟩:=id h5;obtain ⟨q,d,rfl,T,ah,_⟩:=id c;have ai:maxLen<=9223372036854775807:=by simp [maxLen]
 simp only [ax] at h5 S H I c Q T ⊢;refine Uv func52 46 U3 fun w0=>Ur fun R a=>UG U6 fun U=>C4 2 [1,2] a Z<|G.freeze 0 Z fun _ _ r=>Ur fun R a=>Uo (bkT r 5) U8<|Uz (Qk _ _ B I.m_ p.h60) U7<|Us 3 Z<|UI U5 fun V=>Uy (j:=0) U12<|C4 1 [1,2,6,7] a Z<|Um 2 [1,2,6,7,16] Z<|Up (fun J=>?_) fun J=>?_
 ·exact absurd J dc_
 refine G.freeze 0 Z fun _ _ W=>Um 3 [1,2,6,18,19,20] Z<|G.loop (fun fr C' X Y=>∃ (i:Nat),(i<=l.length/\bT (rF B.obs.length l) i=0)/\fr=[(1,[],.slice q l.length d),(2,[],.pointer (some ⟨U,0,none⟩)),(6,[],.pointer (some ⟨V,0,none⟩)),(18,[],.slice q l.length d),(19,[],.int .i64 l.length),(20,[],.int .i64 i)]/\X=[]/\Y=l.length-i) (hn_ [1,2,6,18,19,20] Z) ⟨0,⟨QK _,Z⟩,Z,Z,Z⟩ (fun fr ak am m _ hI=>?_);obtain ⟨i,⟨hi,k⟩,rfl,rfl,rfl⟩:=hI;refine Um 1 [1,2,6,18,19,20,21] Z<|Up (fun s=>?_) fun s=>?_
 ·have e:i<l.length:=by
   have:=QF s;omega
  obtain ⟨z,K⟩:∃ z,l[i]?=some z:=⟨l[i],aj e⟩;have t:l.getD i 0=z:=by rw [al,K,R0]
  have L:=Sl.sub c (l:=0) (h:=i) (m:=d) (QK _) ap om_ (QG _);rw [RQ,<- Tn] at L;refine Un 1 Z fun R a=>UE c.m_ U10 om_ (ce K) fl_ fun an aa=>Uo aa U8<|C4 2 [1,2,6,8,9,18,19,20] a Z<|Un 5 Z fun R a=>UQ U6 (fun _=>PtrTo.blockT (Mem.get r mup) _ 1) U3<|Us 2 Z<|UU U8<|Ut [1,2,6,8,9,18,19,20,33] a Z<|Up (fun w=>?_) fun w=>?_
  ·have b:rF B.obs.length l i=3:=by
    unfold rF;rw [t,aJ (by simp only [Sr,QR] at w;omega)]
   have f:chZ B.obs.length l=3:=by
    unfold chZ;rw [fY k (by rw [b];decide) e,b]
   refine Um 2 [4,5] Z<|UA (G.dropAll (UP U3 ?_));exact ⟨Z,.slice none 0 0,by rw [f],by rw [f];exact ⟨[],RowsOk.nil _,Sl.nil _ _⟩⟩
  have M:¬ (z<0∨(B.obs.length:Int)<=z):=by
   simp only [Sq,Q2] at w;omega
  refine Un 2 Z fun R a=>Vg 0 i d U12 (fun _=>⟨.inl ⟨Z,Z⟩,.inr ⟨_,Z⟩,.inl ⟨Z,Z⟩,by omega,by omega,by omega⟩) U2<|Uq U6<|Uz (uP _ _ (l.take i) z L.m_) U7<|Ut [1,2,6,18,19,20,38] a Z<|Up (fun x=>?_) fun x=>?_
  ·have hm:z∈l.take i:=QF x;have b:rF B.obs.length l i=9:=by
    unfold rF;rw [t,aB M,aJ hm]
   have f:chZ B.obs.length l=9:=by
    unfold chZ;rw [fY k (by rw [b];decide) e,b]
   refine Um 2 [4,5] Z<|UA (G.dropAll (UP U3 ?_));exact ⟨Z,.slice none 0 0,by rw [f],by rw [f];exact ⟨[],RowsOk.nil _,Sl.nil _ _⟩⟩
  have hm:z ∉ l.take i:=QJ x;have b:rF B.obs.length l i=0:=by
   unfold rF;rw [t,aB M,aB hm]
  refine Ur fun R a=>Ux _ U7<|C4 1 [1,2,6,18,19,20] a Z<|UB (m':=l.length-(i+1)) om_ mup (hn_ [1,2,6,18,19,20] Z) ⟨i+1,⟨by omega,im k b⟩,Z,Z,Z⟩
 have e:i=l.length:=by
  have:=QJ s;omega
 subst e;have n:chZ B.obs.length l=0:=k;obtain ⟨ab,ac⟩:=Pz n;have ad:Sl C 1 (.slice q l.length d) ((l.map Int.toNat).map aL):=by
  have h:=congrArg (List.map lZ) ab;rw [Rx] at h;rw [show (l.map Int.toNat).map aL=l.map lZ from h.symm];exact c
 refine Ur fun R a=>Uo (bkT W 2) U8<|Uo (bkT r 5) U8<|Uq U6<|US (HG _ y.m_ _ _ B F g (l.map Int.toNat) H.m_ p ad.m_ ac (by simpa using N) (O n)) U7 fl_ (fun ao _ _ ae=>?_);obtain ⟨rv,rfl,af⟩:=ae;refine C4 4 [4,5] a Z<|UA (G.dropAll (UP U3 ?_));exact ⟨Z,rv,by rw [n],by rw [aJ n];exact af⟩
def dotV (f x:List Rat):Nat->Rat
 | 0=>0
 | n+1=>dotV f x n+f.getD n 0*x.getD n 0
structure DotOk (r:RowQ)(x:List Rat):Prop where
 f:∀ q∈r.f,QB 22 q
 b:QB 22 r.b
 len:r.f.length=x.length
 s:∀ n,QB 2000 (dotV r.f x n)
def sqP:List (Int × Int):=[(0,0),(4,0),(4,4),(0,4)]
def shP:Nat->List (Int × Int)
 | 0=>sqP
 | 1=>sqP
 | 2=>sqP++[(2,1)]
 | 3=>[(0,0),(6,0),(0,4)]
 | 4=>[(0,0),(2,0),(4,0),(0,2),(2,2),(4,2)]
 | 5=>[(1,4),(5,3),(4,0),(0,0)]
 | 6=>sqP++[(2,0)]
 | _=>[(0,0),(6,0),(0,6),(2,2)]
def shT:Nat->List Tri
 | 0=>[(0,1,2),(0,2,3)]
 | 1=>[(0,1,3),(1,2,3)]
 | 2=>[(0,1,4),(1,2,4),(2,3,4),(3,0,4)]
 | 3=>[(2,0,1)]
 | 4=>[(0,1,4),(0,4,3),(1,2,5),(1,5,4)]
 | 5=>[(3,2,1),(3,1,0)]
 | 6=>[(0,4,3),(4,2,3),(4,1,2)]
 | _=>[(0,1,3),(1,2,3),(2,0,3)]
def Qt (p:Int × Int):List Value:=[.int .i64 p.1,.int .i64 p.2]
def ShIn (u:Value)(D:Mem)(m:Nat):Prop:=∃ pv tv,u=.tuple #[pv,tv]/\Sl D 2 pv ((shP m).map Qt)/\Sl D 3 tv ((shT m).map kH)
theorem Dd (C:Mem)(a:Nat)(_H:a<256):Pur cx.P 94 [.int .u8 a] C fun u D=>ShIn u D (a % 8):=by
 have I:a % 8<8:=Rs _ dc_;obtain ⟨m,hm⟩:∃ m,a % 8=m:=⟨_,rfl⟩;refine Uv func94 86 U3 fun w0=>Um 2 [0] Z<|Ur fun R b=>UH ([.int .i64 0,.int .i64 0]) U8<|UH ([.int .i64 4,.int .i64 0]) U8<|UH ([.int .i64 4,.int .i64 4]) U8<|UH ([.int .i64 0,.int .i64 4]) U8<|U1 [[.int .i64 0,.int .i64 0],[.int .i64 4,.int .i64 0],[.int .i64 4,.int .i64 4],[.int .i64 0,.int .i64 4]] U12 fl_ fun J _ _ d=>C4 1 [0,4] b Z<|Un 1 Z fun R b=>Vl (a) (8) U6 om_ U2<|Ut [4,11] b Z<|Um 2 [4,11,12] Z<|Up (fun f=>?_) fun f=>?_
 ·have c:a % 8=0:=by
   have:=dS f;omega
  refine Un 1 Z fun R b=>UH ([.int .i64 0,.int .i64 1,.int .i64 2]) U8<|UH ([.int .i64 0,.int .i64 2,.int .i64 3]) U8<|UJ [[.int .i64 0,.int .i64 1,.int .i64 2],[.int .i64 0,.int .i64 2,.int .i64 3]] U12 fun K _ _ n=>C4 2 [2,3] b Z<|UA (G.dropAll (UP U3 ?_));exact ⟨Z,by rw [c];exact ⟨_,_,Z,d.mono mup,n.mono mup⟩⟩
 have L:a % 8≠0:=by
  intro e;rw [e] at f;exact absurd f dc_
 refine Um 2 [4,11,18] Z<|Up (fun g=>?_) fun g=>?_
 ·have c:a % 8=1:=by
   have:=dS g;omega
  refine Un 1 Z fun R b=>UH ([.int .i64 0,.int .i64 1,.int .i64 3]) U8<|UH ([.int .i64 1,.int .i64 2,.int .i64 3]) U8<|UJ [[.int .i64 0,.int .i64 1,.int .i64 3],[.int .i64 1,.int .i64 2,.int .i64 3]] U12 fun M _ _ o=>C4 2 [2,3] b Z<|UA (G.dropAll (UP U3 ?_));exact ⟨Z,by rw [c];exact ⟨_,_,Z,d.mono mup,o.mono mup⟩⟩
 have N:a % 8≠1:=by
  intro e;rw [e] at g;exact absurd g dc_
 refine Um 2 [4,11,24] Z<|Up (fun h=>?_) fun h=>?_
 ·have c:a % 8=2:=by
   have:=dS h;omega
  refine Un 1 Z fun R b=>UH ([.int .i64 2,.int .i64 1]) U8<|UJ [[.int .i64 2,.int .i64 1]] U12 fun O _ _ p=>Wp Z Z Z Z Z Z Z Z Z Z d.m_ p.m_ (.inr dc_) (by simp only [QY,Rp,maxLen];omega) dc_ fl_ fun Q _ _ q=>UH ([.int .i64 0,.int .i64 1,.int .i64 4]) U8<|UH ([.int .i64 1,.int .i64 2,.int .i64 4]) U8<|UH ([.int .i64 2,.int .i64 3,.int .i64 4]) U8<|UH ([.int .i64 3,.int .i64 0,.int .i64 4]) U8<|UJ [[.int .i64 0,.int .i64 1,.int .i64 4],[.int .i64 1,.int .i64 2,.int .i64 4],[.int .i64 2,.int .i64 3,.int .i64 4],[.int .i64 3,.int .i64 0,.int .i64 4]] U12 fun S _ _ r=>C4 2 [2,3] b Z<|UA (G.dropAll (UP U3 ?_));exact ⟨Z,by rw [c];exact ⟨_,_,Z,q.mono mup,r.mono mup⟩⟩
 have T:a % 8≠2:=by
  intro e;rw [e] at h;exact absurd h dc_
 refine Um 2 [4,11,35] Z<|Up (fun i=>?_) fun i=>?_
 ·have c:a % 8=3:=by
   have:=dS i;omega
  refine Ur fun R b=>UH ([.int .i64 0,.int .i64 0]) U8<|UH ([.int .i64 6,.int .i64 0]) U8<|UH ([.int .i64 0,.int .i64 4]) U8<|UJ [[.int .i64 0,.int .i64 0],[.int .i64 6,.int .i64 0],[.int .i64 0,.int .i64 4]] U12 fun U _ _ s=>UH ([.int .i64 2,.int .i64 0,.int .i64 1]) U8<|UJ [[.int .i64 2,.int .i64 0,.int .i64 1]] U12 fun V _ _ t=>C4 2 [2,3] b Z<|UA (G.dropAll (UP U3 ?_));exact ⟨Z,by rw [c];exact ⟨_,_,Z,s.mono mup,t.mono mup⟩⟩
 have W:a % 8≠3:=by
  intro e;rw [e] at i;exact absurd i dc_
 refine Um 2 [4,11,43] Z<|Up (fun j=>?_) fun j=>?_
 ·have c:a % 8=4:=by
   have:=dS j;omega
  refine Ur fun R b=>UH ([.int .i64 0,.int .i64 0]) U8<|UH ([.int .i64 2,.int .i64 0]) U8<|UH ([.int .i64 4,.int .i64 0]) U8<|UH ([.int .i64 0,.int .i64 2]) U8<|UH ([.int .i64 2,.int .i64 2]) U8<|UH ([.int .i64 4,.int .i64 2]) U8<|UJ [[.int .i64 0,.int .i64 0],[.int .i64 2,.int .i64 0],[.int .i64 4,.int .i64 0],[.int .i64 0,.int .i64 2],[.int .i64 2,.int .i64 2],[.int .i64 4,.int .i64 2]] U12 fun X _ _ v=>UH ([.int .i64 0,.int .i64 1,.int .i64 4]) U8<|UH ([.int .i64 0,.int .i64 4,.int .i64 3]) U8<|UH ([.int .i64 1,.int .i64 2,.int .i64 5]) U8<|UH ([.int .i64 1,.int .i64 5,.int .i64 4]) U8<|UJ [[.int .i64 0,.int .i64 1,.int .i64 4],[.int .i64 0,.int .i64 4,.int .i64 3],[.int .i64 1,.int .i64 2,.int .i64 5],[.int .i64 1,.int .i64 5,.int .i64 4]] U12 fun Y _ _ w=>C4 2 [2,3] b Z<|UA (G.dropAll (UP U3 ?_));exact ⟨Z,by rw [c];exact ⟨_,_,Z,v.mono mup,w.mono mup⟩⟩
 have aa:a % 8≠4:=by
  intro e;rw [e] at j;exact absurd j dc_
 refine Um 2 [4,11,57] Z<|Up (fun k=>?_) fun k=>?_
 ·have c:a % 8=5:=by
   have:=dS k;omega
  refine Ur fun R b=>UH ([.int .i64 1,.int .i64 4]) U8<|UH ([.int .i64 5,.int .i64 3]) U8<|UH ([.int .i64 4,.int .i64 0]) U8<|UH ([.int .i64 0,.int .i64 0]) U8<|UJ [[.int .i64 1,.int .i64 4],[.int .i64 5,.int .i64 3],[.int .i64 4,.int .i64 0],[.int .i64 0,.int .i64 0]] U12 fun ab _ _ x=>UH ([.int .i64 3,.int .i64 2,.int .i64 1]) U8<|UH ([.int .i64 3,.int .i64 1,.int .i64 0]) U8<|UJ [[.int .i64 3,.int .i64 2,.int .i64 1],[.int .i64 3,.int .i64 1,.int .i64 0]] U12 fun ac _ _ y=>C4 2 [2,3] b Z<|UA (G.dropAll (UP U3 ?_));exact ⟨Z,by rw [c];exact ⟨_,_,Z,x.mono mup,y.mono mup⟩⟩
 have ad:a % 8≠5:=by
  intro e;rw [e] at k;exact absurd k dc_
 refine Um 2 [4,67] Z<|Up (fun l=>?_) fun l=>?_
 ·have c:a % 8=6:=by
   have:=dS l;omega
  refine Un 1 Z fun R b=>UH ([.int .i64 2,.int .i64 0]) U8<|UJ [[.int .i64 2,.int .i64 0]] U12 fun ae _ _ z=>Wp Z Z Z Z Z Z Z Z Z Z d.m_ z.m_ (.inr dc_) (by simp only [QY,Rp,maxLen];omega) dc_ fl_ fun af _ _ A=>UH ([.int .i64 0,.int .i64 4,.int .i64 3]) U8<|UH ([.int .i64 4,.int .i64 2,.int .i64 3]) U8<|UH ([.int .i64 4,.int .i64 1,.int .i64 2]) U8<|UJ [[.int .i64 0,.int .i64 4,.int .i64 3],[.int .i64 4,.int .i64 2,.int .i64 3],[.int .i64 4,.int .i64 1,.int .i64 2]] U12 fun ag _ _ B=>C4 2 [2,3] b Z<|UA (G.dropAll (UP U3 ?_));exact ⟨Z,by rw [c];exact ⟨_,_,Z,A.mono mup,B.mono mup⟩⟩
 have ah:a % 8≠6:=by
  intro e;rw [e] at l;exact absurd l dc_
 refine Ur fun R b=>UH ([.int .i64 0,.int .i64 0]) U8<|UH ([.int .i64 6,.int .i64 0]) U8<|UH ([.int .i64 0,.int .i64 6]) U8<|UH ([.int .i64 2,.int .i64 2]) U8<|UJ [[.int .i64 0,.int .i64 0],[.int .i64 6,.int .i64 0],[.int .i64 0,.int .i64 6],[.int .i64 2,.int .i64 2]] U12 fun ai _ _ E=>UH ([.int .i64 0,.int .i64 1,.int .i64 3]) U8<|UH ([.int .i64 1,.int .i64 2,.int .i64 3]) U8<|UH ([.int .i64 2,.int .i64 0,.int .i64 3]) U8<|UJ [[.int .i64 0,.int .i64 1,.int .i64 3],[.int .i64 1,.int .i64 2,.int .i64 3],[.int .i64 2,.int .i64 0,.int .i64 3]] U12 fun aj _ _ F=>C4 2 [2,3] b Z<|UA (G.dropAll (UP U3 ?_));exact ⟨Z,by rw [show a % 8=7 by omega];exact ⟨_,_,Z,E.mono mup,F.mono mup⟩⟩
theorem EK {n:Int}(a:-128<=n)(b:n<128):IntKind.i8.wrap n=n:=by
 simp [IntKind.wrap,IntKind.bits,IntKind.signed];omega
theorem Li:∀ m:Nat,∀ p∈shP m,0<=p.1/\p.1<=6/\0<=p.2/\p.2<=6
 | 0=>by decide
 | 1=>by decide
 | 2=>by decide
 | 3=>by decide
 | 4=>by decide
 | 5=>by decide
 | 6=>by decide
 | _+7=>by
  show ∀ p∈([(0,0),(6,0),(0,6),(2,2)]:List (Int × Int)),0<=p.1/\p.1<=6/\0<=p.2/\p.2<=6;decide
theorem Fk:∀ m:Nat,(shP m).length<=6
 | 0=>by decide
 | 1=>by decide
 | 2=>by decide
 | 3=>by decide
 | 4=>by decide
 | 5=>by decide
 | 6=>by decide
 | _+7=>by
  show ([(0,0),(6,0),(0,6),(2,2)]:List (Int × Int)).length<=6;decide
def cC (m:Nat)(a b:Int)(h:Bool):List Pt:=(shP m).map fun p=>dC a b h p.1 p.2 1
theorem lF (m:Nat)(a b:Int)(h:Bool):(cC m a b h).length<=6:=by rw [cC,ax];exact Fk m
theorem qw {z w:Int}(c:w≠0)(a:z.natAbs<1000000000)(b:w.natAbs<1000000000):QB 1 (kW z w):=by
 unfold kW;refine fV om_ ?_ ?_
 ·show _<B9 ^ 1;split
  ·rw [TP];exact a
  exact a
 exact b
theorem Bp {a b:Int}{h:Bool}{x y n:Int}(i:0<n)(j:n<=4)(k:-128<=x/\x<=127)(l:-128<=y/\y<=127):QP 1 (dC a b h x y n):=by
 have c:=yh a;have d:=yh b;have g:dT h=1∨dT h=2:=by cases h <;> simp [dT]
 have f:∀ z:Int, -8<z->z<8->-32<z*n/\z*n<32:=fun z h1 h2=>by
  rcases (by omega:n=1∨n=2∨n=3∨n=4) with e | e | e | e <;> subst e <;> omega
 have m:=f _ c.1 c.2;have o:=f _ d.1 d.2;have p:0<dT h*n/\dT h*n<=8:=by rcases g with e | e <;> rw [e] <;> omega
 exact ⟨qw om_ om_ om_,qw om_ om_ om_⟩
theorem wR (C:Mem)(F:Tabs C)(d:Nat)(a b:Int)(h:Bool)(H:d<256):Pur cx.P 61 [Lh d a b h] C fun u D=>MeshIn D u (cC (d % 8) a b h) (shT (d % 8)):=by
 have I:=Li (d % 8);have ad:=Fk (d % 8);refine Uv func61 42 U3 fun w0=>Ur fun R e=>UG U6 fun J=>UI U5 fun f=>Ut [1,2] e Z<|G.freeze 1 Z fun _ _ x=>Un 1 Z fun R e=>Uo (bkT x 1) U8<|UW (Dd _ d H) U7 (fun ae _ _ K=>?_);obtain ⟨pv,tv,rfl,g,q⟩:=K;obtain ⟨L,M,rfl,N,ag,_⟩:=id g;obtain ⟨k,l,rfl,ah,ai,_⟩:=id q;simp only [ax] at g q N ⊢;refine C4 5 [1,2,3,4] e Z<|Un 1 Z fun R e=>UH [.slice none 0 0,.slice k (shT (d % 8)).length l] U8<|UI U5 fun n=>Uy (j:=0) U12<|Ut [1,2,3,5] e Z<|Um 1 [1,2,3,5,6] Z<|G.nilArr 58 2<|G.perm (L':=[.obj n (.cells ⟨[.slice none 0 0,.slice k (shT (d % 8)).length l]⟩ 36 (0,0)),.arr (.slice none 0 0) 58 2 0 [],.obj f (.cells ⟨[.slice none 0 0,.slice none 0 0]⟩ 36 (0,0))]) (List.Perm.swap _ _ _)<|G.loop (fun fr C' s O=>∃ (i:Nat)(w:Value),(i<=(shP (d % 8)).length)/\fr=[(1,[],.pointer (some ⟨J,0,none⟩)),(2,[],.pointer (some ⟨f,0,none⟩)),(3,[],.slice L (shP (d % 8)).length M),(5,[],.pointer (some ⟨n,0,none⟩)),(6,[],.int .i64 i)]/\s=[.obj n (.cells ⟨[w,.slice k (shT (d % 8)).length l]⟩ 36 (0,0)),.arr w 58 2 ((cC (d % 8) a b h).take i).length (((cC (d % 8) a b h).take i).map gp).flatten,.obj f (.cells ⟨[.slice none 0 0,.slice none 0 0]⟩ 36 (0,0))]/\O=(shP (d % 8)).length-i) (hn_ [1,2,3,5,6] Z) ⟨0,.slice none 0 0,QK _,Z,Z,Z⟩ (fun fr ak al m _ Q=>?_);obtain ⟨i,w,hi,rfl,rfl,rfl⟩:=Q;refine Um 4 [1,2,3,5,6,18] Z<|Up (fun t=>?_) fun t=>?_
 ·have v:i<(shP (d % 8)).length:=by
   have:=QF t;omega
  obtain ⟨p,o⟩:∃ p,(shP (d % 8))[i]?=some p:=⟨(shP (d % 8))[i],aj v⟩;obtain ⟨am,an,ao,ap⟩:=I p (PN o);have S:(cC (d % 8) a b h)[i]?=some (dC a b h p.1 p.2 1):=by unfold cC;rw [QI,o];rfl
  have T:(cC (d % 8) a b h).take (i+1)=(cC (d % 8) a b h).take i++[dC a b h p.1 p.2 1]:=by rw [Q5,S];rfl
  have aq:((cC (d % 8) a b h).take i).length<=6:=by rw [QX];have:=lF (d % 8) a b h;omega
  refine UK [0,1,2,3,4,5,6,7,8,9,10,11,12,13,14,15,16,17,18,19,20] [(16,1),(8,0),(14,0)] Z kr_ fun R hB e=>Uq U6<|Uw af U9<|Uo (bkT x 4) U8<|Us 2 Z<|UE g.m_ U10 om_ (ce o) fl_ fun ar U=>VX U9 (fun _=>U) (fun _=>⟨by omega,om_⟩) fl_ Z (fun au V=>?_);have W:=V trivial;refine Uo W U8<|Vt (c:=p.1) U8 (EK om_ om_) U2<|Us 2 Z<|UE g.m_ U10 om_ (ce o) fl_ fun av X=>VX U9 (fun _=>X) (fun _=>⟨by omega,om_⟩) fl_ Z (fun ay Y=>?_);have aa:=Y trivial;refine Uo aa U8<|Vt (c:=p.2) U8 (EK om_ om_) U2<|UH [.int .i8 p.1,.int .i8 p.2] U8<|UL (fun _=>(Bq _ F.m_ d a b h p.1 p.2 1 dc_ dc_ ⟨by omega,by omega⟩ ⟨by omega,by omega⟩)) U9<|UJ [gp (dC a b h p.1 p.2 1)] U12 fun az _ _ ab=>UR (j:=1) U11 ab.m_ Z aw (by simp only [aU];omega) fl_ fun z A B=>Uq U6<|Uy (j:=1) U12<|Ut [1,2,3,5,6] e Z<|Un 1 Z fun R e=>Ux _ U7<|C4 1 [1,2,3,5,6] e Z<|UF (L':=[.obj n (.cells ⟨[.slice z A B,.slice k (shT (d % 8)).length l]⟩ 36 (0,0)),.arr (.slice z A B) 58 2 ((cC (d % 8) a b h).take (i+1)).length (((cC (d % 8) a b h).take (i+1)).map gp).flatten,.obj f (.cells ⟨[.slice none 0 0,.slice none 0 0]⟩ 36 (0,0))]) (by rw [T,Rk,Rm,QO];rfl)<|UB (m':=(shP (d % 8)).length-(i+1)) om_ mup (hn_ [1,2,3,5,6] Z) ⟨i+1,_,om_,Z,Z,Z⟩
 have v:i=(shP (d % 8)).length:=by
  have:=QJ t;omega
 have ac:(cC (d % 8) a b h).take i=cC (d % 8) a b h:=Rr (by rw [v,cC,ax];exact QG _);rw [ac];refine G.freezeArr 1 ((cC (d % 8) a b h).map gp) rfl rfl (by intro r hr;obtain ⟨y,_,rfl⟩:=QM.1 hr;rfl) (by rw [ax]) (fun Cg hg E=>?_);obtain ⟨Aw,cw,rfl,_⟩:=id E;refine Ur fun R e=>Uw af U9<|Uy (j:=1) U12<|Ut [2] e Z<|UA (Vj af U4 ?_);exact ⟨Z,_,_,Z,E,q.mono mup⟩
structure Hts where
 h0:Int
 h1:Int
 h2:Int
 h3:Int
 h4:Int
 h5:Int
 half:Bool
def Ii (H:Hts):List Int:=[H.h0,H.h1,H.h2,H.h3,H.h4,H.h5]
def Pm (H:Hts):List Value:=[.int .i8 H.h0,.int .i8 H.h1,.int .i8 H.h2,.int .i8 H.h3,.int .i8 H.h4,.int .i8 H.h5,.bool H.half]
def PZ (H:Hts):Prop:=∀ z∈Ii H, -128<=z/\z<=127
def fsK (n:Nat)(H:Hts):List Rat:=(List.range n).map fun i=>kW (((Ii H).getD (i % 6) 0).tmod 20) (dT H.half)
theorem E0 (a:Int):-20<a.tmod 20/\a.tmod 20<20:=by
 have h:(a.tmod 20).natAbs=a.natAbs % 20:=Tr a 20;omega
theorem uz (h:Bool):dT h=1∨dT h=2:=by cases h <;> simp [dT]
theorem uC (n:Nat)(H:Hts):(fsK n H).length=n:=by simp [fsK]
theorem G7 (n:Nat)(H:Hts):∀ q∈fsK n H,QB 1 q:=by
 intro q a;unfold fsK at a;obtain ⟨i,_,rfl⟩:=QM.1 a;have h1:=E0 ((Ii H).getD (i % 6) 0);have h2:=uz H.half;exact qw om_ om_ om_
theorem Nw (H:Hts)(j:Nat)(a:j<6):((Pm H).drop j).take 1=[.int .i8 ((Ii H).getD j 0)]:=by
 rcases (by omega:j=0∨j=1∨j=2∨j=3∨j=4∨j=5) with rfl | rfl | rfl | rfl | rfl | rfl <;> rfl
theorem jo (C:Mem)(B:Tabs C)(o E:Value)(n:Nat)(F:Option Addr)(I:Nat)(H:Hts)(J:o=.slice F n I)(S:n<=400)(K:PZ H):Pur cx.P 62 [.agg ⟨[o,E]⟩,.agg ⟨Pm H⟩] C fun u D=>Sl D 1 u ((fsK n H).map fa):=by
 subst J;obtain ⟨h0,h1,h2,h3,h4,h5,a⟩:=H;have T:maxLen<=9223372036854775807:=by simp [maxLen]
 refine Uv func62 31 U3 fun w0=>Ur fun R b=>UG U6 fun p=>UG U6 fun q=>C4 1 [2,3] b Z<|G.freeze 1 Z fun _ _ L=>G.freeze 0 Z fun _ _ s=>Ur fun R b=>Vz [] U12 fl_ fun t=>C4 1 [2,3,5] b Z<|Um 1 [2,3,5,6] Z<|Un 1 Z fun R b=>Uo (bkT s 1) U8<|Ut [2,3,5,6,10] b Z<|G.cut (fun fr C' d e=>(True)/\fr=[(2,[],.pointer (some ⟨p,0,none⟩)),(3,[],.pointer (some ⟨q,0,none⟩)),(5,[],.slice (some ⟨t,0,none⟩) 0 0),(6,[],.int .i64 (dT a))]/\d=[.arr (.slice (some ⟨t,0,none⟩) 0 0) 56 1 0 []]) ?_ (fun fr _ U e _ f=>?_)
 ·refine Up (fun g=>?_) fun g=>?_
  ·have h1:a=true:=g;subst h1;refine Um 1 [2,3,5,6] Z<|UD 0 (Mem.le.refl _) (hn_ [2,3,5,6] Z) ⟨trivial,Z,Z⟩
  have h1:a=false:=g;subst h1;refine UD 0 (Mem.le.refl _) (hn_ [2,3,5,6] Z) ⟨trivial,Z,Z⟩
 obtain ⟨_,rfl,rfl⟩:=f;refine Um 1 [2,3,5,6,7] Z<|G.loop (fun fr C' d e=>∃ (i:Nat)(w:Value),(i<=n)/\fr=[(2,[],.pointer (some ⟨p,0,none⟩)),(3,[],.pointer (some ⟨q,0,none⟩)),(5,[],w),(6,[],.int .i64 (dT a)),(7,[],.int .i64 i)]/\d=[.arr w 56 1 ((fsK n ⟨h0,h1,h2,h3,h4,h5,a⟩).take i).length (((fsK n ⟨h0,h1,h2,h3,h4,h5,a⟩).take i).map fa).flatten]/\e=n-i) (hn_ [2,3,5,6,7] Z) ⟨0,_,QK _,Z,Z,Z⟩ (fun fr V W m _ f=>?_);obtain ⟨i,w,X,rfl,rfl,rfl⟩:=f;refine Un 2 Z fun R b=>Uo (bkT L 1) U8<|C4 2 [2,3,5,6,7,15] b Z<|Up (fun h=>?_) fun h=>?_
 ·have k:i<n:=by
   have:=QF h;omega
  have v:i % 6<6:=Rs _ dc_;obtain ⟨z,l⟩:∃ z,(Ii ⟨h0,h1,h2,h3,h4,h5,a⟩).getD (i % 6) 0=z:=⟨_,rfl⟩;have x:=Nw ⟨h0,h1,h2,h3,h4,h5,a⟩ (i % 6) v;rw [l] at x;have M:z∈Ii ⟨h0,h1,h2,h3,h4,h5,a⟩:=by
   rw [<- l,al,aj (show i % 6<(Ii ⟨h0,h1,h2,h3,h4,h5,a⟩).length from v),R0];exact RE _
  have Y:=K z M;have aa:=E0 z;have ab:=uz a;have N:(fsK n ⟨h0,h1,h2,h3,h4,h5,a⟩).take (i+1)=(fsK n ⟨h0,h1,h2,h3,h4,h5,a⟩).take i++[kW (z.tmod 20) (dT a)]:=by
   rw [Q5,show (fsK n ⟨h0,h1,h2,h3,h4,h5,a⟩)[i]?=some (kW (z.tmod 20) (dT a)) by unfold fsK;rw [QI,Rn k,<- l];rfl];rfl
  have ac:((fsK n ⟨h0,h1,h2,h3,h4,h5,a⟩).take i).length<=400:=by rw [QX,uC];omega
  refine Un 2 Z fun R b=>Vl (i) (6) U6 om_ U2<|Uq U6<|UN ((i % 6)) U9 (fun _=>⟨by omega,by omega,(by show i % 6=0+(i % 6)*1;omega)⟩) U2<|VE (PtrTo.blockT (Mem.get s mup) (i % 6) 1) U6 (show bX _ (((Pm ⟨h0,h1,h2,h3,h4,h5,a⟩).drop (i % 6)).take 1)=some (.int .i8 z) from by rw [x];rfl) Z<|Vc (c:=z) U8 (wrap_i64 om_ om_) fl_<|Vs (z.tmod 20) U6 dc_ U3<|Uq U6<|UC (Pc _ B.m_ (z.tmod 20) (dT a) om_ om_ om_) U7 fl_<|UJ [fa (kW (z.tmod 20) (dT a))] U12 fun ad _ _ O=>D.append (j:=0) U11 O Z aw (by simp only [aU];omega) fl_ fun A=>C4 1 [2,3,5,6,7] b Z<|Un 1 Z fun R b=>Ux _ U7<|C4 1 [2,3,5,6,7] b Z<|UF (L':=[.arr A 56 1 ((fsK n ⟨h0,h1,h2,h3,h4,h5,a⟩).take (i+1)).length (((fsK n ⟨h0,h1,h2,h3,h4,h5,a⟩).take (i+1)).map fa).flatten]) (by rw [N,Rk,Rm,QO];rfl)<|UB (m':=n-(i+1)) om_ mup (hn_ [2,3,5,6,7] Z) ⟨i+1,A,om_,Z,Z,Z⟩
 have k:i=n:=by
  have:=QJ h;omega
 rw [show (fsK n ⟨h0,h1,h2,h3,h4,h5,a⟩).take i=fsK n ⟨h0,h1,h2,h3,h4,h5,a⟩ from Rr (by rw [k,uC];exact QG _)];exact Um 2 [4] Z<|G.freezeArr 0 ((fsK n ⟨h0,h1,h2,h3,h4,h5,a⟩).map fa) rfl rfl (by intro r hr;obtain ⟨y,_,rfl⟩:=QM.1 hr;rfl) (by rw [ax]) fun Cg hg Q=>Uu U2<|⟨Z,Q⟩
end Go.Proofs.YthnpijdjlddpmaaGreatDoor
