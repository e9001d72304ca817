/- Laws that the proofs of this seat share, part 10. -/
import Derived.Test.YthnpijdjlddpmaaGreatDoorG9
import Derived.Test.YthnpijdjlddpmaaGreatDoorShelf
set_option maxHeartbeats 4000000
namespace Go.Proofs.YthnpijdjlddpmaaGreatDoor
open Go.Proofs.Tryz
open Go Go.Jog
set_option maxRecDepth 100000
variable {B:Bk}{C:Mem}{RO:Nat->List RowQ}{err:Nat->Int}{fs:List Rat}{i k n:Nat}{o:Obs}{p:Pt}{r:RowQ}{t:Tri}{v:Value}{vs:List Value}{z:Rat}
theorem kb {l:List (Nat × Rat)}(q:Rat)(h:k ∉ l.map (·.1)):fT (eK l) ((k:Nat):Int) (ai (qtx q))=eK (l++[(k,q)]):=by
 rw [jV (by
  rw [cH];unfold eK;rw [Ry];intro hm;obtain ⟨x,a,b⟩:=QO.1 hm;have:x.1=k:=by
   have h2:((x.1:Nat):Int)=(k:Int):=b;omega
  exact h (this ▸ S5 (f:=(·.1)) a))]
 simp [eK]
theorem qV (a c:Pt):dJ a a c=0/\dJ c a a=0/\dJ a c a=0:=by
 unfold dJ;refine ⟨?_, ?_, ?_⟩ <;> grind
theorem tR {a:List Pt}{b:List Tri}(c:MeshOk a b)(d:t∈b):t.1≠t.2.1/\t.1≠t.2.2/\t.2.1≠t.2.2:=by
 have h:=jY c d;refine ⟨fun e=>h ?_,fun e=>h ?_,fun e=>h ?_⟩
 ·have:cor a t 1=cor a t 0:=by show a.getD t.2.1 _=a.getD t.1 _;rw [e]
  rw [this];exact (qV _ _).1
 ·have:cor a t 2=cor a t 0:=by show a.getD t.2.2 _=a.getD t.1 _;rw [e]
  rw [this];exact (qV _ _).2.2
 have:cor a t 2=cor a t 1:=by show a.getD t.2.2 _=a.getD t.2.1 _;rw [e]
 rw [this];exact (qV _ _).2.1
def atT (t:Tri)(f:Nat->Rat):List (Nat × Rat):=[(t.1,f 0),(t.2.1,f 1),(t.2.2,f 2)]
theorem qR (f:Nat->Rat)(h:t.1≠t.2.1/\t.1≠t.2.2/\t.2.1≠t.2.2):((atT t f).map (·.1)).Nodup:=by
 simp [atT,h.1,h.2.1,h.2.2]
theorem Ec (C:Mem)(w:Tabs C)(x:Value)(c:List Pt)(e:List Tri)(p:Pt)(i:Nat)(r:List Nat)(t:Tri)(y:MeshIn C x c e)(k:Good c e)(z:QP 23 p)(A:PtR p)(K:lS c e p=i::r)(g:e[i]?=some t)(L:∀ j,QB 22 (wgt c t p j)) :
  Pur cx.P 192 [x,ptV p] C fun u D=>∃ b,u=.tuple #[.map (some b),.int .i64 (i:Nat),.int .i64 0]/\D b=some (aR keyZ.enc (eK (atT t (wgt c t p)))):=by
 have M:=k.ok;have n:=y;have ad:=(aE.1 g).1;obtain ⟨N,O,Q⟩:=tR M (QF g);obtain ⟨v1,v2,rfl,h1,h2⟩:=id y.ex;obtain ⟨A2,c2,rfl,S,ae,_⟩:=id h2;have af:maxLen<=9223372036854775807:=by simp [maxLen]
 simp only [aw] at h2 n S ⊢;refine Uv func192 54 U3 fun w0=>Uq fun R a=>UF U6 fun b2=>UF U6 fun b3=>C4 3 [2,3] a Z<|G.freeze 1 Z fun _ _ o=>G.freeze 0 Z fun _ _ B=>Uq fun R a=>Un (bkT o 2) U8<|Un (bkT B 2) U8<|UV (pV _ w.m_ _ c e p n.m_ k z A) U7 (fun ah _ _ T=>?_);obtain ⟨wv,rfl,f⟩:=T;rw [K] at f;obtain ⟨U,V,E,_⟩:=id f;rw [aw] at E;subst E;refine C4 5 [2,3,6,7] a Z<|Ul 2 [2,3,6,7,18] Z<|Uo (fun F=>?_) fun F=>?_
 ·exact absurd F dc_
 refine UJ [0,1,2,3,4,5,6,7,8,9,10,11] [(5,1)] Z kr_ fun R H a=>Un (bkT o 2) U8<|Up U6<|UD f.m_ U10 om_ (rfl:(List.map aL (i::r))[0]?=some (aL i)) fl_ fun ai W=>Un W U8<|Un (bkT B 2) U8<|UU (fun _=>(Fj _ w.m_ _ c e p i t n.m_ k z A g L)) U9<|Us 3 Z<|UH U5 fun X=>Ux (j:=0) U12<|C4 1 [2,6,7,8] a Z<|Ul 2 [2,6,7,8,30] Z<|Uo (fun I=>?_) fun I=>?_
 ·exact absurd I dc_
 refine G.freeze 0 Z fun _ _ q=>Uq fun R a=>D.makeMap keyZ Z Z Z Z fl_ fun d=>C4 1 [2,4,7,8] a Z<|UJ [0,1,2,3,4,5,6,7] [] Z kr_ fun R H a=>Up U6<|Un (bkT o 1) U8<|Up U6<|UD f.m_ U10 om_ (rfl:(List.map aL (i::r))[0]?=some (aL i)) fl_ fun aj Y=>Un Y U8<|UD h2.m_ U10 om_ (ci g) fl_ fun ak aa=>Un aa U8<|C4 1 [4,7,8,39,40] a Z<|G.loop (fun fr C' h μ=>∃ (j:Nat),(j<=3)/\fr=[(4,[],.map (some d)),(7,[],.slice U (i::r).length V),(8,[],.pointer (some ⟨X,0,none⟩)),(39,[],.agg ⟨kM t⟩),(40,[],.int .i64 j)]/\h=[.obj d (aR keyZ.enc (eK ((atT t (wgt c t p)).take j)))]/\μ=3-j) (hn_ [4,7,8,39,40] Z) ⟨0,QK _,Z,Z,Z⟩ (fun fr al an m s hI=>?_);obtain ⟨j,hj,rfl,rfl,rfl⟩:=hI;refine Ul 1 [4,7,8,39,40,41] Z<|Uo (fun v=>?_) fun v=>?_
 ·have J:j<3:=by
   simp only [QQ] at v;omega
  rcases (by omega:j=0∨j=1∨j=2) with rfl | rfl | rfl
  ·refine Um 1 Z fun R a=>Vp U11 ag U2<|C4 2 [4,7,8,9,10,39,40] a Z<|Um 3 Z fun R a=>UL (_) U9 ag U2<|Un (bkT q 1) U8<|D.mapUpdate keyZ (j:=0) Z Z Z Z Z Z Z Z Z Z kr_<|Ur [4,7,8,39,40] a Z<|Uq fun R a=>Uw _ U7<|C4 1 [4,7,8,39,40] a Z<|UE (L':=[.obj d (aR keyZ.enc (eK ((atT t (wgt c t p)).take 1)))]) (congrArg (fun m=>[Ent.obj d (aR keyZ.enc m)]) (kb (l:=[]) _ am))<|UA (m':=2) om_ s (hn_ [4,7,8,39,40] Z) ⟨1,by decide,Z,Z,Z⟩
  ·refine Um 1 Z fun R a=>Vp U11 ag U2<|C4 2 [4,7,8,9,10,39,40] a Z<|Um 3 Z fun R a=>UL (_) U9 ag U2<|Un (bkT q 1) U8<|D.mapUpdate keyZ (j:=0) Z Z Z Z Z Z Z Z Z Z kr_<|Ur [4,7,8,39,40] a Z<|Uq fun R a=>Uw _ U7<|C4 1 [4,7,8,39,40] a Z<|UE (L':=[.obj d (aR keyZ.enc (eK ((atT t (wgt c t p)).take 2)))]) (congrArg (fun m=>[Ent.obj d (aR keyZ.enc m)]) (kb (l:=[(t.1,wgt c t p 0)]) _ (by simpa using N.symm)))<|UA (m':=1) om_ s (hn_ [4,7,8,39,40] Z) ⟨2,by decide,Z,Z,Z⟩
  refine Um 1 Z fun R a=>Vp U11 ag U2<|C4 2 [4,7,8,9,10,39,40] a Z<|Um 3 Z fun R a=>UL (_) U9 ag U2<|Un (bkT q 1) U8<|D.mapUpdate keyZ (j:=0) Z Z Z Z Z Z Z Z Z Z kr_<|Ur [4,7,8,39,40] a Z<|Uq fun R a=>Uw _ U7<|C4 1 [4,7,8,39,40] a Z<|UE (L':=[.obj d (aR keyZ.enc (eK ((atT t (wgt c t p)).take 3)))]) (congrArg (fun m=>[Ent.obj d (aR keyZ.enc m)]) (kb (l:=[(t.1,wgt c t p 0),(t.2.1,wgt c t p 1)]) _ (by simp [O.symm,Q.symm])))<|UA (m':=0) om_ s (hn_ [4,7,8,39,40] Z) ⟨3,by decide,Z,Z,Z⟩
 have J:j=3:=by
  simp only [Q1] at v;omega
 subst J;refine G.freeze 0 Z fun Cm ao ab=>UJ [0,1,2,3,4,5,6] [] Z kr_ fun R H a=>Us 2 Z<|UD f.m_ U10 om_ (rfl:(List.map aL (i::r))[0]?=some (aL i)) fl_ fun ap ac=>Un ac U8<|C4 3 [4,5,6] a Z<|Uz (G.dropAll (Vl U4 ?_));exact ⟨Z,d,Z,ab⟩
theorem dm (t:Tri)(f:Nat->Rat)(j:Nat)(a:j<3)(h:t.1≠t.2.1/\t.1≠t.2.2/\t.2.1≠t.2.2):fT (eK ((atT t f).take j)) ((mG t j:Nat):Int) (ai (qtx (f j)))=eK ((atT t f).take (j+1)):=by
 rcases (by omega:j=0∨j=1∨j=2) with rfl | rfl | rfl
 ·exact kb (l:=[]) _ am
 ·exact kb (l:=[(t.1,f 0)]) (k:=t.2.1) _ (by simpa using h.1.symm)
 exact kb (l:=[(t.1,f 0),(t.2.1,f 1)]) (k:=t.2.2) _ (by simp [h.2.1.symm,h.2.2.symm])
def nK (n k:Nat):List Rat:=rY n [(k,1)]
def slf (pts:List Pt)(t:Tri)(j:Nat):Pt:=dQ pts (nK pts.length (mG t j)) t
theorem gz (n k:Nat):(nK n k).length=n:=jP n _
theorem AE :∀ q∈nK n k,q=0∨q=1:=by
 intro q a;unfold nK rY at a;obtain ⟨j,_,rfl⟩:=QO.1 a;simp only [dq];split
 ·exact .inr Z
 exact .inl Z
theorem jJ :∀ q∈nK n k,QB 1 q:=by
 intro q a;rcases AE q a with rfl | rfl
 ·exact QB_zero
 exact QB_one
theorem D8 (C:Mem)(J:Tabs C)(N:Value)(a:List Pt)(s:List Tri)(i:Nat)(t:Tri)(O:MeshIn C N a s)(E:Good a s)(l:s[i]?=some t)(K:∀ j,QP 22 (slf a t j)) :
  Pur cx.P 198 [N,.int .i64 i] C fun u D=>∃ Q S,u=.tuple #[.map (some Q),.map (some S),.int .i64 0]/\D Q=some (aR keyZ.enc (eK (atT t fun j=>(slf a t j).1)))/\D S=some (aR keyZ.enc (eK (atT t fun j=>(slf a t j).2))):=by
 have L:=E.ok;have F:=O;have al:=L.lp;have H:=L.ins t (QF l);obtain ⟨am,an,ao⟩:=id H;have ap:=(aE.1 l).1;obtain ⟨f,g,h⟩:=tR L (QF l);obtain ⟨v1,v2,rfl,h1,h2⟩:=id O.ex;obtain ⟨A1,c1,rfl,aq,ar,_⟩:=id h1;obtain ⟨A2,c2,rfl,af,au,_⟩:=id h2;have av:maxLen<=9223372036854775807:=by simp [maxLen]
 simp only [aw] at h1 h2 F af ⊢;refine Uv func198 51 U3 fun w0=>Uq fun R b=>UF U6 fun I=>C4 3 [1,2] b Z<|G.freeze 0 Z fun _ _ n=>Uq fun R b=>D.makeMap keyZ Z Z Z Z fl_ fun c=>D.makeMap keyZ Z Z Z Z fl_ fun d=>C4 2 [1,2,4,5] b Z<|Um 1 Z fun R b=>Un (bkT n 1) U8<|Up U6<|UD h2.m_ U10 om_ (ci l) fl_ fun ax ah=>Un ah U8<|C4 1 [1,2,4,5,18,19] b Z<|G.perm (L':=[.obj c (aR keyZ.enc (eK [])),.obj d (aR keyZ.enc (eK []))]) (List.Perm.swap _ _ _)<|G.loop (fun fr C' e o=>∃ (j:Nat),(j<=3)/\fr=[(1,[],.int .i64 i),(2,[],.pointer (some ⟨I,0,none⟩)),(4,[],.map (some c)),(5,[],.map (some d)),(18,[],.agg ⟨kM t⟩),(19,[],.int .i64 j)]/\e=[.obj c (aR keyZ.enc (eK ((atT t fun j=>(slf a t j).1).take j))),.obj d (aR keyZ.enc (eK ((atT t fun j=>(slf a t j).2).take j)))]/\o=3-j) (hn_ [1,2,4,5,18,19] Z) ⟨0,QK _,Z,Z,Z⟩ (fun fr ay az m _ p=>?_);obtain ⟨j,hj,rfl,rfl,rfl⟩:=p;refine Ul 1 [1,2,4,5,18,19,20] Z<|Uo (fun M=>?_) fun M=>?_
 ·have T:j<3:=by
   simp only [QQ] at M;omega
  rcases (by omega:j=0∨j=1∨j=2) with rfl | rfl | rfl
  ·refine Uq fun R b=>Vp U11 ag U2<|C4 1 [1,2,4,5,8,18,19] b Z<|UN [(4,3)] Z fun R b=>UI [[ai [48]]] U12 fun U V _ v=>Up U6<|Un (bkT n 1) U8<|Up U6<|D.call (mQ _ _ a.length [48] v.m_ om_) Z (.inr dc_) U6 (QL _) fl_ fun W X Y _ w=>C4 1 [1,2,4,5,8,9,18,19] b Z ?_;obtain ⟨bz,rfl,rfl⟩:=w;have x:mG t 0<a.length:=eW H 0;refine UE (L':=[.arr (.slice (some ⟨bz,0,none⟩) a.length a.length) 56 1 a.length (lm a.length []),.obj c (aR keyZ.enc (eK ((atT t fun j=>(slf a t j).1).take 0))),.obj d (aR keyZ.enc (eK ((atT t fun j=>(slf a t j).2).take 0)))]) (by rw [mb];rfl)<|Um 2 Z fun R b=>UR ((mG t 0)) U10 (fun _=>⟨by omega,by omega,(SL _).symm⟩) U2<|UW (j:=0) U11 (by rw [me];simp;omega)<|Ur [1,2,4,5,8,9,18,19] b Z<|UE (L':=[.arr (.slice (some ⟨bz,0,none⟩) a.length a.length) 56 1 a.length (lm a.length [(mG t 0,1)]),.obj c (aR keyZ.enc (eK ((atT t fun j=>(slf a t j).1).take 0))),.obj d (aR keyZ.enc (eK ((atT t fun j=>(slf a t j).2).take 0)))]) (by rw [<- fx [] 1 x,dD];rfl)<|G.freezeArr 0 ((nK a.length (mG t 0)).map fe) rfl (jA _ _) (by intro r hr;obtain ⟨y,_,rfl⟩:=QO.1 hr;rfl) (by rw [aw,gz]) fun Cz hz z=>Uq fun R b=>Un (bkT n 2) U8<|Us 2 Z<|UC (tU _ J.m_ _ _ a s (nK a.length (mG t 0)) 1 dc_ dc_ F.m_ E z.m_ (gz _ _) jJ (fun q A=>bQ ((jJ q A).le dc_)) i t l (K 0)) U7 fl_<|Us 3 Z<|UH U5 fun aa=>Ux (j:=0) U12<|C4 1 [1,2,4,5,8,10,11,18,19] b Z<|Ul 2 [1,2,4,5,8,10,11,18,19,38] Z<|Uo (fun ab=>?_) fun ab=>?_
   ·exact absurd ab dc_
   refine G.freeze 0 Z fun ac _ k=>G.cut (fun fr C' e o=>(True)/\fr=[(1,[],.int .i64 i),(2,[],.pointer (some ⟨I,0,none⟩)),(4,[],.map (some c)),(5,[],.map (some d)),(18,[],.agg ⟨kM t⟩),(19,[],.int .i64 ((0:Nat):Int))]/\e=[.obj c (aR keyZ.enc (eK ((atT t fun j=>(slf a t j).1).take (0+1)))),.obj d (aR keyZ.enc (eK ((atT t fun j=>(slf a t j).2).take (0+1))))]) ?_ (fun fr aA aB o aC p=>?_)
   ·refine Vg (.cut [0,1,2,3,4,5,6] (.alt 7 (.fin [8,9]) (.alt 8 (.fin [7,9]) .stop))) [] Z Z kr_ fun R hB b B=>Us 5 Z<|Un (bkT k 1) U8<|Up U6<|UY B Z ⟨?_, ?_,trivial⟩
    ·refine Un (bkT k 1) U8 ?_
     first | refine D.mapUpdate keyZ (j:=0) rfl rfl rfl rfl rfl rfl rfl rfl rfl rfl kr_ ?_ | refine D.mapUpdate keyZ (j:=1) rfl rfl rfl rfl rfl rfl rfl rfl rfl rfl kr_ ?_
     first | refine D.mapUpdate keyZ (j:=1) rfl rfl rfl rfl rfl rfl rfl rfl rfl rfl kr_ ?_ | refine D.mapUpdate keyZ (j:=0) rfl rfl rfl rfl rfl rfl rfl rfl rfl rfl kr_ ?_
     refine Ur [1,2,4,5,18,19] b Z<|G.perm (L':=[.obj c (aR keyZ.enc (eK ((atT t fun j=>(slf a t j).1).take (0+1)))),.obj d (aR keyZ.enc (eK ((atT t fun j=>(slf a t j).2).take (0+1))))]) (by
      rw [<- dm t (fun j=>(slf a t j).1) 0 dc_ ⟨f,g,h⟩,<- dm t (fun j=>(slf a t j).2) 0 dc_ ⟨f,g,h⟩]
      first | exact QL _ | exact List.Perm.swap _ _ _) ?_
     exact UB 0 (Mem.le.refl _) (hn_ [1,2,4,5,18,19] Z) ⟨trivial,Z,Z⟩
    first | refine D.mapUpdate keyZ (j:=0) rfl rfl rfl rfl rfl rfl rfl rfl rfl rfl kr_ ?_ | refine D.mapUpdate keyZ (j:=1) rfl rfl rfl rfl rfl rfl rfl rfl rfl rfl kr_ ?_
    refine Un (bkT k 1) U8 ?_
    first | refine D.mapUpdate keyZ (j:=1) rfl rfl rfl rfl rfl rfl rfl rfl rfl rfl kr_ ?_ | refine D.mapUpdate keyZ (j:=0) rfl rfl rfl rfl rfl rfl rfl rfl rfl rfl kr_ ?_
    refine Ur [1,2,4,5,18,19] b Z<|G.perm (L':=[.obj c (aR keyZ.enc (eK ((atT t fun j=>(slf a t j).1).take (0+1)))),.obj d (aR keyZ.enc (eK ((atT t fun j=>(slf a t j).2).take (0+1))))]) (by
     rw [<- dm t (fun j=>(slf a t j).1) 0 dc_ ⟨f,g,h⟩,<- dm t (fun j=>(slf a t j).2) 0 dc_ ⟨f,g,h⟩]
     first | exact QL _ | exact List.Perm.swap _ _ _) ?_
    exact UB 0 (Mem.le.refl _) (hn_ [1,2,4,5,18,19] Z) ⟨trivial,Z,Z⟩
   obtain ⟨_,rfl,rfl⟩:=p;refine Uq fun R b=>Uw _ U7<|C4 1 [1,2,4,5,18,19] b Z<|UA (m':=2) om_ mup (hn_ [1,2,4,5,18,19] Z) ⟨1,by decide,Z,Z,Z⟩
  ·refine Uq fun R b=>Vp U11 ag U2<|C4 1 [1,2,4,5,8,18,19] b Z<|UN [(4,3)] Z fun R b=>UI [[ai [48]]] U12 fun U V _ v=>Up U6<|Un (bkT n 1) U8<|Up U6<|D.call (mQ _ _ a.length [48] v.m_ om_) Z (.inr dc_) U6 (QL _) fl_ fun W X Y _ w=>C4 1 [1,2,4,5,8,9,18,19] b Z ?_;obtain ⟨bz,rfl,rfl⟩:=w;have x:mG t 1<a.length:=eW H 1;refine UE (L':=[.arr (.slice (some ⟨bz,0,none⟩) a.length a.length) 56 1 a.length (lm a.length []),.obj c (aR keyZ.enc (eK ((atT t fun j=>(slf a t j).1).take 1))),.obj d (aR keyZ.enc (eK ((atT t fun j=>(slf a t j).2).take 1)))]) (by rw [mb];rfl)<|Um 2 Z fun R b=>UR ((mG t 1)) U10 (fun _=>⟨by omega,by omega,(SL _).symm⟩) U2<|UW (j:=0) U11 (by rw [me];simp;omega)<|Ur [1,2,4,5,8,9,18,19] b Z<|UE (L':=[.arr (.slice (some ⟨bz,0,none⟩) a.length a.length) 56 1 a.length (lm a.length [(mG t 1,1)]),.obj c (aR keyZ.enc (eK ((atT t fun j=>(slf a t j).1).take 1))),.obj d (aR keyZ.enc (eK ((atT t fun j=>(slf a t j).2).take 1)))]) (by rw [<- fx [] 1 x,dD];rfl)<|G.freezeArr 0 ((nK a.length (mG t 1)).map fe) rfl (jA _ _) (by intro r hr;obtain ⟨y,_,rfl⟩:=QO.1 hr;rfl) (by rw [aw,gz]) fun Cz hz z=>Uq fun R b=>Un (bkT n 2) U8<|Us 2 Z<|UC (tU _ J.m_ _ _ a s (nK a.length (mG t 1)) 1 dc_ dc_ F.m_ E z.m_ (gz _ _) jJ (fun q A=>bQ ((jJ q A).le dc_)) i t l (K 1)) U7 fl_<|Us 3 Z<|UH U5 fun aa=>Ux (j:=0) U12<|C4 1 [1,2,4,5,8,10,11,18,19] b Z<|Ul 2 [1,2,4,5,8,10,11,18,19,38] Z<|Uo (fun ad=>?_) fun ad=>?_
   ·exact absurd ad dc_
   refine G.freeze 0 Z fun ac _ k=>G.cut (fun fr C' e o=>(True)/\fr=[(1,[],.int .i64 i),(2,[],.pointer (some ⟨I,0,none⟩)),(4,[],.map (some c)),(5,[],.map (some d)),(18,[],.agg ⟨kM t⟩),(19,[],.int .i64 ((1:Nat):Int))]/\e=[.obj c (aR keyZ.enc (eK ((atT t fun j=>(slf a t j).1).take (1+1)))),.obj d (aR keyZ.enc (eK ((atT t fun j=>(slf a t j).2).take (1+1))))]) ?_ (fun fr aD aF o aG p=>?_)
   ·refine Vg (.cut [0,1,2,3,4,5,6] (.alt 7 (.fin [8,9]) (.alt 8 (.fin [7,9]) .stop))) [] Z Z kr_ fun R hB b B=>Us 5 Z<|Un (bkT k 1) U8<|Up U6<|UY B Z ⟨?_, ?_,trivial⟩
    ·refine Un (bkT k 1) U8 ?_
     first | refine D.mapUpdate keyZ (j:=0) rfl rfl rfl rfl rfl rfl rfl rfl rfl rfl kr_ ?_ | refine D.mapUpdate keyZ (j:=1) rfl rfl rfl rfl rfl rfl rfl rfl rfl rfl kr_ ?_
     first | refine D.mapUpdate keyZ (j:=1) rfl rfl rfl rfl rfl rfl rfl rfl rfl rfl kr_ ?_ | refine D.mapUpdate keyZ (j:=0) rfl rfl rfl rfl rfl rfl rfl rfl rfl rfl kr_ ?_
     refine Ur [1,2,4,5,18,19] b Z<|G.perm (L':=[.obj c (aR keyZ.enc (eK ((atT t fun j=>(slf a t j).1).take (1+1)))),.obj d (aR keyZ.enc (eK ((atT t fun j=>(slf a t j).2).take (1+1))))]) (by
      rw [<- dm t (fun j=>(slf a t j).1) 1 dc_ ⟨f,g,h⟩,<- dm t (fun j=>(slf a t j).2) 1 dc_ ⟨f,g,h⟩]
      first | exact QL _ | exact List.Perm.swap _ _ _) ?_
     exact UB 0 (Mem.le.refl _) (hn_ [1,2,4,5,18,19] Z) ⟨trivial,Z,Z⟩
    first | refine D.mapUpdate keyZ (j:=0) rfl rfl rfl rfl rfl rfl rfl rfl rfl rfl kr_ ?_ | refine D.mapUpdate keyZ (j:=1) rfl rfl rfl rfl rfl rfl rfl rfl rfl rfl kr_ ?_
    refine Un (bkT k 1) U8 ?_
    first | refine D.mapUpdate keyZ (j:=1) rfl rfl rfl rfl rfl rfl rfl rfl rfl rfl kr_ ?_ | refine D.mapUpdate keyZ (j:=0) rfl rfl rfl rfl rfl rfl rfl rfl rfl rfl kr_ ?_
    refine Ur [1,2,4,5,18,19] b Z<|G.perm (L':=[.obj c (aR keyZ.enc (eK ((atT t fun j=>(slf a t j).1).take (1+1)))),.obj d (aR keyZ.enc (eK ((atT t fun j=>(slf a t j).2).take (1+1))))]) (by
     rw [<- dm t (fun j=>(slf a t j).1) 1 dc_ ⟨f,g,h⟩,<- dm t (fun j=>(slf a t j).2) 1 dc_ ⟨f,g,h⟩]
     first | exact QL _ | exact List.Perm.swap _ _ _) ?_
    exact UB 0 (Mem.le.refl _) (hn_ [1,2,4,5,18,19] Z) ⟨trivial,Z,Z⟩
   obtain ⟨_,rfl,rfl⟩:=p;refine Uq fun R b=>Uw _ U7<|C4 1 [1,2,4,5,18,19] b Z<|UA (m':=1) om_ mup (hn_ [1,2,4,5,18,19] Z) ⟨2,by decide,Z,Z,Z⟩
  refine Uq fun R b=>Vp U11 ag U2<|C4 1 [1,2,4,5,8,18,19] b Z<|UN [(4,3)] Z fun R b=>UI [[ai [48]]] U12 fun U V _ v=>Up U6<|Un (bkT n 1) U8<|Up U6<|D.call (mQ _ _ a.length [48] v.m_ om_) Z (.inr dc_) U6 (QL _) fl_ fun W X Y _ w=>C4 1 [1,2,4,5,8,9,18,19] b Z ?_;obtain ⟨bz,rfl,rfl⟩:=w;have x:mG t 2<a.length:=eW H 2;refine UE (L':=[.arr (.slice (some ⟨bz,0,none⟩) a.length a.length) 56 1 a.length (lm a.length []),.obj c (aR keyZ.enc (eK ((atT t fun j=>(slf a t j).1).take 2))),.obj d (aR keyZ.enc (eK ((atT t fun j=>(slf a t j).2).take 2)))]) (by rw [mb];rfl)<|Um 2 Z fun R b=>UR ((mG t 2)) U10 (fun _=>⟨by omega,by omega,(SL _).symm⟩) U2<|UW (j:=0) U11 (by rw [me];simp;omega)<|Ur [1,2,4,5,8,9,18,19] b Z<|UE (L':=[.arr (.slice (some ⟨bz,0,none⟩) a.length a.length) 56 1 a.length (lm a.length [(mG t 2,1)]),.obj c (aR keyZ.enc (eK ((atT t fun j=>(slf a t j).1).take 2))),.obj d (aR keyZ.enc (eK ((atT t fun j=>(slf a t j).2).take 2)))]) (by rw [<- fx [] 1 x,dD];rfl)<|G.freezeArr 0 ((nK a.length (mG t 2)).map fe) rfl (jA _ _) (by intro r hr;obtain ⟨y,_,rfl⟩:=QO.1 hr;rfl) (by rw [aw,gz]) fun Cz hz z=>Uq fun R b=>Un (bkT n 2) U8<|Us 2 Z<|UC (tU _ J.m_ _ _ a s (nK a.length (mG t 2)) 1 dc_ dc_ F.m_ E z.m_ (gz _ _) jJ (fun q A=>bQ ((jJ q A).le dc_)) i t l (K 2)) U7 fl_<|Us 3 Z<|UH U5 fun aa=>Ux (j:=0) U12<|C4 1 [1,2,4,5,8,10,11,18,19] b Z<|Ul 2 [1,2,4,5,8,10,11,18,19,38] Z<|Uo (fun ae=>?_) fun ae=>?_
  ·exact absurd ae dc_
  refine G.freeze 0 Z fun ac _ k=>G.cut (fun fr C' e o=>(True)/\fr=[(1,[],.int .i64 i),(2,[],.pointer (some ⟨I,0,none⟩)),(4,[],.map (some c)),(5,[],.map (some d)),(18,[],.agg ⟨kM t⟩),(19,[],.int .i64 ((2:Nat):Int))]/\e=[.obj c (aR keyZ.enc (eK ((atT t fun j=>(slf a t j).1).take (2+1)))),.obj d (aR keyZ.enc (eK ((atT t fun j=>(slf a t j).2).take (2+1))))]) ?_ (fun fr aH aI o aJ p=>?_)
  ·refine Vg (.cut [0,1,2,3,4,5,6] (.alt 7 (.fin [8,9]) (.alt 8 (.fin [7,9]) .stop))) [] Z Z kr_ fun R hB b B=>Us 5 Z<|Un (bkT k 1) U8<|Up U6<|UY B Z ⟨?_, ?_,trivial⟩
   ·refine Un (bkT k 1) U8 ?_
    first | refine D.mapUpdate keyZ (j:=0) rfl rfl rfl rfl rfl rfl rfl rfl rfl rfl kr_ ?_ | refine D.mapUpdate keyZ (j:=1) rfl rfl rfl rfl rfl rfl rfl rfl rfl rfl kr_ ?_
    first | refine D.mapUpdate keyZ (j:=1) rfl rfl rfl rfl rfl rfl rfl rfl rfl rfl kr_ ?_ | refine D.mapUpdate keyZ (j:=0) rfl rfl rfl rfl rfl rfl rfl rfl rfl rfl kr_ ?_
    refine Ur [1,2,4,5,18,19] b Z<|G.perm (L':=[.obj c (aR keyZ.enc (eK ((atT t fun j=>(slf a t j).1).take (2+1)))),.obj d (aR keyZ.enc (eK ((atT t fun j=>(slf a t j).2).take (2+1))))]) (by
     rw [<- dm t (fun j=>(slf a t j).1) 2 dc_ ⟨f,g,h⟩,<- dm t (fun j=>(slf a t j).2) 2 dc_ ⟨f,g,h⟩]
     first | exact QL _ | exact List.Perm.swap _ _ _) ?_
    exact UB 0 (Mem.le.refl _) (hn_ [1,2,4,5,18,19] Z) ⟨trivial,Z,Z⟩
   first | refine D.mapUpdate keyZ (j:=0) rfl rfl rfl rfl rfl rfl rfl rfl rfl rfl kr_ ?_ | refine D.mapUpdate keyZ (j:=1) rfl rfl rfl rfl rfl rfl rfl rfl rfl rfl kr_ ?_
   refine Un (bkT k 1) U8 ?_
   first | refine D.mapUpdate keyZ (j:=1) rfl rfl rfl rfl rfl rfl rfl rfl rfl rfl kr_ ?_ | refine D.mapUpdate keyZ (j:=0) rfl rfl rfl rfl rfl rfl rfl rfl rfl rfl kr_ ?_
   refine Ur [1,2,4,5,18,19] b Z<|G.perm (L':=[.obj c (aR keyZ.enc (eK ((atT t fun j=>(slf a t j).1).take (2+1)))),.obj d (aR keyZ.enc (eK ((atT t fun j=>(slf a t j).2).take (2+1))))]) (by
    rw [<- dm t (fun j=>(slf a t j).1) 2 dc_ ⟨f,g,h⟩,<- dm t (fun j=>(slf a t j).2) 2 dc_ ⟨f,g,h⟩]
    first | exact QL _ | exact List.Perm.swap _ _ _) ?_
   exact UB 0 (Mem.le.refl _) (hn_ [1,2,4,5,18,19] Z) ⟨trivial,Z,Z⟩
  obtain ⟨_,rfl,rfl⟩:=p;refine Uq fun R b=>Uw _ U7<|C4 1 [1,2,4,5,18,19] b Z<|UA (m':=0) om_ mup (hn_ [1,2,4,5,18,19] Z) ⟨3,by decide,Z,Z,Z⟩
 have T:j=3:=by
  simp only [Q1] at M;omega
 subst T;refine G.freeze 0 Z fun Cm aL aj=>G.freeze 0 Z fun Cn aM ak=>Ul 5 [4,5,6] Z<|Uz (G.dropAll (Vl U4 ?_));exact ⟨Z,c,d,Z,Mem.get aj mup,ak⟩
theorem qL (C:Mem)(v:Value)(l:List Rat)(b:Sl C 1 v (l.map fe))(t:l.length<=1000000):Jog.Fn cx.P 173 [v] C [] fun u _w e=>∃ A n c,u=.slice A n c/\e=[.arr (.slice A n c) 56 1 l.length (l.map fe).flatten]:=by
 obtain ⟨f,c0,rfl,m,x,y,o⟩:=id b;have z:maxLen<=9223372036854775807:=by simp [maxLen]
 simp only [aw] at b m ⊢;refine Uv func173 8 U3 fun w0=>Ul 1 [0] Z<|Um 1 Z fun R d=>V0 U9<|Ur [0,4] d Z<|Uo (fun h4=>?_) fun h4=>?_
 ·have p:f=none:=by
   cases f with
   | none=>rfl
   | some a=>cases h4
  have s:l=[]:=by
   cases l with
   | nil=>rfl
   | cons q r =>
    obtain ⟨a,g,_⟩:=o 0 (fe q) rfl;rw [p] at g;cases g
  refine Ul 1 [2] Z<|G.nilArr 56 1<|Uz (UZ Z Z ?_);exact ⟨none,0,0,Z,by rw [s];rfl⟩
 refine Uq fun R d=>Vy [] U12 fl_ fun B=>Up U6<|UP (j:=0) U11 b.m_ (by simp [fe,nN,ai]) (by simp only [aw,Rq,maxLen];omega) (by simp only [aw,Rq];omega) fl_ fun h i k=>C4 1 [2] d Z<|UE (L':=[.arr (.slice h i k) 56 1 l.length (l.map fe).flatten]) am<|Uz (UZ Z Z ?_);exact ⟨h,i,k,Z,Z⟩
def Oh (r:RowQ):Prop:=(∀ q∈r.f,QB 22 q)/\QB 22 r.b
theorem kQ {a:List RowQ}{w:Value}(c:vs[i]?=some w)(d:a[i]?=some r):(aU vs a)[i]?=some [w,ai (qtx r.b)]:=by
 unfold aU;rw [List.getElem?_zipWith,c,d]
theorem Ee (C:Mem)(hT:Tabs C)(v:Value)(a:List RowQ)(hv:RowsIn C v a)(e:∀ r∈a,Oh r)(ac:∀ r∈a,r.f.length<=1000)(an:a.length<=100000) :
  Gives cx.P 200 [v] C (.tuple #[v,.int .i64 0]):=by
 obtain ⟨vs,z,A⟩:=hv;obtain ⟨l,c0,rfl,ad,ao,_⟩:=id A;have ap:maxLen<=9223372036854775807:=by simp [maxLen]
 simp only [dA z.1] at A ad ⊢;refine Uv func200 32 U3 fun w0=>Ul 2 [0] Z<|Ul 3 [0,8,9,10] Z<|G.loop (fun fr C' n o=>∃ (i:Nat),(i<=a.length)/\fr=[(0,[],.slice l a.length c0),(8,[],.slice l a.length c0),(9,[],.int .i64 a.length),(10,[],.int .i64 i)]/\n=[]/\o=a.length-i) (hn_ [0,8,9,10] Z) ⟨0,QK _,Z,Z,Z⟩ (fun fr aq ar m _ p=>?_);obtain ⟨i,hi,rfl,rfl,rfl⟩:=p;refine Ul 1 [0,8,9,10,11] Z<|Uo (fun H=>?_) fun H=>?_
 ·have I:i<a.length:=by simpa using H
  obtain ⟨r,B⟩:∃ r,a[i]?=some r:=⟨a[i],aj I⟩;obtain ⟨w,J⟩:∃ w,vs[i]?=some w:=⟨vs[i]'(by rw [z.1];exact I),aj _⟩;have K:=QF B;obtain ⟨ae,af⟩:=e r K;have au:=ac r K;have av:(r.f++[r.b]).length<=1001:=by simp;omega
  have x:=z.2 i w r J B;obtain ⟨Aw,cw,rfl,_⟩:=id x;refine Uq fun R c=>UD A.m_ U10 om_ (kQ J B) fl_ fun ay ag=>Un ag U8<|UH U5 fun b5=>Ux (j:=0) U12<|Ur [0,5,8,9,10] c Z<|G.freeze 0 Z fun _ _ E=>G.cut (fun fr C' n o=>∃ (g:Option Addr)(k:Nat),(Sl C' 1 (.slice g (r.f++[r.b]).length k) ((r.f++[r.b]).map fe))/\fr=[(0,[],.slice l a.length c0),(8,[],.slice l a.length c0),(9,[],.int .i64 a.length),(10,[],.int .i64 i),(20,[],.slice g (r.f++[r.b]).length k),(21,[],.int .i64 (r.f++[r.b]).length),(22,[],.int .i64 0)]/\n=[]) ?_ (fun fr az aA o aB p=>?_)
  ·refine Vg (.cut [0,1,3,8] (.alt 2 (.fin [4,5,6,7]) (.alt 4 (.cut [] (.alt 2 (.fin [5,6,7]) (.alt 5 (.fin [2,6,7]) .stop))) .stop))) [(2,3)] Z Z kr_ fun R hB c L=>Up U6<|Un (bkT E 1) U8<|Us 2 Z<|UY L Z ⟨?_, ?_,trivial⟩
   ·refine D.call (qL _ _ r.f x.m_ om_) Z (.inr dc_) U6 (QL _) fl_ fun M N O _ s=>Un (bkT E 1) U8<|UI [fe r.b] U12 (fun Q S _ t=>?_);obtain ⟨T,U,cc,rfl,rfl⟩:=s;refine UP (j:=0) U11 t.m_ (by simp [fe,nN,ai]) ax (by simp only [aK];omega) fl_ fun g V k=>C4 1 [0,8,9,10,20,21,22] c Z<|G.freezeArr 0 ((r.f++[r.b]).map fe) rfl am (by intro r e;obtain ⟨y,_,rfl⟩:=QO.1 e;rfl) am (fun W X d=>?_);obtain ⟨Y,cz,u,_⟩:=id d;cases u
    simp only [aw] at d ⊢;exact G.dropAll<|UB 0 mup (hn_ [0,8,9,10,20,21,22] Z) ⟨_,_,d,Z,Z⟩
   refine Un (bkT E 1) U8<|UY L Z ⟨?_, ?_,trivial⟩
   ·refine D.call (qL _ _ r.f x.m_ om_) Z (.inr dc_) U6 (QL _) fl_ fun M N O _ s=>UI [fe r.b] U12 (fun Q S _ t=>?_);obtain ⟨T,U,cc,rfl,rfl⟩:=s;refine UP (j:=0) U11 t.m_ (by simp [fe,nN,ai]) ax (by simp only [aK];omega) fl_ fun g V k=>C4 1 [0,8,9,10,20,21,22] c Z<|G.freezeArr 0 ((r.f++[r.b]).map fe) rfl am (by intro r e;obtain ⟨y,_,rfl⟩:=QO.1 e;rfl) am (fun W X d=>?_);obtain ⟨Y,cz,u,_⟩:=id d;cases u
    simp only [aw] at d ⊢;exact G.dropAll<|UB 0 mup (hn_ [0,8,9,10,20,21,22] Z) ⟨_,_,d,Z,Z⟩
   refine UI [fe r.b] U12 fun Q S _ t=>D.call (qL _ _ r.f x.m_ om_) Z (.inr dc_) U6 (QL _) fl_ (fun M N O _ s=>?_);obtain ⟨T,U,cc,rfl,rfl⟩:=s;refine UP (j:=0) U11 t.m_ (by simp [fe,nN,ai]) ax (by simp only [aK];omega) fl_ fun g V k=>C4 1 [0,8,9,10,20,21,22] c Z<|G.freezeArr 0 ((r.f++[r.b]).map fe) rfl am (by intro r e;obtain ⟨y,_,rfl⟩:=QO.1 e;rfl) am (fun W X d=>?_);obtain ⟨Y,cz,u,_⟩:=id d;cases u
   simp only [aw] at d ⊢;exact G.dropAll<|UB 0 mup (hn_ [0,8,9,10,20,21,22] Z) ⟨_,_,d,Z,Z⟩
  obtain ⟨g,k,ah,rfl,rfl⟩:=p;refine G.loop (fun fr C' n o=>∃ (j:Nat),(j<=(r.f++[r.b]).length)/\fr=[(0,[],.slice l a.length c0),(8,[],.slice l a.length c0),(9,[],.int .i64 a.length),(10,[],.int .i64 i),(20,[],.slice g (r.f++[r.b]).length k),(21,[],.int .i64 (r.f++[r.b]).length),(22,[],.int .i64 j)]/\n=[]/\o=(r.f++[r.b]).length-j) (hn_ [0,8,9,10,20,21,22] Z) ⟨0,QK _,Z,Z,Z⟩ (fun fr aC aD m _ p=>?_);obtain ⟨j,hj,rfl,rfl,rfl⟩:=p;refine Ul 1 [0,8,9,10,20,21,22,23] Z<|Uo (fun aa=>?_) fun aa=>?_
  ·have ak:j<(r.f++[r.b]).length:=by
    have:=aW aa;omega
   obtain ⟨q,hq⟩:∃ q,(r.f++[r.b])[j]?=some q:=⟨(r.f++[r.b])[j],aj ak⟩;have ab:QB 22 q:=by
    rcases QX.1 (QF hq) with h | h
    ·exact ae q h
    rw [Q3.1 h];exact af
   refine Uq fun R c=>UD ah.m_ U10 om_ (ci hq) fl_ fun aE al=>Un al U8<|C4 1 [0,7,8,9,10,20,21,22] c Z<|Um 1 Z fun R c=>Uy (dY _ hT.m_ _ (ua ab)) U7<|C4 1 [0,8,9,10,20,21,22,28] c Z<|Uo (fun F=>?_) fun F=>?_
   ·exfalso;rw [xC ab] at F;exact absurd F dc_
   refine Uq fun R c=>Uw _ U7<|C4 1 [0,8,9,10,20,21,22] c Z<|UA (m':=(r.f++[r.b]).length-(j+1)) om_ mup (hn_ [0,8,9,10,20,21,22] Z) ⟨j+1,om_,Z,Z,Z⟩
  refine Uq fun R c=>Uw _ U7<|C4 1 [0,8,9,10] c Z<|UA (m':=a.length-(i+1)) om_ mup (hn_ [0,8,9,10] Z) ⟨i+1,om_,Z,Z,Z⟩
 refine Ul 3 [2,3] Z<|Uz (G.dropAll (UO U3 ?_));exact ⟨Z,Z⟩
def iL (s p k:Nat)(fm:List (Nat × Rat))(b sg:Rat):RowQ:=⟨Jc s p k fm sg,sg*b⟩
theorem jF (C:Mem)(N:Tabs C)(s p d b g v:Nat)(c:List (Nat × Rat))(e:Rat)(a:List Rat)(H w:Value)(n:List Value)(f:List RowQ)(ah:s*p<=60)(O:d<s)(Q:C v=some (.cells ⟨[.int .i64 (s:Nat),.int .i64 (p:Nat)]⟩ 142 (0,0)))(S:C b=some (aR keyZ.enc (eK c)))(T:(c.map (·.1)).Nodup)(U:∀ x∈c,x.1<p)(V:∀ x∈c,QB 23 x.2)(W:QB 23 e)
  (y:Sl C 1 H (a.map fe)) (X:∀ q∈a,QB 1 q) (ak:a.length<=2) (Y:RowsOk C n f) (al:f.length<=10000) :
  Jog.Fn cx.P 195 [.int .i64 d,.map (some b),ai (qtx e),H,.pointer (some ⟨g,0,none⟩),.pointer (some ⟨v,0,none⟩)] C [.obj g (.cells ⟨[w]⟩ 78 (0,0)),.arr w 123 2 f.length (aU n f).flatten]
   fun u C' k=>∃ I w',u=.tuple #[]/\k=[.obj g (.cells ⟨[w']⟩ 78 (0,0)),.arr w' 123 2 (f++a.map (iL s p d c e)).length (aU I (f++a.map (iL s p d c e))).flatten]/\RowsOk C' I (f++a.map (iL s p d c e)):=by
 obtain ⟨A0,c0,rfl,aa,an,_⟩:=id y;have ao:maxLen<=9223372036854775807:=by simp [maxLen]
 simp only [aw] at y aa ⊢;refine Uv func195 28 U3 fun w0=>Ul 3 [0,1,2,4,5,12,13,14] Z<|UE (L':=[.obj g (.cells ⟨[w]⟩ 78 (0,0)),.arr w 123 2 (f++(a.take 0).map (iL s p d c e)).length (aU n (f++(a.take 0).map (iL s p d c e))).flatten]) am<|G.loop (fun fr C' k μ=>∃ (i:Nat)(h:List Value)(o:Value),(i<=a.length/\RowsOk C' h (f++(a.take i).map (iL s p d c e)))/\fr=[(0,[],.int .i64 d),(1,[],.map (some b)),(2,[],ai (qtx e)),(4,[],.pointer (some ⟨g,0,none⟩)),(5,[],.pointer (some ⟨v,0,none⟩)),(12,[],.slice A0 a.length c0),(13,[],.int .i64 a.length),(14,[],.int .i64 i)]/\k=[.obj g (.cells ⟨[o]⟩ 78 (0,0)),.arr o 123 2 (f++(a.take i).map (iL s p d c e)).length (aU h (f++(a.take i).map (iL s p d c e))).flatten]/\μ=a.length-i) (hn_ [0,1,2,4,5,12,13,14] Z) ⟨0,n,w,⟨QK _,by simpa using Y⟩,Z,Z,Z⟩ (fun fr ap aq m _ hI=>?_);obtain ⟨i,h,o,⟨hi,t⟩,rfl,rfl,rfl⟩:=hI;refine Ul 1 [0,1,2,4,5,12,13,14,15] Z<|Uo (fun z=>?_) fun z=>?_
 ·have A:i<a.length:=by simpa using z
  obtain ⟨sg,B⟩:∃ sg,a[i]?=some sg:=⟨a[i],aj A⟩;have ab:=X sg (QF B);have ar:(f++(a.take i).map (iL s p d c e)).length<=10002:=by
   rw [QM,aw,QW];omega
  have J:f++(a.take (i+1)).map (iL s p d c e)=f++(a.take i).map (iL s p d c e)++[iL s p d c e sg]:=by
   rw [Q5,B];simp
  refine Uq fun R l=>UD y.m_ U10 om_ (ci B) fl_ fun au ac=>Un ac U8<|C4 1 [0,1,2,4,5,11,12,13,14] l Z<|UJ [0,1,2,3,4,5,6,7,8,9] [] Z kr_ fun R hB l=>Uu af U9<|Un (bkT Q 2) U8<|Us 4 Z<|UT (OR _ N.m_ s p d b c sg e 23 dc_ dc_ om_ O (Mem.get S mup) T U V (ab.le dc_) W) U7 fl_ (fun av _ _ ad=>?_);obtain ⟨fv,rfl,D⟩:=ad;obtain ⟨E,F,rfl,_⟩:=id D;simp only [aw] at D ⊢;refine UI [[.slice E (Jc s p d c sg).length F,ai (qtx (sg*e))]] U12 fun ay _ _ ae=>UP (j:=1) U11 ae.m_ Z ax (by simp only [aK];omega) fl_ fun K L M=>Ux (j:=1) U12<|Ur [0,1,2,4,5,12,13,14] l Z<|Uq fun R l=>Uw _ U7<|C4 1 [0,1,2,4,5,12,13,14] l Z ?_;have ag:=RowsOk.snoc (r:=iL s p d c e sg) t.m_ D;refine UE (L':=[.obj g (.cells ⟨[.slice K L M]⟩ 78 (0,0)),.arr (.slice K L M) 123 2 (f++(a.take (i+1)).map (iL s p d c e)).length (aU (h++[.slice E (Jc s p d c sg).length F]) (f++(a.take (i+1)).map (iL s p d c e))).flatten]) (by rw [J,fj t.1];simp [iL,az];omega)<|UA (m':=a.length-(i+1)) om_ mup (hn_ [0,1,2,4,5,12,13,14] Z) ⟨i+1,h++[.slice E (Jc s p d c sg).length F],_,⟨by omega,by rw [J];exact ag.mono mup⟩,Z,Z,Z⟩
 have A:i=a.length:=by
  have:¬ i<a.length:=by simpa using z
  omega
 rw [A,QV] at t ⊢;exact Vx Z<|⟨h,o,Z,Z,t.mono mup⟩
noncomputable def qC (o:Obs):Rat:=-dC o.nx / dC o.nz
noncomputable def jp (o:Obs):Rat:=-dC o.ny / dC o.nz
def upN (B:Bk)(o:Obs):Nat:=(kA (isU o.upper) B.col 0).toNat
noncomputable def rowsO (B:Bk)(o:Obs)(p:Pt)(t:Tri)(z:Rat):List RowQ :=
 if o.kind=1 then (if 0<upN B o then [iL (bs B) (bp B) (upN B o-1) (atT t (wgt B.pts t p)) (kK o z) 1] else [])++(if upN B o<bs B then [iL (bs B) (bp B) (upN B o) (atT t (wgt B.pts t p)) (kK o z) (-1)] else [])
 else if o.kind=2 then (cI B.col o).flatMap fun k=>[1, -1].map (iL (bs B) (bp B) k (atT t (wgt B.pts t p)) (kK o z))
 else (cI B.col o).flatMap fun k=>[1, -1].map (iL (bs B) (bp B) k (atT t fun j=>(slf B.pts t j).1) (qC o))++[1, -1].map (iL (bs B) (bp B) k (atT t fun j=>(slf B.pts t j).2) (jp o))
structure Fine (B:Bk)(fs:List Rat)(o:Obs)(p:Pt)(ti:Nat)(t:Tri)(z:Rat):Prop where
 place:ObsAt o p
 loc:∃ r,lS B.pts B.tris p=ti::r
 tri:B.tris[ti]?=some t
 val:EP B.pts B.tris fs p=.tuple #[ai (qtx z),.int .i64 0]
 qz:QB 22 z
 qh:QB 22 (kK o z)
 w:∀ j,QB 22 (wgt B.pts t p j)
 up:0<=kA (isU o.upper) B.col 0
 sl:∀ j,QP 22 (slf B.pts t j)
 nr:o.kind≠1->o.kind≠2->(aX o.nx=true/\aX o.ny=true/\aX o.nz=true)/\QB 11 (dC o.nx)/\QB 11 (dC o.ny)/\QB 11 (dC o.nz)/\dC o.nz≠0
 rows:∀ r∈rowsO B o p t z,Oh r
theorem OK (h:Sl C 1 v [[ai [49]]]):Sl C 1 v (([1]:List Rat).map fe):=by rw [<- dD] at h;exact h
theorem OL (h:Sl C 1 v [[ai [45,49]]]):Sl C 1 v (([-1]:List Rat).map fe):=by rw [<- cU] at h;exact h
theorem Fm (h:Sl C 1 v [[ai [49]],[ai [45,49]]]):Sl C 1 v (([1, -1]:List Rat).map fe):=by rw [<- cU,<- dD] at h;exact h
theorem OD:∀ q∈([1]:List Rat),QB 1 q:=by simp;exact QB_one
theorem OE:∀ q∈([-1]:List Rat),QB 1 q:=by simp;exact mT
theorem rS:∀ q∈([1, -1]:List Rat),QB 1 q:=by
 intro q a;simp only [QU,RV,S9] at a;rcases a with rfl | rfl
 ·exact QB_one
 exact mT
theorem gp {f:Nat->Rat}{P:Nat × Rat->Prop}(b:P (t.1,f 0))(c:P (t.2.1,f 1))(d:P (t.2.2,f 2)):∀ x∈atT t f,P x:=by
 intro x a;simp only [atT,QU,RV,S9] at a;rcases a with rfl | rfl | rfl <;> assumption
theorem IK {a b:Int}(h:k∈vR a b n):k<n:=by
 unfold vR at h;rw [SH,Q2] at h;exact h.1
theorem jz {a b:Type}(f:a->List b){l:List a}{j:Nat}{x:a}(h:l[j]?=some x):(l.take (j+1)).flatMap f=(l.take j).flatMap f++f x:=by
 rw [Q5,h,List.flatMap_append];simp
theorem fM {a b:Type}{f:a->List b}{c:Nat}(h:∀ x,(f x).length=c):∀ l:List a,(l.flatMap f).length=c*l.length
 | []=>by simp
 | x::l=>by rw [List.flatMap_cons,QM,h,fM h l,QY,Nat.mul_succ,Tc]
theorem Bb :∀ r∈rowsO B o p t z,r.f.length=bs B*bp B:=by
 have a:∀ k d b sg,(iL (bs B) (bp B) k d b sg).f.length=bs B*bp B:=fun k d b sg=>jP _ _;intro r hr;unfold rowsO at hr;split at hr
 ·rcases QX.1 hr with h | h
  ·split at h
   ·rw [Q3.1 h];exact a _ _ _ _
   cases h
  split at h
  ·rw [Q3.1 h];exact a _ _ _ _
  cases h
 split at hr
 ·obtain ⟨k,_,c⟩:=List.mem_flatMap.1 hr;obtain ⟨sg,_,rfl⟩:=QO.1 c;exact a _ _ _ _
 obtain ⟨k,_,c⟩:=List.mem_flatMap.1 hr;rcases QX.1 c with h | h
 ·obtain ⟨sg,_,rfl⟩:=QO.1 h;exact a _ _ _ _
 obtain ⟨sg,_,rfl⟩:=QO.1 h;exact a _ _ _ _
theorem wi (h:(cI B.col o).length<=60):(rowsO B o p t z).length<=240:=by
 unfold rowsO;split
 ·rw [QM];have h1:∀ (c:Prop)[Decidable c] (r:RowQ),(if c then [r] else []).length<=1:=fun c _ r=>by split <;> simp
  have:=h1 (0<upN B o) (iL (bs B) (bp B) (upN B o-1) (atT t (wgt B.pts t p)) (kK o z) 1);have:=h1 (upN B o<bs B) (iL (bs B) (bp B) (upN B o) (atT t (wgt B.pts t p)) (kK o z) (-1));omega
 split
 ·rw [fM (c:=2) (fun k=>by simp)];omega
 rw [fM (c:=4) (fun k=>by simp)];omega
theorem MF (C:Mem)(d:Tabs C)(bv:Value)(B:Bk)(fs:List Rat)(i:Nat)(o:Obs)(p:Pt)(ti:Nat)(t:Tri)(z:Rat)(L:BookIn C bv B)(Q:Good B.pts B.tris)(al:BookR B)(aM:iH B=0)(hF:Terr B fs)(U:B.obs[i]?=some o)(b:Fine B fs o p ti t z)(S:bs B*bp B<=60)(a5:tf B.col=0)(bT:bs B+1=B.col.length)(bU:B.col.length<=60) :
  Pur cx.P 128 [gE (bs B) (bp B),bv,.int .i64 i] C fun u D=>∃ v,u=.tuple #[v,.int .i64 0]/\RowsIn D v (rowsO B o p t z):=by
 have am:=L;have hM:=Q.ok;obtain ⟨r,a6⟩:=b.loc;have aN:=QF b.tri;have l:=hM.ins t aN;have an:=tR hM aN;have bV:=(aE.1 U).1;have V:=b.place;obtain ⟨u,W⟩:∃ u:Nat,kA (isU o.upper) B.col 0=(u:Nat):=⟨_,(Int.toNat_of_nonneg b.up).symm⟩;have a7:upN B o=u:=by unfold upN;rw [W];rfl
 have bW:u<B.col.length:=by
  rcases mY (isU o.upper) B.col with ⟨h,_⟩ | ⟨k,x,h,h2,_⟩
  ·rw [W] at h;omega
  have:=(aE.1 h2).1;rw [W] at h;omega
 have ao:=qR (wgt B.pts t p) an;have ap:∀ x∈atT t (wgt B.pts t p),x.1<bp B:=gp (P:=fun x=>x.1<bp B) l.1 l.2.1 l.2.2;have aq:∀ x∈atT t (wgt B.pts t p),QB 23 x.2:=gp (P:=fun x=>QB 23 x.2) ((b.w 0).le dc_) ((b.w 1).le dc_) ((b.w 2).le dc_);have ar:QB 23 (kK o z):=b.qh.le dc_;have a8:(cI B.col o).length<=bs B:=by
  unfold cI vR;refine Q0 (RT _ _) ?_;rw [RB];unfold bs;omega
 have aO:∀ k∈cI B.col o,k<bs B:=fun k hk=>IK hk;obtain ⟨v1,v2,tv,cv,ov,rfl,h1,h2,h3,h4,h5⟩:=id L.ex;have aP:MeshIn C (.agg ⟨[v1,v2]⟩) B.pts B.tris:=⟨v1,v2,rfl,h1,h2⟩;obtain ⟨A5,c5,rfl,a9,bX,_⟩:=id h5;have bY:maxLen<=9223372036854775807:=by simp [maxLen]
 simp only [aw] at h5 a9 am ⊢;refine Uv func128 172 U3 fun w0=>?_;refine Uq fun R a=>?_;refine UF U6 (fun n=>?_);refine UF U6 (fun b4=>?_);refine C4 2 [2,3,4] a Z ?_;clear a R;refine G.freeze 1 Z (fun _ _ M=>?_);refine G.freeze 0 Z (fun _ _ N=>?_);refine Um 1 Z fun R a=>?_;refine Un (bkT N 1) U8 ?_;refine Up U6 ?_;refine UD h5.m_ U10 om_ (ci U) fl_ (fun bZ ba=>?_);refine Un ba U8 ?_;refine UH U5 (fun b8=>?_);refine Ux (j:=0) U12 ?_;refine Ur [2,3,4,8] a Z ?_;clear a R;refine G.freeze 0 Z (fun C8 _ E=>?_);refine Um 1 Z fun R a=>?_;refine Un (bkT N 2) U8 ?_;refine Up U6 ?_;refine Un (bkT E 2) U8 ?_;refine UT (by have h:=Ec C8 d.m_ _ B.pts B.tris p ti r t aP.m_ Q V.q V.r a6 b.tri b.w;rw [<- wM V] at h;exact h) U7 fl_ (fun b0 _ _ bb=>?_);obtain ⟨T,rfl,au⟩:=bb;refine C4 7 [2,3,4,8,9,10,11] a Z ?_;clear a R;refine Ul 2 [2,3,4,8,9,10,11,45] Z ?_;refine Uo (fun aQ=>?_) fun aQ=>?_
 ·exact absurd aQ dc_
 refine Uq fun R a=>?_;refine Un (bkT N 5) U8 ?_;refine Up U6 ?_;refine Uy (DO _ d.m_ _ B fs i o p z am.m_ Q al aM hF U V b.val b.qz b.qh) U7 ?_;refine C4 5 [2,3,4,8,9,10,11,12] a Z ?_;clear a R;refine Ul 2 [2,3,4,8,9,10,11,12,54] Z ?_;refine Uo (fun aR=>?_) fun aR=>?_
 ·exact absurd aR dc_
 refine Uq fun R a=>?_;refine Un (bkT N 5) U8 ?_;refine Up U6 ?_;refine UV (vQ _ d.m_ _ B i o am.m_ Q al aM U) U7 (fun b1 _ _ bc=>?_);obtain ⟨lv,rfl,av⟩:=bc;obtain ⟨Al,cl,aS,_⟩:=id av;rw [aw] at aS;subst aS;refine C4 5 [3,4,8,9,10,11,12,13] a Z ?_;clear a R;refine Ul 2 [3,4,8,9,10,11,12,13,63] Z ?_;refine Uo (fun aT=>?_) fun aT=>?_
 ·exact absurd aT dc_
 refine Uq fun R a=>?_;refine UH U5 (fun c=>?_);refine Ur [3,4,8,9,10,12,13,14] a Z ?_;clear a R;refine G.nilArr 123 2 (G.perm (L':=[.obj c (.cells ⟨[.slice none 0 0]⟩ 78 (0,0)),.arr (.slice none 0 0) 123 2 0 []]) (List.Perm.swap _ _ _) ?_);refine Ul 2 [3,4,8,9,10,12,13,14,15] Z ?_;refine Um 1 Z fun R a=>?_;refine Un (bkT E 1) U8 ?_;refine Ur [3,4,8,9,10,12,13,14,15,67] a Z ?_;clear a R;refine Ul 2 [3,4,8,9,10,12,13,14,15,67,120] Z ?_;refine G.cut (fun fr C' y F=>∃ (vs:List Value)(w:Value),(RowsOk C' vs (rowsO B o p t z))/\fr=[(14,[],.pointer (some ⟨c,0,none⟩))]/\y=[.obj c (.cells ⟨[w]⟩ 78 (0,0)),.arr w 123 2 (rowsO B o p t z).length (aU vs (rowsO B o p t z)).flatten]) ?_ (fun fr _ b2 F _ H=>?_)
 ·refine Uo (fun X=>?_) fun X=>?_
  ·have hk:o.kind=1:=dU X;obtain ⟨s,O⟩:∃ s,(if 0<u then [iL (bs B) (bp B) (u-1) (atT t (wgt B.pts t p)) (kK o z) 1] else [])=s:=⟨_,rfl⟩;have A:rowsO B o p t z=s++(if u<bs B then [iL (bs B) (bp B) u (atT t (wgt B.pts t p)) (kK o z) (-1)] else []):=by unfold rowsO;rw [aJ hk,a7,O]
   refine Um 1 Z fun R a=>?_;refine Un (bkT N 1) U8 ?_;refine Up U6 ?_;refine Un (bkT E 1) U8 ?_;refine Uy (zy _ d.m_ _ B.col o.upper h4.m_ al.col a5 u W) U7 ?_;refine C4 7 [3,9,12,14,15,16,18] a Z ?_;clear a R;refine Ul 2 [3,9,12,14,15,16,18,132] Z ?_;refine Uo (fun aV=>?_) fun aV=>?_
   ·exact absurd aV dc_
   refine Ul 2 [3,9,12,14,15,16,135] Z ?_;refine G.cut (fun fr C' y F=>∃ (vs:List Value)(w:Value),(RowsOk C' vs s)/\fr=[(3,[],.pointer (some ⟨n,0,none⟩)),(9,[],.map (some T)),(12,[],ai (qtx (kK o z))),(14,[],.pointer (some ⟨c,0,none⟩)),(15,[],.func (.func 195) #[] #[.pointer (some ⟨c,0,none⟩),.pointer (some ⟨n,0,none⟩)]),(16,[],.int .i64 u)]/\y=[.obj c (.cells ⟨[w]⟩ 78 (0,0)),.arr w 123 2 s.length (aU vs s).flatten]) ?_ (fun fr _ b5 F _ H=>?_)
   ·refine Uo (fun ax=>?_) fun ax=>?_
    ·have ay:0<u:=by
      have:=aW ax;omega
     rw [aJ ay] at O;subst O;refine UN [(6,3)] Z (fun R a=>?_);refine Us 2 Z ?_;refine UX (((u-1:Nat):Int)) U4 om_ om_ om_ U2 ?_;refine Us 2 Z ?_;refine UI [[ai [49]]] U12 (fun b6 _ _ bd=>?_);refine D.call (jF _ d.m_ (bs B) (bp B) (u-1) T c n (atT t (wgt B.pts t p)) (kK o z) [1] _ (.slice none 0 0) [] [] S om_ (Mem.get M mup) (Mem.get au mup) ao ap aq ar ((OK bd).mono mup) OD dc_ (RowsOk.nil _) dc_) Z (.inr dc_) U6 (QL _) fl_ (fun b7 _ b9 _ bf=>?_);refine Ur [3,9,12,14,15,16] a Z ?_;clear a R;obtain ⟨bg,w1,rfl,rfl,bh⟩:=bf;refine UB 0 mup (hn_ [3,9,12,14,15,16] Z) ⟨bg,w1,bh,Z,Z⟩
    have ay:¬ 0<u:=by
     have:=QJ ax;omega
    rw [aB ay] at O;subst O;refine UB 0 (Mem.le.refl _) (hn_ [3,9,12,14,15,16] Z) ⟨[],.slice none 0 0,RowsOk.nil _,Z,Z⟩
   obtain ⟨vs ,w,az,rfl,rfl⟩:=H;refine Um 2 Z fun R a=>?_;refine Un (bkT M 1) U8 ?_;refine C4 1 [9,12,14,15,16,146] a Z ?_;clear a R;refine Uo (fun aA=>?_) fun aA=>?_
   ·have Y:u<bs B:=by
     have:=aW aA;omega
    rw [aJ Y] at A;have ca:s.length<=1:=by rw [<- O];split <;> simp
    refine UN [(5,3)] Z (fun R a=>?_);refine Us 4 Z ?_;refine UI [[ai [45,49]]] U12 (fun cb _ _ bi=>?_);refine D.call (jF _ d.m_ (bs B) (bp B) u T c n (atT t (wgt B.pts t p)) (kK o z) [-1] _ w vs s S Y (Mem.get M mup) (Mem.get au mup) ao ap aq ar ((OL bi).mono mup) OE dc_ az.m_ om_) Z (.inr dc_) U6 (QL _) fl_ (fun cc _ cd _ bj=>?_);refine Ur [14] a Z ?_;clear a R;obtain ⟨bk,w2,rfl,rfl,aX⟩:=bj;rw [show s++([-1]:List Rat).map (iL (bs B) (bp B) u (atT t (wgt B.pts t p)) (kK o z))=rowsO B o p t z from A.symm] at aX ⊢;refine UB 0 mup (hn_ [14] Z) ⟨bk,w2,aX,Z,Z⟩
   have Y:¬ u<bs B:=by
    have:=QJ aA;omega
   rw [aB Y,Q7] at A;rw [<- A] at az ⊢;refine UB 0 mup (hn_ [14] Z) ⟨vs,w,az.mono mup,Z,Z⟩
  have aC:¬ o.kind=1:=by
   intro e;rw [show ((o.kind == 1)=true) by rw [e];rfl] at X;cases X
  refine Ul 2 [4,8,9,10,12,13,14,15,153] Z ?_;refine Uo (fun aa=>?_) fun aa=>?_
  ·have ab:o.kind=2:=dU aa;obtain ⟨f,aD⟩:∃ f,(fun k=>([1, -1]:List Rat).map (iL (bs B) (bp B) k (atT t (wgt B.pts t p)) (kK o z)))=f:=⟨_,rfl⟩;have A:rowsO B o p t z=(cI B.col o).flatMap f:=by unfold rowsO;rw [aB aC,aJ ab,<- aD]
   have bl:∀ k,(f k).length=2:=fun k=>by rw [<- aD];rfl
   refine Ul 3 [9,12,14,15,155,156,157] Z ?_;refine G.loop (fun fr C' y F=>∃ (j:Nat)(vs:List Value)(w:Value),(j<=(cI B.col o).length/\RowsOk C' vs (((cI B.col o).take j).flatMap f))/\fr=[(9,[],.map (some T)),(12,[],ai (qtx (kK o z))),(14,[],.pointer (some ⟨c,0,none⟩)),(15,[],.func (.func 195) #[] #[.pointer (some ⟨c,0,none⟩),.pointer (some ⟨n,0,none⟩)]),(155,[],.slice Al (cI B.col o).length cl),(156,[],.int .i64 (cI B.col o).length),(157,[],.int .i64 j)]/\y=[.obj c (.cells ⟨[w]⟩ 78 (0,0)),.arr w 123 2 (((cI B.col o).take j).flatMap f).length (aU vs (((cI B.col o).take j).flatMap f)).flatten]/\F=(cI B.col o).length-j) (hn_ [9,12,14,15,155,156,157] Z) ⟨0,[],.slice none 0 0,⟨QK _,RowsOk.nil _⟩,Z,Z,Z⟩ (fun fr ce cf m _ H=>?_);obtain ⟨j,vs,w,⟨hj,I⟩,rfl,rfl,rfl⟩:=H;refine Ul 1 [9,12,14,15,155,156,157,158] Z ?_;refine Uo (fun aF=>?_) fun aF=>?_
   ·have J:j<(cI B.col o).length:=by
     have:=aW aF;omega
    obtain ⟨k,K⟩:∃ k,(cI B.col o)[j]?=some k:=⟨(cI B.col o)[j],aj J⟩;have ac:=aO k (QF K);have ad:=fM bl ((cI B.col o).take j);rw [QW] at ad;have aG:=jz f K;refine Uq fun R a=>?_;refine UD av.m_ U10 om_ (ci K) fl_ (fun cg bm=>?_);refine Un bm U8 ?_;refine C4 1 [9,12,14,15,20,155,156,157] a Z ?_;clear a R;refine UN [(5,3)] Z (fun R a=>?_);refine Us 4 Z ?_;refine UI [[ai [49]],[ai [45,49]]] U12 (fun ch _ _ bo=>?_);refine D.call (jF _ d.m_ (bs B) (bp B) k T c n (atT t (wgt B.pts t p)) (kK o z) [1, -1] _ w vs _ S ac (Mem.get M mup) (Mem.get au mup) ao ap aq ar ((Fm bo).mono mup) rS dc_ I.m_ om_) Z (.inr dc_) U6 (QL _) fl_ (fun cj _ ck _ bq=>?_);refine Ur [9,12,14,15,155,156,157] a Z ?_;clear a R;refine Uq fun R a=>?_;refine Uw _ U7 ?_;refine C4 1 [9,12,14,15,155,156,157] a Z ?_;clear a R;obtain ⟨aH,w3,rfl,rfl,ae⟩:=bq;rw [show ((cI B.col o).take j).flatMap f++([1, -1]:List Rat).map (iL (bs B) (bp B) k (atT t (wgt B.pts t p)) (kK o z))=((cI B.col o).take (j+1)).flatMap f by rw [aG,<- aD]] at ae ⊢;refine UA (m':=(cI B.col o).length-(j+1)) om_ mup (hn_ [9,12,14,15,155,156,157] Z) ⟨j+1,aH,w3,⟨by omega,ae⟩,Z,Z,Z⟩
   have J:j=(cI B.col o).length:=by
    have:=QJ aF;omega
   rw [J,QV,<- A] at I ⊢;refine UB 0 mup (hn_ [14] Z) ⟨vs,w,I.mono mup,Z,Z⟩
  have ab:¬ o.kind=2:=by
   intro e;rw [show ((o.kind == 2)=true) by rw [e];rfl] at aa;cases aa
  obtain ⟨⟨br,bt,bu⟩,aY,aZ,ag,ah⟩:=b.nr aC ab;obtain ⟨e1,q1⟩:=dL br;obtain ⟨e2,q2⟩:=dL bt;obtain ⟨e3,q3⟩:=dL bu;have a0:(qtx (dC o.nx)).length<=1000000:=Q0 (bG q1 dc_) dc_;have bx:(qtx (dC o.ny)).length<=1000000:=Q0 (bG q2 dc_) dc_;have bz:QB 23 (qC o):=(mC (gg aY) ag ah).le dc_;have bA:QB 23 (jp o):=(mC (gg aZ) ag ah).le dc_;obtain ⟨g,aI⟩:∃ g,(fun k=>([1, -1]:List Rat).map (iL (bs B) (bp B) k (atT t fun j=>(slf B.pts t j).1) (qC o))++([1, -1]:List Rat).map (iL (bs B) (bp B) k (atT t fun j=>(slf B.pts t j).2) (jp o)))=g:=⟨_,rfl⟩;have A:rowsO B o p t z=(cI B.col o).flatMap g:=by unfold rowsO;rw [aB aC,aB ab,<- aI]
  have bB:∀ k,(g k).length=4:=fun k=>by rw [<- aI];rfl
  have bC:=qR (fun j=>(slf B.pts t j).1) an;have bD:=qR (fun j=>(slf B.pts t j).2) an;have bE:∀ x∈atT t (fun j=>(slf B.pts t j).1),x.1<bp B:=gp (P:=fun x=>x.1<bp B) l.1 l.2.1 l.2.2;have bF:∀ x∈atT t (fun j=>(slf B.pts t j).2),x.1<bp B:=gp (P:=fun x=>x.1<bp B) l.1 l.2.1 l.2.2;have bH:∀ x∈atT t (fun j=>(slf B.pts t j).1),QB 23 x.2:=gp (P:=fun x=>QB 23 x.2) ((b.sl 0).1.le dc_) ((b.sl 1).1.le dc_) ((b.sl 2).1.le dc_);have bI:∀ x∈atT t (fun j=>(slf B.pts t j).2),QB 23 x.2:=gp (P:=fun x=>QB 23 x.2) ((b.sl 0).2.le dc_) ((b.sl 1).2.le dc_) ((b.sl 2).2.le dc_);refine Um 1 Z fun R a=>?_;refine Un (bkT N 2) U8 ?_;refine Up U6 ?_;refine UV (D8 _ d.m_ _ B.pts B.tris ti t aP.m_ Q b.tri b.sl) U7 (fun cm ak _ bJ=>?_);obtain ⟨be,bn,rfl,bK,bL⟩:=bJ;refine C4 7 [8,13,14,15,21,22,23] a Z ?_;clear a R;refine Ul 2 [8,13,14,15,21,22,23,77] Z ?_;refine Uo (fun a1=>?_) fun a1=>?_
  ·exact absurd a1 dc_
  refine UJ [0,1,2,3,4,5,6,7,8,9,10,11,12] [(3,1),(7,1)] Z kr_ (fun R L a=>?_);refine Us 2 Z ?_;refine Un (bkT E 1) U8 ?_;refine UK (fun _=>(by have h:=eY ak (dC o.nx) a0;rw [<- e1] at h;exact h)) U9 ?_;refine Us 2 Z ?_;refine Un (bkT E 1) U8 ?_;refine UK (fun _=>(by have h:=jh ak d.m_ (-dC o.nx) (dC o.nz) 11 dc_ dc_ (gg aY) ag ah;rw [<- e3] at h;exact h)) U9 ?_;refine Us 5 Z ?_;refine Ur [8,13,14,15,21,22,24] a Z ?_;clear a L R;refine UJ [0,1,2,3,4,5,6,7,8,9,10,11,12] [(3,1),(7,1)] Z kr_ (fun R L a=>?_);refine Us 2 Z ?_;refine Un (bkT E 1) U8 ?_;refine UK (fun _=>(by have h:=eY ak (dC o.ny) bx;rw [<- e2] at h;exact h)) U9 ?_;refine Us 2 Z ?_;refine Un (bkT E 1) U8 ?_;refine UK (fun _=>(by have h:=jh ak d.m_ (-dC o.ny) (dC o.nz) 11 dc_ dc_ (gg aZ) ag ah;rw [<- e3] at h;exact h)) U9 ?_;refine Us 5 Z ?_;refine Ur [13,14,15,21,22,24,26] a Z ?_;clear a L R;refine Ul 3 [14,15,21,22,24,26,101,102,103] Z ?_;refine G.loop (fun fr C' y F=>∃ (j:Nat)(vs:List Value)(w:Value),(j<=(cI B.col o).length/\RowsOk C' vs (((cI B.col o).take j).flatMap g))/\fr=[(14,[],.pointer (some ⟨c,0,none⟩)),(15,[],.func (.func 195) #[] #[.pointer (some ⟨c,0,none⟩),.pointer (some ⟨n,0,none⟩)]),(21,[],.map (some be)),(22,[],.map (some bn)),(24,[],ai (qtx (qC o))),(26,[],ai (qtx (jp o))),(101,[],.slice Al (cI B.col o).length cl),(102,[],.int .i64 (cI B.col o).length),(103,[],.int .i64 j)]/\y=[.obj c (.cells ⟨[w]⟩ 78 (0,0)),.arr w 123 2 (((cI B.col o).take j).flatMap g).length (aU vs (((cI B.col o).take j).flatMap g)).flatten]/\F=(cI B.col o).length-j) (hn_ [14,15,21,22,24,26,101,102,103] Z) ⟨0,[],.slice none 0 0,⟨QK _,RowsOk.nil _⟩,Z,Z,Z⟩ (fun fr cn co m a0 H=>?_);obtain ⟨j,vs,w,⟨hj,I⟩,rfl,rfl,rfl⟩:=H;refine Ul 1 [14,15,21,22,24,26,101,102,103,104] Z ?_;refine Uo (fun aL=>?_) fun aL=>?_
  ·have J:j<(cI B.col o).length:=by
    have:=aW aL;omega
   obtain ⟨k,K⟩:∃ k,(cI B.col o)[j]?=some k:=⟨(cI B.col o)[j],aj J⟩;have ac:=aO k (QF K);have ad:=fM bB ((cI B.col o).take j);rw [QW] at ad;have aG:=jz g K;refine Uq fun R a=>?_;refine UD av.m_ U10 om_ (ci K) fl_ (fun cp bM=>?_);refine Un bM U8 ?_;refine C4 1 [14,15,21,22,24,26,29,101,102,103] a Z ?_;clear a R;refine UN [(5,3)] Z (fun R a=>?_);refine Us 4 Z ?_;refine UI [[ai [49]],[ai [45,49]]] U12 (fun cq _ _ bN=>?_);refine D.call (jF _ d.m_ (bs B) (bp B) k be c n (atT t fun j=>(slf B.pts t j).1) (qC o) [1, -1] _ w vs _ S ac (Mem.get M mup) (Mem.get bK mup) bC bE bH bz ((Fm bN).mono mup) rS dc_ I.m_ om_) Z (.inr dc_) U6 (QL _) fl_ (fun cr _ cs _ bO=>?_);refine Ur [14,15,21,22,24,26,29,101,102,103] a Z ?_;clear a R;obtain ⟨aH,w3,rfl,rfl,ae⟩:=bO;refine UN [(5,3)] Z (fun R a=>?_);refine Us 4 Z ?_;refine UI [[ai [49]],[ai [45,49]]] U12 (fun ct _ _ bP=>?_);refine D.call (jF _ d.m_ (bs B) (bp B) k bn c n (atT t fun j=>(slf B.pts t j).2) (jp o) [1, -1] _ w3 aH _ S ac (Mem.get M mup) (Mem.get bL mup) bD bF bI bA ((Fm bP).mono mup) rS dc_ ae.m_ (by rw [QM,ad];simp;omega)) Z (.inr dc_) U6 (QL _) fl_ (fun cu _ cw _ bQ=>?_);refine Ur [14,15,21,22,24,26,101,102,103] a Z ?_;clear a R;refine Uq fun R a=>?_;refine Uw _ U7 ?_;refine C4 1 [14,15,21,22,24,26,101,102,103] a Z ?_;clear a R;obtain ⟨bR,w4,rfl,rfl,a2⟩:=bQ;rw [show ((cI B.col o).take j).flatMap g++([1, -1]:List Rat).map (iL (bs B) (bp B) k (atT t fun j=>(slf B.pts t j).1) (qC o))++([1, -1]:List Rat).map (iL (bs B) (bp B) k (atT t fun j=>(slf B.pts t j).2) (jp o))=((cI B.col o).take (j+1)).flatMap g by rw [aG,<- aI,Rb]] at a2 ⊢;refine UA (m':=(cI B.col o).length-(j+1)) om_ mup (hn_ [14,15,21,22,24,26,101,102,103] Z) ⟨j+1,bR,w4,⟨by omega,a2⟩,Z,Z,Z⟩
  have J:j=(cI B.col o).length:=by
   have:=QJ aL;omega
  rw [J,QV,<- A] at I ⊢;refine UB 0 mup (hn_ [14] Z) ⟨vs,w,I.mono mup,Z,Z⟩
 obtain ⟨vs ,w,a3,rfl,rfl⟩:=H;refine G.freezeArr 1 (aU vs (rowsO B o p t z)) Z Z (jg _ _) (dA a3.1) (fun Cr cy bS=>?_);have a4:RowsIn Cr w (rowsO B o p t z):=⟨vs,a3.mono mup,bS⟩;refine Uq fun R a=>?_;refine Uu af U9 ?_;refine UC (Ee _ d.m_ w (rowsO B o p t z) a4.m_ b.rows (fun r hr=>by rw [Bb r hr];omega) (Q0 (wi (by unfold bs at a8;omega)) dc_)) U7 fl_ ?_;refine C4 4 [6,7] a Z ?_;clear a R;refine Uz (G.dropAll (UO U3 ?_));exact ⟨Z,w,Z,a4.mono mup⟩
structure Rich (B:Bk)(fs:List Rat)(RO:Nat->List RowQ):Prop where
 good:Good B.pts B.tris
 br:BookR B
 bz:iH B=0
 terr:Terr B fs
 h60:bs B*bp B<=60
 fine:∀ i o,B.obs[i]?=some o->∃ p ti t z,Fine B fs o p ti t z/\RO i=rowsO B o p t z
theorem mr (h:iH B=0):tf B.col=0:=by
 unfold iH at h;split at h
 ·rename_i h1;exact absurd h h1
 split at h
 ·rename_i h1;exact absurd h h1
 rename_i h1;exact Rp h1
theorem uW {l:List Lay}(h:tf l=0):l≠[]/\l.length<=60:=by
 unfold tf at h;split at h
 ·exact absurd h dc_
 rename_i h0;split at h
 ·exact absurd h dc_
 exact ⟨h0,by omega⟩
theorem Rich.bookz {a:Value}(h:Rich B fs RO)(d:Tabs C)(b:BookIn C a B):BookZ C a B 0 :=
 ⟨b,fun D c=>by have h2:=lg D (d.mono c) a B (b.mono c) h.good h.br;rwa [h.bz] at h2,fun _=>(uW (mr h.bz)).1,Q0 (uW (mr h.bz)).2 dc_,h.good.ok.lp⟩
theorem Rich.scol (h:Rich B fs RO):bs B+1=B.col.length/\B.col.length<=60:=by
 obtain ⟨h1,h2⟩:=uW (mr h.bz);have:=Ru.2 h1;unfold bs;omega
theorem P6 (C:Mem)(f:Tabs C)(b:Value)(B:Bk)(c:List Rat)(d:Nat->List RowQ)(i:Nat)(g:BookIn C b B)(a:Rich B c d)(j:i<B.obs.length) :
  Pur cx.P 128 [gE (bs B) (bp B),b,.int .i64 i] C fun u D=>∃ v,u=.tuple #[v,.int .i64 0]/\RowsIn D v (d i):=by
 have e:B.obs[i]?=some B.obs[i]:=aj j;obtain ⟨p,ti,t,z,k,l⟩:=a.fine i _ e;have h:=MF C f b B c i _ p ti t z g a.good a.br a.bz a.terr e k a.h60 (mr a.bz) a.scol.1 a.scol.2
 rwa [<- l] at h
theorem pk (a:Rich B fs RO)(b:i<B.obs.length):(RO i).length<=240/\∀ r∈RO i,r.f.length=bs B*bp B:=by
 have c:B.obs[i]?=some B.obs[i]:=aj b;obtain ⟨p,ti,t,z,g,d⟩:=a.fine i _ c;have e:(cI B.col B.obs[i]).length<=60:=by
  unfold cI vR;refine Q0 (RT _ _) ?_;rw [RB];have:=a.scol.2;omega
 rw [d];exact ⟨wi e,Bb⟩
def bi (B:Bk):List RowQ:=bk (bs B) (bp B) B.col (B.col.length-2)
theorem CS (a:Rich B fs RO):(bi B).length<=120:=by
 have h:=jK (bs B) (bp B) B.col (B.col.length-2);have h1:=a.scol.1;have h2:(B.col.length-2)*bp B<=bs B*bp B:=Rz _ om_;have h3:=a.h60;unfold bi;omega
structure SrcQ where
 n:Int
 r:RowQ
def bS (vs:List Value)(l:List SrcQ):List (List Value):=List.zipWith (fun w (s:SrcQ)=>[.int .i64 s.n,w,ai (qtx s.r.b)]) vs l
def SrcsOk (C:Mem)(vs:List Value)(l:List SrcQ):Prop:=RowsOk C vs (l.map SrcQ.r)
def xQ (C:Mem)(v:Value)(l:List SrcQ):Prop:=∃ vs,SrcsOk C vs l/\Sl C 3 v (bS vs l)
theorem SrcsOk.mono {C D:Mem}{a:List Value}{l:List SrcQ}(h:SrcsOk C a l)(b:C.le D):SrcsOk D a l:=RowsOk.mono h b
theorem SrcsOk.m_ {D:Mem}{l:List SrcQ}(h:SrcsOk C vs l)(a:C.le D:=by exact mup):SrcsOk D vs l:=SrcsOk.mono h a
theorem SrcsOk.snoc {C:Mem}{a:List Value}{l:List SrcQ}{v:Value}{s:SrcQ}(h:SrcsOk C a l)(b:Sl C 1 v (s.r.f.map fe)):SrcsOk C (a++[v]) (l++[s]):=by
 unfold SrcsOk at h ⊢;rw [Rj];exact RowsOk.snoc h b
theorem ie {l:List SrcQ}(h:SrcsOk C vs l):vs.length=l.length:=by have:=h.1;simpa using this
theorem lF {l:List SrcQ}(h:vs.length=l.length)(v:Value)(s:SrcQ):bS (vs++[v]) (l++[s])=bS vs l++[[.int .i64 s.n,v,ai (qtx s.r.b)]]:=by
 unfold bS;rw [List.zipWith_append h];rfl
theorem nv {l:List SrcQ}(h:vs.length=l.length):(bS vs l).length=l.length:=by simp [bS,h]
theorem rq (b:List Value)(l:List SrcQ):∀ r∈bS b l,r.length=3:=by
 intro r hr;unfold bS at hr;obtain ⟨i,a⟩:=Sg hr;rw [List.getElem?_zipWith] at a;cases h1:b[i]? <;> cases h2:l[i]? <;> rw [h1,h2] at a <;> simp at a
 subst a;rfl
def jL (n:Int)(l:List RowQ):List SrcQ:=l.map fun r=>⟨n,r⟩
def bj (T:List RowQ)(RO:Nat->List RowQ)(l:List Nat):List SrcQ:=jL (-1) T++l.flatMap fun i=>jL (i:Nat) (RO i)
theorem lE {n:Int}{l:List RowQ}(h:l[i]?=some r):jL n (l.take (i+1))=jL n (l.take i)++[⟨n,r⟩]:=by
 unfold jL;rw [Q5,h,Rj];rfl
theorem xA {T:List RowQ}:∀ {l:List Nat},(∀ i∈l,(RO i).length<=240)->l.length<=100->T.length<=120->(bj T RO l).length<=120+240*l.length:=by
 intro l h e hT;unfold bj;rw [QM];have b:∀ l:List Nat,(∀ i∈l,(RO i).length<=240)->(l.flatMap fun i=>jL (i:Nat) (RO i)).length<=240*l.length:=by
  intro l;induction l with
  | nil=>intro _;simp
  | cons a l c =>
   intro h;have h1:=h a PN;have h2:=c fun i d=>h i (QR _ d);rw [List.flatMap_cons,QM,QY];have:(jL (a:Nat) (RO a)).length=(RO a).length:=by simp [jL]
   omega
 have h1:=b l h;have:(jL (-1) T).length=T.length:=by simp [jL]
 omega
theorem HI (C:Mem)(hT:Tabs C)(bv lv:Value)(B:Bk)(fs:List Rat)(c:Nat->List RowQ)(l:List Nat)(hB:BookIn C bv B)(o:Rich B fs c)(L:Sl C 1 lv (l.map aL))(ac:∀ i∈l,i<B.obs.length)(aP:l.length<=100)(aQ:(bj (bi B) c l).length<=300) :
  Pur cx.P 85 [gE (bs B) (bp B),bv,lv] C fun u D=>∃ v,u=.tuple #[v,.int .i64 0]/\xQ D v (bj (bi B) c l):=by
 have au:=hB;have av:=CS o;obtain ⟨v1,v2,tv,cv,ov,rfl,h1,h2,h3,h4,h5⟩:=id hB.ex;obtain ⟨M,N,rfl,ay,aR,_⟩:=id L;have aS:maxLen<=9223372036854775807:=by simp [maxLen]
 simp only [aw] at L ay ⊢;have az:=fun m:List Nat=>fun hm:∀ i∈m,i<B.obs.length=>fun aA:m.length<=100=>xA (T:=bi B) (RO:=c) (l:=m) (fun i E=>(pk o (hm i E)).1) aA av;refine Uv func85 66 U3 fun w0=>Uq fun R d=>UF U6 fun O=>UF U6 fun Q=>C4 2 [2,3,4] d Z<|G.freeze 1 Z fun _ _ ad=>G.freeze 0 Z fun _ _ ae=>Ul 1 [2,3,4,8] Z<|Uq fun R d=>Un (bkT ad 2) U8<|Up U6<|Un (bkT ae 1) U8<|UV (vN _ hT.m_ _ (bs B) (bp B) B.col h4.m_ o.scol.1 o.h60 o.br.col) U7 (fun aT _ _ aB=>?_);obtain ⟨ag,S,F⟩:=aB;rw [show bk (bs B) (bp B) B.col (B.col.length-2)=bi B from rfl] at S F;have ah:=S.1;obtain ⟨At,ct,rfl,aC,aU,_⟩:=id F;simp only [dA ah] at F aC ⊢;refine C4 2 [2,3,4,8,20,21,22] d Z<|G.nilArr 125 3<|G.loop (fun fr C' e x=>∃ (i:Nat)(vs:List Value)(w:Value),(i<=(bi B).length/\SrcsOk C' vs (jL (-1) ((bi B).take i)))/\fr=[(2,[],.slice M l.length N),(3,[],.pointer (some ⟨O,0,none⟩)),(4,[],.pointer (some ⟨Q,0,none⟩)),(8,[],w),(20,[],.slice At (bi B).length ct),(21,[],.int .i64 (bi B).length),(22,[],.int .i64 i)]/\e=[.arr w 125 3 (jL (-1) ((bi B).take i)).length (bS vs (jL (-1) ((bi B).take i))).flatten]/\x=(bi B).length-i) (hn_ [2,3,4,8,20,21,22] Z) ⟨0,[],_,⟨QK _,RowsOk.nil _⟩,Z,Z,Z⟩ (fun fr aV aX m _ y=>?_);obtain ⟨i,vs,w,⟨E,H⟩,rfl,rfl,rfl⟩:=y;refine Ul 1 [2,3,4,8,20,21,22,23] Z<|Uo (fun U=>?_) fun U=>?_
 ·have I:i<(bi B).length:=by
   have:=aW U;omega
  obtain ⟨r,g⟩:∃ r,(bi B)[i]?=some r:=⟨(bi B)[i],aj I⟩;obtain ⟨p,q⟩:∃ p,ag[i]?=some p:=⟨ag[i]'(by rw [ah];exact I),aj _⟩;have t:=S.2 i p r q g;obtain ⟨h,n,rfl,_⟩:=id t;simp only [aw] at t q;have aD:(jL (-1) ((bi B).take i)).length=i:=by simp [jL];omega
  refine Uq fun R d=>UD F.m_ U10 om_ (kQ q g) fl_ fun aY aE=>Un aE U8<|UH U5 fun aZ=>Ux (j:=0) U12<|Ur [2,3,4,8,10,20,21,22] d Z<|Um 1 Z fun R d=>Uu af U9<|UG [.int .i64 (-1),.slice h r.f.length n,ai (qtx r.b)] U8<|UI [[.int .i64 (-1),.slice h r.f.length n,ai (qtx r.b)]] U12 fun a0 _ _ aF=>D.append (j:=1) U11 aF Z ax (by simp only [aK];omega) fl_ fun ak=>C4 1 [2,3,4,8,20,21,22] d Z<|Uq fun R d=>Uw _ U7<|C4 1 [2,3,4,8,20,21,22] d Z ?_;have z:=SrcsOk.snoc (s:=⟨-1,r⟩) H.m_ t.m_;rw [<- lE g] at z;refine Ve 1 Z<|UE (L':=[.arr ak 125 3 (jL (-1) ((bi B).take (i+1))).length (bS (vs++[.slice h r.f.length n]) (jL (-1) ((bi B).take (i+1)))).flatten]) (by rw [lE g,lF (ie H)];simp)<|UA (m':=(bi B).length-(i+1)) om_ mup (hn_ [2,3,4,8,20,21,22] Z) ⟨i+1,vs++[.slice h r.f.length n],ak,⟨by omega,z.mono mup⟩,Z,Z,Z⟩
 have I:i=(bi B).length:=by
  have:=QJ U;omega
 rw [I,QV] at H ⊢;refine Ul 3 [3,4,8,32,33,34] Z<|UE (L':=[.arr w 125 3 (bj (bi B) c (l.take 0)).length (bS vs (bj (bi B) c (l.take 0))).flatten]) (by simp [bj])<|G.loop (fun fr C' e x=>∃ (j:Nat)(vs:List Value)(w:Value),(j<=l.length/\SrcsOk C' vs (bj (bi B) c (l.take j)))/\fr=[(3,[],.pointer (some ⟨O,0,none⟩)),(4,[],.pointer (some ⟨Q,0,none⟩)),(8,[],w),(32,[],.slice M l.length N),(33,[],.int .i64 l.length),(34,[],.int .i64 j)]/\e=[.arr w 125 3 (bj (bi B) c (l.take j)).length (bS vs (bj (bi B) c (l.take j))).flatten]/\x=l.length-j) (hn_ [3,4,8,32,33,34] Z) ⟨0,vs,w,⟨QK _,by simpa [bj] using H⟩,Z,Z,Z⟩ (fun fr a1 a2 m _ y=>?_);obtain ⟨j,vs,w,⟨hj,A⟩,rfl,rfl,rfl⟩:=y;refine Ul 1 [3,4,8,32,33,34,35] Z<|Uo (fun V=>?_) fun V=>?_
 ·have W:j<l.length:=by
   have:=aW V;omega
  obtain ⟨a,X⟩:∃ a,l[j]?=some a:=⟨l[j],aj W⟩;have al:=ac a (QF X);have aG:=az (l.take j) (fun i E=>ac i (RZ E)) (by rw [QW];omega);rw [QW] at aG;have aH:bj (bi B) c (l.take (j+1))=bj (bi B) c (l.take j)++jL (a:Nat) (c a):=by
   unfold bj;rw [jz _ X,Rb]
  have a3:=(pk o al).1;refine Uq fun R d=>UD L.m_ U10 om_ (ci X) fl_ fun a4 aI=>Un aI U8<|C4 1 [3,4,8,12,32,33,34] d Z<|Uq fun R d=>Un (bkT ad 2) U8<|Un (bkT ae 5) U8<|Up U6<|UV (P6 _ hT.m_ _ B fs c a au.m_ o al) U7 (fun a5 _ _ aJ=>?_);obtain ⟨rv,rfl,am,an,Y⟩:=aJ;have ao:=an.1;obtain ⟨Ar,cr,rfl,aM,a6,_⟩:=id Y;simp only [dA ao] at Y aM ⊢;refine C4 5 [3,4,8,12,13,14,32,33,34] d Z<|Ul 2 [3,4,8,12,13,14,32,33,34,46] Z<|Uo (fun ap=>?_) fun ap=>?_
  ·exact absurd ap dc_
  refine Ul 3 [3,4,8,12,32,33,34,48,49,50] Z<|UE (L':=[.arr w 125 3 (bj (bi B) c (l.take j)++jL (a:Nat) ((c a).take 0)).length (bS vs (bj (bi B) c (l.take j)++jL (a:Nat) ((c a).take 0))).flatten]) (by simp [jL])<|G.loop (fun fr C' e x=>∃ (k:Nat)(vs:List Value)(w:Value),(k<=(c a).length/\SrcsOk C' vs (bj (bi B) c (l.take j)++jL (a:Nat) ((c a).take k)))/\fr=[(3,[],.pointer (some ⟨O,0,none⟩)),(4,[],.pointer (some ⟨Q,0,none⟩)),(8,[],w),(12,[],.int .i64 a),(32,[],.slice M l.length N),(33,[],.int .i64 l.length),(34,[],.int .i64 j),(48,[],.slice Ar (c a).length cr),(49,[],.int .i64 (c a).length),(50,[],.int .i64 k)]/\e=[.arr w 125 3 (bj (bi B) c (l.take j)++jL (a:Nat) ((c a).take k)).length (bS vs (bj (bi B) c (l.take j)++jL (a:Nat) ((c a).take k))).flatten]/\x=(c a).length-k) (hn_ [3,4,8,12,32,33,34,48,49,50] Z) ⟨0,vs,w,⟨QK _,by rw [show jL (a:Nat) ((c a).take 0)=[] from Z,Q7];exact A.mono mup⟩,Z,Z,Z⟩ (fun fr a7 a8 m _ y=>?_);obtain ⟨k,vs,w,⟨hk,J⟩,rfl,rfl,rfl⟩:=y;refine Ul 1 [3,4,8,12,32,33,34,48,49,50,51] Z<|Uo (fun aa=>?_) fun aa=>?_
  ·have K:k<(c a).length:=by
    have:=aW aa;omega
   obtain ⟨r,g⟩:∃ r,(c a)[k]?=some r:=⟨(c a)[k],aj K⟩;obtain ⟨p,q⟩:∃ p,am[k]?=some p:=⟨am[k]'(by rw [ao];exact K),aj _⟩;have t:=an.2 k p r q g;obtain ⟨h,n,rfl,_⟩:=id t;simp only [aw] at t q;have aD:(jL (a:Nat) ((c a).take k)).length<=240:=by simp [jL];omega
   have a9:(bj (bi B) c (l.take j)++jL (a:Nat) ((c a).take k)).length<=100000:=by rw [QM];omega
   refine Uq fun R d=>UD Y.m_ U10 om_ (kQ q g) fl_ fun ba aN=>Un aN U8<|UH U5 fun bb=>Ux (j:=0) U12<|Ur [3,4,8,12,16,32,33,34,48,49,50] d Z<|Um 2 Z fun R d=>Uu af U9<|UG [.int .i64 (a:Nat),.slice h r.f.length n,ai (qtx r.b)] U8<|UI [[.int .i64 (a:Nat),.slice h r.f.length n,ai (qtx r.b)]] U12 fun bc _ _ aO=>D.append (j:=1) U11 aO Z ax (by simp only [aK];omega) fl_ fun aq=>C4 1 [3,4,8,12,32,33,34,48,49,50] d Z<|Uq fun R d=>Uw _ U7<|C4 1 [3,4,8,12,32,33,34,48,49,50] d Z ?_;have z:=SrcsOk.snoc (s:=⟨(a:Nat),r⟩) J.m_ t.m_;rw [Rb,<- lE g] at z;refine Ve 1 Z<|UE (L':=[.arr aq 125 3 (bj (bi B) c (l.take j)++jL (a:Nat) ((c a).take (k+1))).length (bS (vs++[.slice h r.f.length n]) (bj (bi B) c (l.take j)++jL (a:Nat) ((c a).take (k+1)))).flatten]) (by rw [lE g,<- Rb,lF (ie J)];simp;omega)<|UA (m':=(c a).length-(k+1)) om_ mup (hn_ [3,4,8,12,32,33,34,48,49,50] Z) ⟨k+1,vs++[.slice h r.f.length n],aq,⟨by omega,z.mono mup⟩,Z,Z,Z⟩
  have K:k=(c a).length:=by
   have:=QJ aa;omega
  rw [K,QV,<- aH] at J ⊢;refine Uq fun R d=>Uw _ U7<|C4 1 [3,4,8,32,33,34] d Z<|UA (m':=l.length-(j+1)) om_ mup (hn_ [3,4,8,32,33,34] Z) ⟨j+1,vs,w,⟨by omega,J⟩,Z,Z,Z⟩
 have W:j=l.length:=by
  have:=QJ V;omega
 rw [W,QV] at A ⊢;refine G.freezeArr 0 (bS vs (bj (bi B) c l)) Z Z (rq _ _) (nv (ie A)) (fun Cg hg ab=>?_);obtain ⟨Ag,cg,rfl,_⟩:=id ab;rw [nv (ie A)] at ab ⊢;refine Ul 3 [8,64] Z<|Uo (fun ar=>?_) fun ar=>?_
 ·exfalso;have:=aW ar;omega
 refine Ul 3 [6,7] Z<|Uz (G.dropAll (UO U3 ?_));exact ⟨Z,_,Z,vs,A.mono mup,ab.mono mup⟩
def bU (err:Nat->Int):Nat->Int
 | 0=>0
 | n+1=>if bU err n≠0 then bU err n else err n
theorem lZ {a:Nat->Int}{n:Nat}(h:bU a n≠0):∀ m,n<=m->bU a m=bU a n
 | 0,hm=>by rw [show n=0 by omega]
 | m+1,hm=>by
  rcases Rh m n with h1 | h1
  ·rw [show n=m+1 by omega]
  have b:=lZ h m h1;simp only [bU,b];rw [aJ h]
theorem gd (a:bU err i=0)(b:err i≠0)(c:i<n):bU err n=err i:=by
 have h1:bU err (i+1)=err i:=by simp only [bU,a];rw [aB dc_]
 rw [lZ (n:=i+1) (by rw [h1];exact b) n om_,h1]
theorem iw (a:bU err i=0)(b:err i=0):bU err (i+1)=0:=by
 simp only [bU,a];rw [aB dc_,b]
theorem lY {a:Nat->Int}:∀ {n:Nat},bU a n=0->∀ i,i<n->a i=0
 | 0,_,i,b=>by omega
 | n+1,h,i,b=>by
  by_cases h0:bU a n=0
  ·rcases Rh i n with h1 | h1
   ·exact lY h0 i h1
   have:i=n:=by omega
   subst this;simp only [bU,h0] at h
   rwa [aB dc_] at h
  simp only [bU] at h;rw [aJ h0] at h;exact absurd h h0
theorem ld {a:Nat->Int}:∀ {n:Nat},(∀ i,i<n->a i=0)->bU a n=0
 | 0,_=>rfl
 | n+1,h=>iw (ld fun i b=>h i om_) (h n om_)
theorem DJ (C:Mem)(v:Value)(l:List Int)(z:Int)(b:Sl C 1 v (l.map mf)):Gives cx.P 126 [v,.int .i64 z] C (.int .i64 (kA (fun y=>decide (z=y)) l 0)):=by
 obtain ⟨h,c0,rfl,j,t,_⟩:=id b;have u:maxLen<=9223372036854775807:=by simp [maxLen]
 simp only [aw] at b j ⊢;refine Uv func126 19 U3 fun w0=>Ul 1 [0,1] Z<|Ul 3 [0,1,7,8] Z<|G.loop (fun fr C' k n=>∃ (i:Nat),(i<=l.length/\∀ y∈l.take i,(fun y=>decide (z=y)) y=false)/\fr=[(0,[],.slice h l.length c0),(1,[],.int .i64 z),(7,[],.int .i64 l.length),(8,[],.int .i64 i)]/\k=[]/\n=l.length-i) (hn_ [0,1,7,8] Z) ⟨0,⟨QK _,by simp⟩,Z,Z,Z⟩ (fun fr w A m o p=>?_);obtain ⟨i,⟨B,a⟩,rfl,rfl,rfl⟩:=p;refine Ul 1 [0,1,7,8,9] Z<|Uo (fun c=>?_) fun c=>?_
 ·have d:i<l.length:=by simpa using c
  obtain ⟨x,e⟩:∃ x,l[i]?=some x:=⟨l[i],aj d⟩;refine Ul 2 [0,1,5,7,8] Z<|Um 3 Z fun R f=>UD b.m_ U10 om_ (ci e) fl_ fun D q=>Un q U8<|C4 1 [0,1,5,7,8,16] f Z<|Uo (fun g=>?_) fun g=>?_
  ·have r:decide (z=x)=true:=by simpa using g
   exact Ul 2 [4] Z<|Ut U2<|⟨by rw [om e r a,RR],Z⟩
  have s:decide (z=x)=false:=by simpa using g
  refine Uq fun R f=>Uw _ U7<|C4 1 [0,1,7,8] f Z<|UA (m':=l.length-(i+1)) om_ o (hn_ [0,1,7,8] Z) ⟨i+1,⟨by omega,fun y hy=>by
   rw [Q5,e] at hy;rcases QX.1 hy with hy | hy
   ·exact a y hy
   simp only [R5,Q3] at hy;subst hy;exact s⟩,Z,Z,Z⟩
 have d:i=l.length:=by
  have:¬ i<l.length:=by simpa using c
  omega
 exact Ul 1 [4] Z<|Ut U2<|⟨by rw [d,QV] at a;rw [lX a],Z⟩
theorem uS (C:Mem)(v:Value)(l:List Int)(z:Int)(a:Sl C 1 v (l.map mf)):Gives cx.P 84 [v,.int .i64 z] C (.bool (decide (z∈l))):=by
 refine Uv func84 9 U3 fun w0=>?_;refine Ul 1 [0,1] Z ?_;refine Um 2 Z fun R b=>?_;refine Uy (DJ _ v l z a.m_) U7 ?_;refine C4 2 [4] b Z ?_;refine Ut U2 ?_;refine ⟨?_,Z⟩;congr 1;rw [Rv];rcases mY (fun y=>decide (z=y)) l with ⟨h1,h2⟩ | ⟨i,x,h1,h2,h3,_⟩
 ·rw [h1];constructor
  ·intro h;omega
  intro h;have:=h2 z h;simp at this
 rw [h1];constructor
 ·intro _;have:z=x:=aW h3;rw [this];exact QF h2
 intro _;omega
def rJ (n:Nat)(l:List Int)(i:Nat):Int:=if l.getD i 0<0∨(n:Int)<=l.getD i 0 then 3 else if l.getD i 0∈l.take i then 9 else 0
def chZ (n:Nat)(l:List Int):Int:=bU (rJ n l) l.length
theorem Pz {l:List Int}(h:chZ n l=0):l=(l.map Int.toNat).map (fun i:Nat=>(i:Int))/\∀ i∈l.map Int.toNat,i<n:=by
 have c:∀ z∈l,0<=z/\z<(n:Int):=by
  intro z a;obtain ⟨i,b⟩:=Sg a;have h1:=lY h i (aE.1 b).1;unfold rJ at h1;rw [al,b,R0] at h1;split at h1
  ·cases h1
  omega
 refine ⟨?_,fun i b=>?_⟩
 ·rw [Ry];symm;have e:∀ z∈l,((fun i:Nat=>(i:Int)) ∘ Int.toNat) z=id z:=fun z a=>Int.toNat_of_nonneg (c z a).1;rw [List.map_congr_left e,List.map_id]
 obtain ⟨z,a,rfl⟩:=QO.1 b;have:=c z a;omega
theorem Eb (C:Mem)(y:Tabs C)(A E:Value)(B:Bk)(F:List Rat)(g:Nat->List RowQ)(l:List Int)(o:BookIn C A B)(p:Rich B F g)(c:Sl C 1 E (l.map mf))(N:l.length<=100)(O:chZ B.obs.length l=0->(bj (bi B) g (l.map Int.toNat)).length<=300) :
  Pur cx.P 52 [A,E] C fun u D=>∃ v,u=.tuple #[v,.int .i64 (chZ B.obs.length l)]/\xQ D v (if chZ B.obs.length l=0 then bj (bi B) g (l.map Int.toNat) else []):=by
 have H:=o;have Q:=c;have I:=p.bookz y o;obtain ⟨v1,v2,tv,cv,ov,rfl,h1,h2,h3,h4,h5⟩:=id o.ex;obtain ⟨A5,c5,rfl,S,ag,_⟩:=id h5;obtain ⟨q,d,rfl,T,ah,_⟩:=id c;have ai:maxLen<=9223372036854775807:=by simp [maxLen]
 simp only [aw] at h5 S H I c Q T ⊢;refine Uv func52 46 U3 fun w0=>Uq fun R a=>UF U6 fun U=>C4 2 [1,2] a Z<|G.freeze 0 Z fun _ _ r=>Uq fun R a=>Un (bkT r 5) U8<|Uy (Ql _ _ B I.m_ p.h60) U7<|Us 3 Z<|UH U5 fun V=>Ux (j:=0) U12<|C4 1 [1,2,6,7] a Z<|Ul 2 [1,2,6,7,16] Z<|Uo (fun J=>?_) fun J=>?_
 ·exact absurd J dc_
 refine G.freeze 0 Z fun _ _ W=>Ul 3 [1,2,6,18,19,20] Z<|G.loop (fun fr C' X Y=>∃ (i:Nat),(i<=l.length/\bU (rJ B.obs.length l) i=0)/\fr=[(1,[],.slice q l.length d),(2,[],.pointer (some ⟨U,0,none⟩)),(6,[],.pointer (some ⟨V,0,none⟩)),(18,[],.slice q l.length d),(19,[],.int .i64 l.length),(20,[],.int .i64 i)]/\X=[]/\Y=l.length-i) (hn_ [1,2,6,18,19,20] Z) ⟨0,⟨QK _,Z⟩,Z,Z,Z⟩ (fun fr ak am m _ hI=>?_);obtain ⟨i,⟨hi,k⟩,rfl,rfl,rfl⟩:=hI;refine Ul 1 [1,2,6,18,19,20,21] Z<|Uo (fun s=>?_) fun s=>?_
 ·have e:i<l.length:=by
   have:=aW s;omega
  obtain ⟨z,K⟩:∃ z,l[i]?=some z:=⟨l[i],aj e⟩;have t:l.getD i 0=z:=by rw [al,K,R0]
  have L:=Sl.sub c (l:=0) (h:=i) (m:=d) (QK _) ap om_ (QG _);rw [RQ,<- Tn] at L;refine Um 1 Z fun R a=>UD c.m_ U10 om_ (ci K) fl_ fun an aa=>Un aa U8<|C4 2 [1,2,6,8,9,18,19,20] a Z<|Um 5 Z fun R a=>UQ U6 (fun _=>PtrTo.blockT (Mem.get r mup) _ 1) U3<|Us 2 Z<|US U8<|Ur [1,2,6,8,9,18,19,20,33] a Z<|Uo (fun w=>?_) fun w=>?_
  ·have b:rJ B.obs.length l i=3:=by
    unfold rJ;rw [t,aJ (by simp only [Sr,QQ] at w;omega)]
   have f:chZ B.obs.length l=3:=by
    unfold chZ;rw [gd k (by rw [b];decide) e,b]
   refine Ul 2 [4,5] Z<|Uz (G.dropAll (UO U3 ?_));exact ⟨Z,.slice none 0 0,by rw [f],by rw [f];exact ⟨[],RowsOk.nil _,Sl.nil _ _⟩⟩
  have M:¬ (z<0∨(B.obs.length:Int)<=z):=by
   simp only [Sq,Q1] at w;omega
  refine Um 2 Z fun R a=>Vf 0 i d U12 (fun _=>⟨.inl ⟨Z,Z⟩,.inr ⟨_,Z⟩,.inl ⟨Z,Z⟩,by omega,by omega,by omega⟩) U2<|Up U6<|Uy (uS _ _ (l.take i) z L.m_) U7<|Ur [1,2,6,18,19,20,38] a Z<|Uo (fun x=>?_) fun x=>?_
  ·have hm:z∈l.take i:=aW x;have b:rJ B.obs.length l i=9:=by
    unfold rJ;rw [t,aB M,aJ hm]
   have f:chZ B.obs.length l=9:=by
    unfold chZ;rw [gd k (by rw [b];decide) e,b]
   refine Ul 2 [4,5] Z<|Uz (G.dropAll (UO U3 ?_));exact ⟨Z,.slice none 0 0,by rw [f],by rw [f];exact ⟨[],RowsOk.nil _,Sl.nil _ _⟩⟩
  have hm:z ∉ l.take i:=QJ x;have b:rJ B.obs.length l i=0:=by
   unfold rJ;rw [t,aB M,aB hm]
  refine Uq fun R a=>Uw _ U7<|C4 1 [1,2,6,18,19,20] a Z<|UA (m':=l.length-(i+1)) om_ mup (hn_ [1,2,6,18,19,20] Z) ⟨i+1,⟨by omega,iw k b⟩,Z,Z,Z⟩
 have e:i=l.length:=by
  have:=QJ s;omega
 subst e;have n:chZ B.obs.length l=0:=k;obtain ⟨ab,ac⟩:=Pz n;have ad:Sl C 1 (.slice q l.length d) ((l.map Int.toNat).map aL):=by
  have h:=congrArg (List.map mf) ab;rw [Ry] at h;rw [show (l.map Int.toNat).map aL=l.map mf from h.symm];exact c
 refine Uq fun R a=>Un (bkT W 2) U8<|Un (bkT r 5) U8<|Up U6<|UT (HI _ y.m_ _ _ B F g (l.map Int.toNat) H.m_ p ad.m_ ac (by simpa using N) (O n)) U7 fl_ (fun ao _ _ ae=>?_);obtain ⟨rv,rfl,af⟩:=ae;refine C4 4 [4,5] a Z<|Uz (G.dropAll (UO U3 ?_));exact ⟨Z,rv,by rw [n],by rw [aJ n];exact af⟩
def dotV (f x:List Rat):Nat->Rat
 | 0=>0
 | n+1=>dotV f x n+f.getD n 0*x.getD n 0
structure DotOk (r:RowQ)(x:List Rat):Prop where
 f:∀ q∈r.f,QB 22 q
 b:QB 22 r.b
 len:r.f.length=x.length
 s:∀ n,QB 2000 (dotV r.f x n)
def sqP:List (Int × Int):=[(0,0),(4,0),(4,4),(0,4)]
def shP:Nat->List (Int × Int)
 | 0=>sqP
 | 1=>sqP
 | 2=>sqP++[(2,1)]
 | 3=>[(0,0),(6,0),(0,4)]
 | 4=>[(0,0),(2,0),(4,0),(0,2),(2,2),(4,2)]
 | 5=>[(1,4),(5,3),(4,0),(0,0)]
 | 6=>sqP++[(2,0)]
 | _=>[(0,0),(6,0),(0,6),(2,2)]
def shT:Nat->List Tri
 | 0=>[(0,1,2),(0,2,3)]
 | 1=>[(0,1,3),(1,2,3)]
 | 2=>[(0,1,4),(1,2,4),(2,3,4),(3,0,4)]
 | 3=>[(2,0,1)]
 | 4=>[(0,1,4),(0,4,3),(1,2,5),(1,5,4)]
 | 5=>[(3,2,1),(3,1,0)]
 | 6=>[(0,4,3),(4,2,3),(4,1,2)]
 | _=>[(0,1,3),(1,2,3),(2,0,3)]
def Qs (p:Int × Int):List Value:=[.int .i64 p.1,.int .i64 p.2]
def ShIn (u:Value)(D:Mem)(m:Nat):Prop:=∃ pv tv,u=.tuple #[pv,tv]/\Sl D 2 pv ((shP m).map Qs)/\Sl D 3 tv ((shT m).map kM)
theorem De (C:Mem)(a:Nat)(_H:a<256):Pur cx.P 94 [.int .u8 a] C fun u D=>ShIn u D (a % 8):=by
 have I:a % 8<8:=Rs _ dc_;obtain ⟨m,hm⟩:∃ m,a % 8=m:=⟨_,rfl⟩;refine Uv func94 86 U3 fun w0=>Ul 2 [0] Z<|Uq fun R b=>UG ([.int .i64 0,.int .i64 0]) U8<|UG ([.int .i64 4,.int .i64 0]) U8<|UG ([.int .i64 4,.int .i64 4]) U8<|UG ([.int .i64 0,.int .i64 4]) U8<|U0 [[.int .i64 0,.int .i64 0],[.int .i64 4,.int .i64 0],[.int .i64 4,.int .i64 4],[.int .i64 0,.int .i64 4]] U12 fl_ fun J _ _ d=>C4 1 [0,4] b Z<|Um 1 Z fun R b=>Vk (a) (8) U6 om_ U2<|Ur [4,11] b Z<|Ul 2 [4,11,12] Z<|Uo (fun f=>?_) fun f=>?_
 ·have c:a % 8=0:=by
   have:=dU f;omega
  refine Um 1 Z fun R b=>UG ([.int .i64 0,.int .i64 1,.int .i64 2]) U8<|UG ([.int .i64 0,.int .i64 2,.int .i64 3]) U8<|UI [[.int .i64 0,.int .i64 1,.int .i64 2],[.int .i64 0,.int .i64 2,.int .i64 3]] U12 fun K _ _ n=>C4 2 [2,3] b Z<|Uz (G.dropAll (UO U3 ?_));exact ⟨Z,by rw [c];exact ⟨_,_,Z,d.mono mup,n.mono mup⟩⟩
 have L:a % 8≠0:=by
  intro e;rw [e] at f;exact absurd f dc_
 refine Ul 2 [4,11,18] Z<|Uo (fun g=>?_) fun g=>?_
 ·have c:a % 8=1:=by
   have:=dU g;omega
  refine Um 1 Z fun R b=>UG ([.int .i64 0,.int .i64 1,.int .i64 3]) U8<|UG ([.int .i64 1,.int .i64 2,.int .i64 3]) U8<|UI [[.int .i64 0,.int .i64 1,.int .i64 3],[.int .i64 1,.int .i64 2,.int .i64 3]] U12 fun M _ _ o=>C4 2 [2,3] b Z<|Uz (G.dropAll (UO U3 ?_));exact ⟨Z,by rw [c];exact ⟨_,_,Z,d.mono mup,o.mono mup⟩⟩
 have N:a % 8≠1:=by
  intro e;rw [e] at g;exact absurd g dc_
 refine Ul 2 [4,11,24] Z<|Uo (fun h=>?_) fun h=>?_
 ·have c:a % 8=2:=by
   have:=dU h;omega
  refine Um 1 Z fun R b=>UG ([.int .i64 2,.int .i64 1]) U8<|UI [[.int .i64 2,.int .i64 1]] U12 fun O _ _ p=>Wp Z Z Z Z Z Z Z Z Z Z d.m_ p.m_ (.inr dc_) (by simp only [QY,Rq,maxLen];omega) dc_ fl_ fun Q _ _ q=>UG ([.int .i64 0,.int .i64 1,.int .i64 4]) U8<|UG ([.int .i64 1,.int .i64 2,.int .i64 4]) U8<|UG ([.int .i64 2,.int .i64 3,.int .i64 4]) U8<|UG ([.int .i64 3,.int .i64 0,.int .i64 4]) U8<|UI [[.int .i64 0,.int .i64 1,.int .i64 4],[.int .i64 1,.int .i64 2,.int .i64 4],[.int .i64 2,.int .i64 3,.int .i64 4],[.int .i64 3,.int .i64 0,.int .i64 4]] U12 fun S _ _ r=>C4 2 [2,3] b Z<|Uz (G.dropAll (UO U3 ?_));exact ⟨Z,by rw [c];exact ⟨_,_,Z,q.mono mup,r.mono mup⟩⟩
 have T:a % 8≠2:=by
  intro e;rw [e] at h;exact absurd h dc_
 refine Ul 2 [4,11,35] Z<|Uo (fun i=>?_) fun i=>?_
 ·have c:a % 8=3:=by
   have:=dU i;omega
  refine Uq fun R b=>UG ([.int .i64 0,.int .i64 0]) U8<|UG ([.int .i64 6,.int .i64 0]) U8<|UG ([.int .i64 0,.int .i64 4]) U8<|UI [[.int .i64 0,.int .i64 0],[.int .i64 6,.int .i64 0],[.int .i64 0,.int .i64 4]] U12 fun U _ _ s=>UG ([.int .i64 2,.int .i64 0,.int .i64 1]) U8<|UI [[.int .i64 2,.int .i64 0,.int .i64 1]] U12 fun V _ _ t=>C4 2 [2,3] b Z<|Uz (G.dropAll (UO U3 ?_));exact ⟨Z,by rw [c];exact ⟨_,_,Z,s.mono mup,t.mono mup⟩⟩
 have W:a % 8≠3:=by
  intro e;rw [e] at i;exact absurd i dc_
 refine Ul 2 [4,11,43] Z<|Uo (fun j=>?_) fun j=>?_
 ·have c:a % 8=4:=by
   have:=dU j;omega
  refine Uq fun R b=>UG ([.int .i64 0,.int .i64 0]) U8<|UG ([.int .i64 2,.int .i64 0]) U8<|UG ([.int .i64 4,.int .i64 0]) U8<|UG ([.int .i64 0,.int .i64 2]) U8<|UG ([.int .i64 2,.int .i64 2]) U8<|UG ([.int .i64 4,.int .i64 2]) U8<|UI [[.int .i64 0,.int .i64 0],[.int .i64 2,.int .i64 0],[.int .i64 4,.int .i64 0],[.int .i64 0,.int .i64 2],[.int .i64 2,.int .i64 2],[.int .i64 4,.int .i64 2]] U12 fun X _ _ v=>UG ([.int .i64 0,.int .i64 1,.int .i64 4]) U8<|UG ([.int .i64 0,.int .i64 4,.int .i64 3]) U8<|UG ([.int .i64 1,.int .i64 2,.int .i64 5]) U8<|UG ([.int .i64 1,.int .i64 5,.int .i64 4]) U8<|UI [[.int .i64 0,.int .i64 1,.int .i64 4],[.int .i64 0,.int .i64 4,.int .i64 3],[.int .i64 1,.int .i64 2,.int .i64 5],[.int .i64 1,.int .i64 5,.int .i64 4]] U12 fun Y _ _ w=>C4 2 [2,3] b Z<|Uz (G.dropAll (UO U3 ?_));exact ⟨Z,by rw [c];exact ⟨_,_,Z,v.mono mup,w.mono mup⟩⟩
 have aa:a % 8≠4:=by
  intro e;rw [e] at j;exact absurd j dc_
 refine Ul 2 [4,11,57] Z<|Uo (fun k=>?_) fun k=>?_
 ·have c:a % 8=5:=by
   have:=dU k;omega
  refine Uq fun R b=>UG ([.int .i64 1,.int .i64 4]) U8<|UG ([.int .i64 5,.int .i64 3]) U8<|UG ([.int .i64 4,.int .i64 0]) U8<|UG ([.int .i64 0,.int .i64 0]) U8<|UI [[.int .i64 1,.int .i64 4],[.int .i64 5,.int .i64 3],[.int .i64 4,.int .i64 0],[.int .i64 0,.int .i64 0]] U12 fun ab _ _ x=>UG ([.int .i64 3,.int .i64 2,.int .i64 1]) U8<|UG ([.int .i64 3,.int .i64 1,.int .i64 0]) U8<|UI [[.int .i64 3,.int .i64 2,.int .i64 1],[.int .i64 3,.int .i64 1,.int .i64 0]] U12 fun ac _ _ y=>C4 2 [2,3] b Z<|Uz (G.dropAll (UO U3 ?_));exact ⟨Z,by rw [c];exact ⟨_,_,Z,x.mono mup,y.mono mup⟩⟩
 have ad:a % 8≠5:=by
  intro e;rw [e] at k;exact absurd k dc_
 refine Ul 2 [4,67] Z<|Uo (fun l=>?_) fun l=>?_
 ·have c:a % 8=6:=by
   have:=dU l;omega
  refine Um 1 Z fun R b=>UG ([.int .i64 2,.int .i64 0]) U8<|UI [[.int .i64 2,.int .i64 0]] U12 fun ae _ _ z=>Wp Z Z Z Z Z Z Z Z Z Z d.m_ z.m_ (.inr dc_) (by simp only [QY,Rq,maxLen];omega) dc_ fl_ fun af _ _ A=>UG ([.int .i64 0,.int .i64 4,.int .i64 3]) U8<|UG ([.int .i64 4,.int .i64 2,.int .i64 3]) U8<|UG ([.int .i64 4,.int .i64 1,.int .i64 2]) U8<|UI [[.int .i64 0,.int .i64 4,.int .i64 3],[.int .i64 4,.int .i64 2,.int .i64 3],[.int .i64 4,.int .i64 1,.int .i64 2]] U12 fun ag _ _ B=>C4 2 [2,3] b Z<|Uz (G.dropAll (UO U3 ?_));exact ⟨Z,by rw [c];exact ⟨_,_,Z,A.mono mup,B.mono mup⟩⟩
 have ah:a % 8≠6:=by
  intro e;rw [e] at l;exact absurd l dc_
 refine Uq fun R b=>UG ([.int .i64 0,.int .i64 0]) U8<|UG ([.int .i64 6,.int .i64 0]) U8<|UG ([.int .i64 0,.int .i64 6]) U8<|UG ([.int .i64 2,.int .i64 2]) U8<|UI [[.int .i64 0,.int .i64 0],[.int .i64 6,.int .i64 0],[.int .i64 0,.int .i64 6],[.int .i64 2,.int .i64 2]] U12 fun ai _ _ E=>UG ([.int .i64 0,.int .i64 1,.int .i64 3]) U8<|UG ([.int .i64 1,.int .i64 2,.int .i64 3]) U8<|UG ([.int .i64 2,.int .i64 0,.int .i64 3]) U8<|UI [[.int .i64 0,.int .i64 1,.int .i64 3],[.int .i64 1,.int .i64 2,.int .i64 3],[.int .i64 2,.int .i64 0,.int .i64 3]] U12 fun aj _ _ F=>C4 2 [2,3] b Z<|Uz (G.dropAll (UO U3 ?_));exact ⟨Z,by rw [show a % 8=7 by omega];exact ⟨_,_,Z,E.mono mup,F.mono mup⟩⟩
theorem EJ {n:Int}(a:-128<=n)(b:n<128):IntKind.i8.wrap n=n:=by
 simp [IntKind.wrap,IntKind.bits,IntKind.signed];omega
theorem Lj:∀ m:Nat,∀ p∈shP m,0<=p.1/\p.1<=6/\0<=p.2/\p.2<=6
 | 0=>by decide
 | 1=>by decide
 | 2=>by decide
 | 3=>by decide
 | 4=>by decide
 | 5=>by decide
 | 6=>by decide
 | _+7=>by
  show ∀ p∈([(0,0),(6,0),(0,6),(2,2)]:List (Int × Int)),0<=p.1/\p.1<=6/\0<=p.2/\p.2<=6;decide
theorem Fk:∀ m:Nat,(shP m).length<=6
 | 0=>by decide
 | 1=>by decide
 | 2=>by decide
 | 3=>by decide
 | 4=>by decide
 | 5=>by decide
 | 6=>by decide
 | _+7=>by
  show ([(0,0),(6,0),(0,6),(2,2)]:List (Int × Int)).length<=6;decide
def cE (m:Nat)(a b:Int)(h:Bool):List Pt:=(shP m).map fun p=>dF a b h p.1 p.2 1
theorem lJ (m:Nat)(a b:Int)(h:Bool):(cE m a b h).length<=6:=by rw [cE,aw];exact Fk m
theorem qD {z w:Int}(c:w≠0)(a:z.natAbs<1000000000)(b:w.natAbs<1000000000):QB 1 (lf z w):=by
 unfold lf;refine fY om_ ?_ ?_
 ·show _<B9 ^ 1;split
  ·rw [TP];exact a
  exact a
 exact b
theorem Bt {a b:Int}{h:Bool}{x y n:Int}(i:0<n)(j:n<=4)(k:-128<=x/\x<=127)(l:-128<=y/\y<=127):QP 1 (dF a b h x y n):=by
 have c:=yj a;have d:=yj b;have g:dV h=1∨dV h=2:=by cases h <;> simp [dV]
 have f:∀ z:Int, -8<z->z<8->-32<z*n/\z*n<32:=fun z h1 h2=>by
  rcases (by omega:n=1∨n=2∨n=3∨n=4) with e | e | e | e <;> subst e <;> omega
 have m:=f _ c.1 c.2;have o:=f _ d.1 d.2;have p:0<dV h*n/\dV h*n<=8:=by rcases g with e | e <;> rw [e] <;> omega
 exact ⟨qD om_ om_ om_,qD om_ om_ om_⟩
theorem wS (C:Mem)(F:Tabs C)(d:Nat)(a b:Int)(h:Bool)(H:d<256):Pur cx.P 61 [Li d a b h] C fun u D=>MeshIn D u (cE (d % 8) a b h) (shT (d % 8)):=by
 have I:=Lj (d % 8);have ad:=Fk (d % 8);refine Uv func61 42 U3 fun w0=>Uq fun R e=>UF U6 fun J=>UH U5 fun f=>Ur [1,2] e Z<|G.freeze 1 Z fun _ _ x=>Um 1 Z fun R e=>Un (bkT x 1) U8<|UV (De _ d H) U7 (fun ae _ _ K=>?_);obtain ⟨pv,tv,rfl,g,q⟩:=K;obtain ⟨L,M,rfl,N,ag,_⟩:=id g;obtain ⟨k,l,rfl,ah,ai,_⟩:=id q;simp only [aw] at g q N ⊢;refine C4 5 [1,2,3,4] e Z<|Um 1 Z fun R e=>UG [.slice none 0 0,.slice k (shT (d % 8)).length l] U8<|UH U5 fun n=>Ux (j:=0) U12<|Ur [1,2,3,5] e Z<|Ul 1 [1,2,3,5,6] Z<|G.nilArr 58 2<|G.perm (L':=[.obj n (.cells ⟨[.slice none 0 0,.slice k (shT (d % 8)).length l]⟩ 36 (0,0)),.arr (.slice none 0 0) 58 2 0 [],.obj f (.cells ⟨[.slice none 0 0,.slice none 0 0]⟩ 36 (0,0))]) (List.Perm.swap _ _ _)<|G.loop (fun fr C' s O=>∃ (i:Nat)(w:Value),(i<=(shP (d % 8)).length)/\fr=[(1,[],.pointer (some ⟨J,0,none⟩)),(2,[],.pointer (some ⟨f,0,none⟩)),(3,[],.slice L (shP (d % 8)).length M),(5,[],.pointer (some ⟨n,0,none⟩)),(6,[],.int .i64 i)]/\s=[.obj n (.cells ⟨[w,.slice k (shT (d % 8)).length l]⟩ 36 (0,0)),.arr w 58 2 ((cE (d % 8) a b h).take i).length (((cE (d % 8) a b h).take i).map gw).flatten,.obj f (.cells ⟨[.slice none 0 0,.slice none 0 0]⟩ 36 (0,0))]/\O=(shP (d % 8)).length-i) (hn_ [1,2,3,5,6] Z) ⟨0,.slice none 0 0,QK _,Z,Z,Z⟩ (fun fr ak al m _ Q=>?_);obtain ⟨i,w,hi,rfl,rfl,rfl⟩:=Q;refine Ul 4 [1,2,3,5,6,18] Z<|Uo (fun t=>?_) fun t=>?_
 ·have v:i<(shP (d % 8)).length:=by
   have:=aW t;omega
  obtain ⟨p,o⟩:∃ p,(shP (d % 8))[i]?=some p:=⟨(shP (d % 8))[i],aj v⟩;obtain ⟨am,an,ao,ap⟩:=I p (QF o);have S:(cE (d % 8) a b h)[i]?=some (dF a b h p.1 p.2 1):=by unfold cE;rw [QI,o];rfl
  have T:(cE (d % 8) a b h).take (i+1)=(cE (d % 8) a b h).take i++[dF a b h p.1 p.2 1]:=by rw [Q5,S];rfl
  have aq:((cE (d % 8) a b h).take i).length<=6:=by rw [QW];have:=lJ (d % 8) a b h;omega
  refine UJ [0,1,2,3,4,5,6,7,8,9,10,11,12,13,14,15,16,17,18,19,20] [(16,1),(8,0),(14,0)] Z kr_ fun R hB e=>Up U6<|Uu af U9<|Un (bkT x 4) U8<|Us 2 Z<|UD g.m_ U10 om_ (ci o) fl_ fun ar U=>VX U9 (fun _=>U) (fun _=>⟨by omega,om_⟩) fl_ Z (fun au V=>?_);have W:=V trivial;refine Un W U8<|Vs (c:=p.1) U8 (EJ om_ om_) U2<|Us 2 Z<|UD g.m_ U10 om_ (ci o) fl_ fun av X=>VX U9 (fun _=>X) (fun _=>⟨by omega,om_⟩) fl_ Z (fun ay Y=>?_);have aa:=Y trivial;refine Un aa U8<|Vs (c:=p.2) U8 (EJ om_ om_) U2<|UG [.int .i8 p.1,.int .i8 p.2] U8<|UK (fun _=>(Bu _ F.m_ d a b h p.1 p.2 1 dc_ dc_ ⟨by omega,by omega⟩ ⟨by omega,by omega⟩)) U9<|UI [gw (dF a b h p.1 p.2 1)] U12 fun az _ _ ab=>UP (j:=1) U11 ab.m_ Z ax (by simp only [aK];omega) fl_ fun z A B=>Up U6<|Ux (j:=1) U12<|Ur [1,2,3,5,6] e Z<|Um 1 Z fun R e=>Uw _ U7<|C4 1 [1,2,3,5,6] e Z<|UE (L':=[.obj n (.cells ⟨[.slice z A B,.slice k (shT (d % 8)).length l]⟩ 36 (0,0)),.arr (.slice z A B) 58 2 ((cE (d % 8) a b h).take (i+1)).length (((cE (d % 8) a b h).take (i+1)).map gw).flatten,.obj f (.cells ⟨[.slice none 0 0,.slice none 0 0]⟩ 36 (0,0))]) (by rw [T,Rj,Ri,QM];rfl)<|UA (m':=(shP (d % 8)).length-(i+1)) om_ mup (hn_ [1,2,3,5,6] Z) ⟨i+1,_,om_,Z,Z,Z⟩
 have v:i=(shP (d % 8)).length:=by
  have:=QJ t;omega
 have ac:(cE (d % 8) a b h).take i=cE (d % 8) a b h:=Rr (by rw [v,cE,aw];exact QG _);rw [ac];refine G.freezeArr 1 ((cE (d % 8) a b h).map gw) rfl rfl (by intro r hr;obtain ⟨y,_,rfl⟩:=QO.1 hr;rfl) (by rw [aw]) (fun Cg hg E=>?_);obtain ⟨Aw,cw,rfl,_⟩:=id E;refine Uq fun R e=>Uu af U9<|Ux (j:=1) U12<|Ur [2] e Z<|Uz (Vi af U4 ?_);exact ⟨Z,_,_,Z,E,q.mono mup⟩
structure Hts where
 h0:Int
 h1:Int
 h2:Int
 h3:Int
 h4:Int
 h5:Int
 half:Bool
def Ij (H:Hts):List Int:=[H.h0,H.h1,H.h2,H.h3,H.h4,H.h5]
def Pm (H:Hts):List Value:=[.int .i8 H.h0,.int .i8 H.h1,.int .i8 H.h2,.int .i8 H.h3,.int .i8 H.h4,.int .i8 H.h5,.bool H.half]
def PZ (H:Hts):Prop:=∀ z∈Ij H, -128<=z/\z<=127
def fsK (n:Nat)(H:Hts):List Rat:=(List.range n).map fun i=>lf (((Ij H).getD (i % 6) 0).tmod 20) (dV H.half)
theorem EZ (a:Int):-20<a.tmod 20/\a.tmod 20<20:=by
 have h:(a.tmod 20).natAbs=a.natAbs % 20:=Tr a 20;omega
theorem uD (h:Bool):dV h=1∨dV h=2:=by cases h <;> simp [dV]
theorem uG (n:Nat)(H:Hts):(fsK n H).length=n:=by simp [fsK]
theorem G9 (n:Nat)(H:Hts):∀ q∈fsK n H,QB 1 q:=by
 intro q a;unfold fsK at a;obtain ⟨i,_,rfl⟩:=QO.1 a;have h1:=EZ ((Ij H).getD (i % 6) 0);have h2:=uD H.half;exact qD om_ om_ om_
theorem Nv (H:Hts)(j:Nat)(a:j<6):((Pm H).drop j).take 1=[.int .i8 ((Ij H).getD j 0)]:=by
 rcases (by omega:j=0∨j=1∨j=2∨j=3∨j=4∨j=5) with rfl | rfl | rfl | rfl | rfl | rfl <;> rfl
theorem jt (C:Mem)(B:Tabs C)(o E:Value)(n:Nat)(F:Option Addr)(I:Nat)(H:Hts)(J:o=.slice F n I)(S:n<=400)(K:PZ H):Pur cx.P 62 [.agg ⟨[o,E]⟩,.agg ⟨Pm H⟩] C fun u D=>Sl D 1 u ((fsK n H).map fe):=by
 subst J;obtain ⟨h0,h1,h2,h3,h4,h5,a⟩:=H;have T:maxLen<=9223372036854775807:=by simp [maxLen]
 refine Uv func62 31 U3 fun w0=>Uq fun R b=>UF U6 fun p=>UF U6 fun q=>C4 1 [2,3] b Z<|G.freeze 1 Z fun _ _ L=>G.freeze 0 Z fun _ _ s=>Uq fun R b=>Vy [] U12 fl_ fun t=>C4 1 [2,3,5] b Z<|Ul 1 [2,3,5,6] Z<|Um 1 Z fun R b=>Un (bkT s 1) U8<|Ur [2,3,5,6,10] b Z<|G.cut (fun fr C' d e=>(True)/\fr=[(2,[],.pointer (some ⟨p,0,none⟩)),(3,[],.pointer (some ⟨q,0,none⟩)),(5,[],.slice (some ⟨t,0,none⟩) 0 0),(6,[],.int .i64 (dV a))]/\d=[.arr (.slice (some ⟨t,0,none⟩) 0 0) 56 1 0 []]) ?_ (fun fr _ U e _ f=>?_)
 ·refine Uo (fun g=>?_) fun g=>?_
  ·have h1:a=true:=g;subst h1;refine Ul 1 [2,3,5,6] Z<|UB 0 (Mem.le.refl _) (hn_ [2,3,5,6] Z) ⟨trivial,Z,Z⟩
  have h1:a=false:=g;subst h1;refine UB 0 (Mem.le.refl _) (hn_ [2,3,5,6] Z) ⟨trivial,Z,Z⟩
 obtain ⟨_,rfl,rfl⟩:=f;refine Ul 1 [2,3,5,6,7] Z<|G.loop (fun fr C' d e=>∃ (i:Nat)(w:Value),(i<=n)/\fr=[(2,[],.pointer (some ⟨p,0,none⟩)),(3,[],.pointer (some ⟨q,0,none⟩)),(5,[],w),(6,[],.int .i64 (dV a)),(7,[],.int .i64 i)]/\d=[.arr w 56 1 ((fsK n ⟨h0,h1,h2,h3,h4,h5,a⟩).take i).length (((fsK n ⟨h0,h1,h2,h3,h4,h5,a⟩).take i).map fe).flatten]/\e=n-i) (hn_ [2,3,5,6,7] Z) ⟨0,_,QK _,Z,Z,Z⟩ (fun fr V W m _ f=>?_);obtain ⟨i,w,X,rfl,rfl,rfl⟩:=f;refine Um 2 Z fun R b=>Un (bkT L 1) U8<|C4 2 [2,3,5,6,7,15] b Z<|Uo (fun h=>?_) fun h=>?_
 ·have k:i<n:=by
   have:=aW h;omega
  have v:i % 6<6:=Rs _ dc_;obtain ⟨z,l⟩:∃ z,(Ij ⟨h0,h1,h2,h3,h4,h5,a⟩).getD (i % 6) 0=z:=⟨_,rfl⟩;have x:=Nv ⟨h0,h1,h2,h3,h4,h5,a⟩ (i % 6) v;rw [l] at x;have M:z∈Ij ⟨h0,h1,h2,h3,h4,h5,a⟩:=by
   rw [<- l,al,aj (show i % 6<(Ij ⟨h0,h1,h2,h3,h4,h5,a⟩).length from v),R0];exact RH _
  have Y:=K z M;have aa:=EZ z;have ab:=uD a;have N:(fsK n ⟨h0,h1,h2,h3,h4,h5,a⟩).take (i+1)=(fsK n ⟨h0,h1,h2,h3,h4,h5,a⟩).take i++[lf (z.tmod 20) (dV a)]:=by
   rw [Q5,show (fsK n ⟨h0,h1,h2,h3,h4,h5,a⟩)[i]?=some (lf (z.tmod 20) (dV a)) by unfold fsK;rw [QI,Ro k,<- l];rfl];rfl
  have ac:((fsK n ⟨h0,h1,h2,h3,h4,h5,a⟩).take i).length<=400:=by rw [QW,uG];omega
  refine Um 2 Z fun R b=>Vk (i) (6) U6 om_ U2<|Up U6<|UL ((i % 6)) U9 (fun _=>⟨by omega,by omega,(by show i % 6=0+(i % 6)*1;omega)⟩) U2<|VD (PtrTo.blockT (Mem.get s mup) (i % 6) 1) U6 (show bY _ (((Pm ⟨h0,h1,h2,h3,h4,h5,a⟩).drop (i % 6)).take 1)=some (.int .i8 z) from by rw [x];rfl) Z<|Vb (c:=z) U8 (wrap_i64 om_ om_) fl_<|Vt (z.tmod 20) U6 dc_ U3<|Up U6<|UC (Pb _ B.m_ (z.tmod 20) (dV a) om_ om_ om_) U7 fl_<|UI [fe (lf (z.tmod 20) (dV a))] U12 fun ad _ _ O=>D.append (j:=0) U11 O Z ax (by simp only [aK];omega) fl_ fun A=>C4 1 [2,3,5,6,7] b Z<|Um 1 Z fun R b=>Uw _ U7<|C4 1 [2,3,5,6,7] b Z<|UE (L':=[.arr A 56 1 ((fsK n ⟨h0,h1,h2,h3,h4,h5,a⟩).take (i+1)).length (((fsK n ⟨h0,h1,h2,h3,h4,h5,a⟩).take (i+1)).map fe).flatten]) (by rw [N,Rj,Ri,QM];rfl)<|UA (m':=n-(i+1)) om_ mup (hn_ [2,3,5,6,7] Z) ⟨i+1,A,om_,Z,Z,Z⟩
 have k:i=n:=by
  have:=QJ h;omega
 rw [show (fsK n ⟨h0,h1,h2,h3,h4,h5,a⟩).take i=fsK n ⟨h0,h1,h2,h3,h4,h5,a⟩ from Rr (by rw [k,uG];exact QG _)];exact Ul 2 [4] Z<|G.freezeArr 0 ((fsK n ⟨h0,h1,h2,h3,h4,h5,a⟩).map fe) rfl rfl (by intro r hr;obtain ⟨y,_,rfl⟩:=QO.1 hr;rfl) (by rw [aw]) fun Cg hg Q=>Ut U2<|⟨Z,Q⟩
end Go.Proofs.YthnpijdjlddpmaaGreatDoor
