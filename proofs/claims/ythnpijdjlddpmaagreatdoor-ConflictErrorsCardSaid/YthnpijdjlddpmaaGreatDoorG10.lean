/- Laws that the proofs of this seat share, part 10. -/
import Derived.Test.YthnpijdjlddpmaaGreatDoorG9
import Derived.Test.YthnpijdjlddpmaaGreatDoorShelf
set_option maxHeartbeats 4000000
namespace Go.Proofs.YthnpijdjlddpmaaGreatDoor
open Go.Proofs.Tryz
open Go Go.Jog
set_option maxRecDepth 100000
variable {B:Bk}{C:Mem}{RO:Nat->List RowQ}{err:Nat->Int}{fs:List Rat}{i k n:Nat}{o:Obs}{p:Pt}{r:RowQ}{t:Tri}{v:Value}{vs:List Value}{z:Rat}
theorem jq {l:List (Nat × Rat)}(q:Rat)(h:k ∉ l.map (·.1)):fD (eo l) ((k:Nat):Int) (ai (qtx q))=eo (l++[(k,q)]):=by
 rw [jl (by
  rw [ck];unfold eo;rw [Pc];intro hm;obtain ⟨x,a,b⟩:=OB.1 hm;have:x.1=k:=by
   have h2:((x.1:Nat):Int)=(k:Int):=b;omega
  exact h (this ▸ QE (f:=(·.1)) a))]
 simp [eo]
theorem pJ (a c:Pt):fw a a c=0/\fw c a a=0/\fw a c a=0:=by
 unfold fw;refine ⟨?_, ?_, ?_⟩ <;> grind
theorem sq {a:List Pt}{b:List Tri}(c:MeshOk a b)(d:t∈b):t.1≠t.2.1/\t.1≠t.2.2/\t.2.1≠t.2.2:=by
 have h:=nn c d;refine ⟨fun e=>h ?_,fun e=>h ?_,fun e=>h ?_⟩
 ·have:cor a t 1=cor a t 0:=by show a.getD t.2.1 _=a.getD t.1 _;rw [e]
  rw [this];exact (pJ _ _).1
 ·have:cor a t 2=cor a t 0:=by show a.getD t.2.2 _=a.getD t.1 _;rw [e]
  rw [this];exact (pJ _ _).2.2
 have:cor a t 2=cor a t 1:=by show a.getD t.2.2 _=a.getD t.2.1 _;rw [e]
 rw [this];exact (pJ _ _).2.1
def atT (t:Tri)(f:Nat->Rat):List (Nat × Rat):=[(t.1,f 0),(t.2.1,f 1),(t.2.2,f 2)]
theorem pG (f:Nat->Rat)(h:t.1≠t.2.1/\t.1≠t.2.2/\t.2.1≠t.2.2):((atT t f).map (·.1)).Nodup:=by
 simp [atT,h.1,h.2.1,h.2.2]
theorem CD (C:Mem)(w:Tabs C)(x:Value)(c:List Pt)(e:List Tri)(p:Pt)(i:Nat)(r:List Nat)(t:Tri)(y:MeshIn C x c e)(k:Good c e)(z:QP 23 p)(A:PtR p)(K:oP c e p=i::r)(g:e[i]?=some t)(L:∀ j,QB 22 (wgt c t p j)) :
  Pur cx.P 192 [x,ptV p] C fun u D=>∃ b,u=.tuple #[.map (some b),.int .i64 (i:Nat),.int .i64 0]/\D b=some (aN keyZ.enc (eo (atT t (wgt c t p)))):=by
 have M:=k.ok;have n:=y;have ad:=(aF.1 g).1;obtain ⟨N,O,Q⟩:=sq M (Oq g);obtain ⟨v1,v2,rfl,h1,h2⟩:=id y.ex;obtain ⟨A2,c2,rfl,S,ae,_⟩:=id h2;have af:maxLen<=9223372036854775807:=by simp [maxLen]
 simp only [al] at h2 n S ⊢;refine Sc func192 54 U3 fun w0=>R8 fun R a=>So U6 fun b2=>So U6 fun b3=>C4 3 [2,3] a Z<|G.freeze 1 Z fun _ _ o=>G.freeze 0 Z fun _ _ B=>R8 fun R a=>R5 (bkT o 2) U8<|R5 (bkT B 2) U8<|SI (oO _ w.m_ _ c e p n.m_ k z A) U7 (fun ah _ _ T=>?_);obtain ⟨wv,rfl,f⟩:=T;rw [K] at f;obtain ⟨U,V,E,_⟩:=id f;rw [al] at E;subst E;refine C4 5 [2,3,6,7] a Z<|C6 2 [2,3,6,7,18] Z<|R6 (fun F=>?_) fun F=>?_
 ·exact absurd F dc_
 refine Ss [0,1,2,3,4,5,6,7,8,9,10,11] [(5,1)] Z kr_ fun R H a=>R5 (bkT o 2) U8<|R7 U6<|Sm f.m_ U10 om_ (rfl:(List.map aQ (i::r))[0]?=some (aQ i)) fl_ fun ai W=>R5 W U8<|R5 (bkT B 2) U8<|SF (fun _=>(DR _ w.m_ _ c e p i t n.m_ k z A g L)) U9<|R9 3 Z<|Sq U5 fun X=>Sf (j:=0) U12<|C4 1 [2,6,7,8] a Z<|C6 2 [2,6,7,8,30] Z<|R6 (fun I=>?_) fun I=>?_
 ·exact absurd I dc_
 refine G.freeze 0 Z fun _ _ q=>R8 fun R a=>D.makeMap keyZ Z Z Z Z fl_ fun d=>C4 1 [2,4,7,8] a Z<|Ss [0,1,2,3,4,5,6,7] [] Z kr_ fun R H a=>R7 U6<|R5 (bkT o 1) U8<|R7 U6<|Sm f.m_ U10 om_ (rfl:(List.map aQ (i::r))[0]?=some (aQ i)) fl_ fun aj Y=>R5 Y U8<|Sm h2.m_ U10 om_ (bO g) fl_ fun ak aa=>R5 aa U8<|C4 1 [4,7,8,39,40] a Z<|G.loop (fun fr C' h μ=>∃ (j:Nat),(j<=3)/\fr=[(4,[],.map (some d)),(7,[],.slice U (i::r).length V),(8,[],.pointer (some ⟨X,0,none⟩)),(39,[],.agg ⟨jP t⟩),(40,[],.int .i64 j)]/\h=[.obj d (aN keyZ.enc (eo ((atT t (wgt c t p)).take j)))]/\μ=3-j) (hn_ [4,7,8,39,40] Z) ⟨0,Ow _,Z,Z,Z⟩ (fun fr an ao m s hI=>?_);obtain ⟨j,hj,rfl,rfl,rfl⟩:=hI;refine C6 1 [4,7,8,39,40,41] Z<|R6 (fun v=>?_) fun v=>?_
 ·have J:j<3:=by
   simp only [Oz] at v;omega
  rcases (by omega:j=0∨j=1∨j=2) with rfl | rfl | rfl
  ·refine R4 1 Z fun R a=>S5 U11 ag U2<|C4 2 [4,7,8,9,10,39,40] a Z<|R4 3 Z fun R a=>Sw (_) U9 ag U2<|R5 (bkT q 1) U8<|D.mapUpdate keyZ (j:=0) Z Z Z Z Z Z Z Z Z Z kr_<|Sa [4,7,8,39,40] a Z<|R8 fun R a=>Se _ U7<|C4 1 [4,7,8,39,40] a Z<|Sp (L':=[.obj d (aN keyZ.enc (eo ((atT t (wgt c t p)).take 1)))]) (congrArg (fun m=>[Ent.obj d (aN keyZ.enc m)]) (jq (l:=[]) _ am))<|Sj (m':=2) om_ s (hn_ [4,7,8,39,40] Z) ⟨1,by decide,Z,Z,Z⟩
  ·refine R4 1 Z fun R a=>S5 U11 ag U2<|C4 2 [4,7,8,9,10,39,40] a Z<|R4 3 Z fun R a=>Sw (_) U9 ag U2<|R5 (bkT q 1) U8<|D.mapUpdate keyZ (j:=0) Z Z Z Z Z Z Z Z Z Z kr_<|Sa [4,7,8,39,40] a Z<|R8 fun R a=>Se _ U7<|C4 1 [4,7,8,39,40] a Z<|Sp (L':=[.obj d (aN keyZ.enc (eo ((atT t (wgt c t p)).take 2)))]) (congrArg (fun m=>[Ent.obj d (aN keyZ.enc m)]) (jq (l:=[(t.1,wgt c t p 0)]) _ (by simpa using N.symm)))<|Sj (m':=1) om_ s (hn_ [4,7,8,39,40] Z) ⟨2,by decide,Z,Z,Z⟩
  refine R4 1 Z fun R a=>S5 U11 ag U2<|C4 2 [4,7,8,9,10,39,40] a Z<|R4 3 Z fun R a=>Sw (_) U9 ag U2<|R5 (bkT q 1) U8<|D.mapUpdate keyZ (j:=0) Z Z Z Z Z Z Z Z Z Z kr_<|Sa [4,7,8,39,40] a Z<|R8 fun R a=>Se _ U7<|C4 1 [4,7,8,39,40] a Z<|Sp (L':=[.obj d (aN keyZ.enc (eo ((atT t (wgt c t p)).take 3)))]) (congrArg (fun m=>[Ent.obj d (aN keyZ.enc m)]) (jq (l:=[(t.1,wgt c t p 0),(t.2.1,wgt c t p 1)]) _ (by simp [O.symm,Q.symm])))<|Sj (m':=0) om_ s (hn_ [4,7,8,39,40] Z) ⟨3,by decide,Z,Z,Z⟩
 have J:j=3:=by
  simp only [OL] at v;omega
 subst J;refine G.freeze 0 Z fun Cm ap ab=>Ss [0,1,2,3,4,5,6] [] Z kr_ fun R H a=>R9 2 Z<|Sm f.m_ U10 om_ (rfl:(List.map aQ (i::r))[0]?=some (aQ i)) fl_ fun aq ac=>R5 ac U8<|C4 3 [4,5,6] a Z<|Sh (G.dropAll (S4 U4 ?_));exact ⟨Z,d,Z,ab⟩
theorem cT (t:Tri)(f:Nat->Rat)(j:Nat)(a:j<3)(h:t.1≠t.2.1/\t.1≠t.2.2/\t.2.1≠t.2.2):fD (eo ((atT t f).take j)) ((lM t j:Nat):Int) (ai (qtx (f j)))=eo ((atT t f).take (j+1)):=by
 rcases (by omega:j=0∨j=1∨j=2) with rfl | rfl | rfl
 ·exact jq (l:=[]) _ am
 ·exact jq (l:=[(t.1,f 0)]) (k:=t.2.1) _ (by simpa using h.1.symm)
 exact jq (l:=[(t.1,f 0),(t.2.1,f 1)]) (k:=t.2.2) _ (by simp [h.2.1.symm,h.2.2.symm])
def nJ (n k:Nat):List Rat:=ue n [(k,1)]
def slf (pts:List Pt)(t:Tri)(j:Nat):Pt:=dX pts (nJ pts.length (lM t j)) t
theorem fS (n k:Nat):(nJ n k).length=n:=jf n _
theorem GW :∀ q∈nJ n k,q=0∨q=1:=by
 intro q a;unfold nJ ue at a;obtain ⟨j,_,rfl⟩:=OB.1 a;simp only [cW];split
 ·exact .inr Z
 exact .inl Z
theorem iZ :∀ q∈nJ n k,QB 1 q:=by
 intro q a;rcases GW q a with rfl | rfl
 ·exact QB_zero
 exact QB_one
theorem Cu (C:Mem)(J:Tabs C)(N:Value)(a:List Pt)(s:List Tri)(i:Nat)(t:Tri)(O:MeshIn C N a s)(E:Good a s)(l:s[i]?=some t)(K:∀ j,QP 22 (slf a t j)) :
  Pur cx.P 198 [N,.int .i64 i] C fun u D=>∃ Q S,u=.tuple #[.map (some Q),.map (some S),.int .i64 0]/\D Q=some (aN keyZ.enc (eo (atT t fun j=>(slf a t j).1)))/\D S=some (aN keyZ.enc (eo (atT t fun j=>(slf a t j).2))):=by
 have L:=E.ok;have F:=O;have am:=L.lp;have H:=L.ins t (Oq l);obtain ⟨an,ao,ap⟩:=id H;have aq:=(aF.1 l).1;obtain ⟨f,g,h⟩:=sq L (Oq l);obtain ⟨v1,v2,rfl,h1,h2⟩:=id O.ex;obtain ⟨A1,c1,rfl,ar,au,_⟩:=id h1;obtain ⟨A2,c2,rfl,af,av,_⟩:=id h2;have aw:maxLen<=9223372036854775807:=by simp [maxLen]
 simp only [al] at h1 h2 F af ⊢;refine Sc func198 51 U3 fun w0=>R8 fun R b=>So U6 fun I=>C4 3 [1,2] b Z<|G.freeze 0 Z fun _ _ n=>R8 fun R b=>D.makeMap keyZ Z Z Z Z fl_ fun c=>D.makeMap keyZ Z Z Z Z fl_ fun d=>C4 2 [1,2,4,5] b Z<|R4 1 Z fun R b=>R5 (bkT n 1) U8<|R7 U6<|Sm h2.m_ U10 om_ (bO l) fl_ fun ax ah=>R5 ah U8<|C4 1 [1,2,4,5,18,19] b Z<|G.perm (L':=[.obj c (aN keyZ.enc (eo [])),.obj d (aN keyZ.enc (eo []))]) (List.Perm.swap _ _ _)<|G.loop (fun fr C' e o=>∃ (j:Nat),(j<=3)/\fr=[(1,[],.int .i64 i),(2,[],.pointer (some ⟨I,0,none⟩)),(4,[],.map (some c)),(5,[],.map (some d)),(18,[],.agg ⟨jP t⟩),(19,[],.int .i64 j)]/\e=[.obj c (aN keyZ.enc (eo ((atT t fun j=>(slf a t j).1).take j))),.obj d (aN keyZ.enc (eo ((atT t fun j=>(slf a t j).2).take j)))]/\o=3-j) (hn_ [1,2,4,5,18,19] Z) ⟨0,Ow _,Z,Z,Z⟩ (fun fr ay az m _ p=>?_);obtain ⟨j,hj,rfl,rfl,rfl⟩:=p;refine C6 1 [1,2,4,5,18,19,20] Z<|R6 (fun M=>?_) fun M=>?_
 ·have T:j<3:=by
   simp only [Oz] at M;omega
  rcases (by omega:j=0∨j=1∨j=2) with rfl | rfl | rfl
  ·refine R8 fun R b=>S5 U11 ag U2<|C4 1 [1,2,4,5,8,18,19] b Z<|Sx [(4,3)] Z fun R b=>Sr [[ai [48]]] U12 fun U V _ v=>R7 U6<|R5 (bkT n 1) U8<|R7 U6<|D.call (lS _ _ a.length [48] v.m_ om_) Z (.inr dc_) U6 (Ov _) fl_ fun W X Y _ w=>C4 1 [1,2,4,5,8,9,18,19] b Z ?_;obtain ⟨bz,rfl,rfl⟩:=w;have x:lM t 0<a.length:=eI H 0;refine Sp (L':=[.arr (.slice (some ⟨bz,0,none⟩) a.length a.length) 56 1 a.length (kw a.length []),.obj c (aN keyZ.enc (eo ((atT t fun j=>(slf a t j).1).take 0))),.obj d (aN keyZ.enc (eo ((atT t fun j=>(slf a t j).2).take 0)))]) (by rw [ld];rfl)<|R4 2 Z fun R b=>SC ((lM t 0)) U10 (fun _=>⟨by omega,by omega,(Qi _).symm⟩) U2<|SG (j:=0) U11 (by rw [lf];simp;omega)<|Sa [1,2,4,5,8,9,18,19] b Z<|Sp (L':=[.arr (.slice (some ⟨bz,0,none⟩) a.length a.length) 56 1 a.length (kw a.length [(lM t 0,1)]),.obj c (aN keyZ.enc (eo ((atT t fun j=>(slf a t j).1).take 0))),.obj d (aN keyZ.enc (eo ((atT t fun j=>(slf a t j).2).take 0)))]) (by rw [<- eW [] 1 x,de];rfl)<|G.freezeArr 0 ((nJ a.length (lM t 0)).map eR) rfl (iS _ _) (by intro r hr;obtain ⟨y,_,rfl⟩:=OB.1 hr;rfl) (by rw [al,fS]) fun Cz hz z=>R8 fun R b=>R5 (bkT n 2) U8<|R9 2 Z<|Sk (sw _ J.m_ _ _ a s (nJ a.length (lM t 0)) 1 dc_ dc_ F.m_ E z.m_ (fS _ _) iZ (fun q A=>bM ((iZ q A).le dc_)) i t l (K 0)) U7 fl_<|R9 3 Z<|Sq U5 fun aa=>Sf (j:=0) U12<|C4 1 [1,2,4,5,8,10,11,18,19] b Z<|C6 2 [1,2,4,5,8,10,11,18,19,38] Z<|R6 (fun ab=>?_) fun ab=>?_
   ·exact absurd ab dc_
   refine G.freeze 0 Z fun ac _ k=>G.cut (fun fr C' e o=>(True)/\fr=[(1,[],.int .i64 i),(2,[],.pointer (some ⟨I,0,none⟩)),(4,[],.map (some c)),(5,[],.map (some d)),(18,[],.agg ⟨jP t⟩),(19,[],.int .i64 ((0:Nat):Int))]/\e=[.obj c (aN keyZ.enc (eo ((atT t fun j=>(slf a t j).1).take (0+1)))),.obj d (aN keyZ.enc (eo ((atT t fun j=>(slf a t j).2).take (0+1))))]) ?_ (fun fr aA aB o aC p=>?_)
   ·refine SR (.cut [0,1,2,3,4,5,6] (.alt 7 (.fin [8,9]) (.alt 8 (.fin [7,9]) .stop))) [] Z Z kr_ fun R hB b B=>R9 5 Z<|R5 (bkT k 1) U8<|R7 U6<|SE B Z ⟨?_, ?_,trivial⟩
    ·refine R5 (bkT k 1) U8 ?_
     first | refine D.mapUpdate keyZ (j:=0) rfl rfl rfl rfl rfl rfl rfl rfl rfl rfl kr_ ?_ | refine D.mapUpdate keyZ (j:=1) rfl rfl rfl rfl rfl rfl rfl rfl rfl rfl kr_ ?_
     first | refine D.mapUpdate keyZ (j:=1) rfl rfl rfl rfl rfl rfl rfl rfl rfl rfl kr_ ?_ | refine D.mapUpdate keyZ (j:=0) rfl rfl rfl rfl rfl rfl rfl rfl rfl rfl kr_ ?_
     refine Sa [1,2,4,5,18,19] b Z<|G.perm (L':=[.obj c (aN keyZ.enc (eo ((atT t fun j=>(slf a t j).1).take (0+1)))),.obj d (aN keyZ.enc (eo ((atT t fun j=>(slf a t j).2).take (0+1))))]) (by
      rw [<- cT t (fun j=>(slf a t j).1) 0 dc_ ⟨f,g,h⟩,<- cT t (fun j=>(slf a t j).2) 0 dc_ ⟨f,g,h⟩]
      first | exact Ov _ | exact List.Perm.swap _ _ _) ?_
     exact Si 0 (Mem.le.refl _) (hn_ [1,2,4,5,18,19] Z) ⟨trivial,Z,Z⟩
    first | refine D.mapUpdate keyZ (j:=0) rfl rfl rfl rfl rfl rfl rfl rfl rfl rfl kr_ ?_ | refine D.mapUpdate keyZ (j:=1) rfl rfl rfl rfl rfl rfl rfl rfl rfl rfl kr_ ?_
    refine R5 (bkT k 1) U8 ?_
    first | refine D.mapUpdate keyZ (j:=1) rfl rfl rfl rfl rfl rfl rfl rfl rfl rfl kr_ ?_ | refine D.mapUpdate keyZ (j:=0) rfl rfl rfl rfl rfl rfl rfl rfl rfl rfl kr_ ?_
    refine Sa [1,2,4,5,18,19] b Z<|G.perm (L':=[.obj c (aN keyZ.enc (eo ((atT t fun j=>(slf a t j).1).take (0+1)))),.obj d (aN keyZ.enc (eo ((atT t fun j=>(slf a t j).2).take (0+1))))]) (by
     rw [<- cT t (fun j=>(slf a t j).1) 0 dc_ ⟨f,g,h⟩,<- cT t (fun j=>(slf a t j).2) 0 dc_ ⟨f,g,h⟩]
     first | exact Ov _ | exact List.Perm.swap _ _ _) ?_
    exact Si 0 (Mem.le.refl _) (hn_ [1,2,4,5,18,19] Z) ⟨trivial,Z,Z⟩
   obtain ⟨_,rfl,rfl⟩:=p;refine R8 fun R b=>Se _ U7<|C4 1 [1,2,4,5,18,19] b Z<|Sj (m':=2) om_ mup (hn_ [1,2,4,5,18,19] Z) ⟨1,by decide,Z,Z,Z⟩
  ·refine R8 fun R b=>S5 U11 ag U2<|C4 1 [1,2,4,5,8,18,19] b Z<|Sx [(4,3)] Z fun R b=>Sr [[ai [48]]] U12 fun U V _ v=>R7 U6<|R5 (bkT n 1) U8<|R7 U6<|D.call (lS _ _ a.length [48] v.m_ om_) Z (.inr dc_) U6 (Ov _) fl_ fun W X Y _ w=>C4 1 [1,2,4,5,8,9,18,19] b Z ?_;obtain ⟨bz,rfl,rfl⟩:=w;have x:lM t 1<a.length:=eI H 1;refine Sp (L':=[.arr (.slice (some ⟨bz,0,none⟩) a.length a.length) 56 1 a.length (kw a.length []),.obj c (aN keyZ.enc (eo ((atT t fun j=>(slf a t j).1).take 1))),.obj d (aN keyZ.enc (eo ((atT t fun j=>(slf a t j).2).take 1)))]) (by rw [ld];rfl)<|R4 2 Z fun R b=>SC ((lM t 1)) U10 (fun _=>⟨by omega,by omega,(Qi _).symm⟩) U2<|SG (j:=0) U11 (by rw [lf];simp;omega)<|Sa [1,2,4,5,8,9,18,19] b Z<|Sp (L':=[.arr (.slice (some ⟨bz,0,none⟩) a.length a.length) 56 1 a.length (kw a.length [(lM t 1,1)]),.obj c (aN keyZ.enc (eo ((atT t fun j=>(slf a t j).1).take 1))),.obj d (aN keyZ.enc (eo ((atT t fun j=>(slf a t j).2).take 1)))]) (by rw [<- eW [] 1 x,de];rfl)<|G.freezeArr 0 ((nJ a.length (lM t 1)).map eR) rfl (iS _ _) (by intro r hr;obtain ⟨y,_,rfl⟩:=OB.1 hr;rfl) (by rw [al,fS]) fun Cz hz z=>R8 fun R b=>R5 (bkT n 2) U8<|R9 2 Z<|Sk (sw _ J.m_ _ _ a s (nJ a.length (lM t 1)) 1 dc_ dc_ F.m_ E z.m_ (fS _ _) iZ (fun q A=>bM ((iZ q A).le dc_)) i t l (K 1)) U7 fl_<|R9 3 Z<|Sq U5 fun aa=>Sf (j:=0) U12<|C4 1 [1,2,4,5,8,10,11,18,19] b Z<|C6 2 [1,2,4,5,8,10,11,18,19,38] Z<|R6 (fun ad=>?_) fun ad=>?_
   ·exact absurd ad dc_
   refine G.freeze 0 Z fun ac _ k=>G.cut (fun fr C' e o=>(True)/\fr=[(1,[],.int .i64 i),(2,[],.pointer (some ⟨I,0,none⟩)),(4,[],.map (some c)),(5,[],.map (some d)),(18,[],.agg ⟨jP t⟩),(19,[],.int .i64 ((1:Nat):Int))]/\e=[.obj c (aN keyZ.enc (eo ((atT t fun j=>(slf a t j).1).take (1+1)))),.obj d (aN keyZ.enc (eo ((atT t fun j=>(slf a t j).2).take (1+1))))]) ?_ (fun fr aD aE o aG p=>?_)
   ·refine SR (.cut [0,1,2,3,4,5,6] (.alt 7 (.fin [8,9]) (.alt 8 (.fin [7,9]) .stop))) [] Z Z kr_ fun R hB b B=>R9 5 Z<|R5 (bkT k 1) U8<|R7 U6<|SE B Z ⟨?_, ?_,trivial⟩
    ·refine R5 (bkT k 1) U8 ?_
     first | refine D.mapUpdate keyZ (j:=0) rfl rfl rfl rfl rfl rfl rfl rfl rfl rfl kr_ ?_ | refine D.mapUpdate keyZ (j:=1) rfl rfl rfl rfl rfl rfl rfl rfl rfl rfl kr_ ?_
     first | refine D.mapUpdate keyZ (j:=1) rfl rfl rfl rfl rfl rfl rfl rfl rfl rfl kr_ ?_ | refine D.mapUpdate keyZ (j:=0) rfl rfl rfl rfl rfl rfl rfl rfl rfl rfl kr_ ?_
     refine Sa [1,2,4,5,18,19] b Z<|G.perm (L':=[.obj c (aN keyZ.enc (eo ((atT t fun j=>(slf a t j).1).take (1+1)))),.obj d (aN keyZ.enc (eo ((atT t fun j=>(slf a t j).2).take (1+1))))]) (by
      rw [<- cT t (fun j=>(slf a t j).1) 1 dc_ ⟨f,g,h⟩,<- cT t (fun j=>(slf a t j).2) 1 dc_ ⟨f,g,h⟩]
      first | exact Ov _ | exact List.Perm.swap _ _ _) ?_
     exact Si 0 (Mem.le.refl _) (hn_ [1,2,4,5,18,19] Z) ⟨trivial,Z,Z⟩
    first | refine D.mapUpdate keyZ (j:=0) rfl rfl rfl rfl rfl rfl rfl rfl rfl rfl kr_ ?_ | refine D.mapUpdate keyZ (j:=1) rfl rfl rfl rfl rfl rfl rfl rfl rfl rfl kr_ ?_
    refine R5 (bkT k 1) U8 ?_
    first | refine D.mapUpdate keyZ (j:=1) rfl rfl rfl rfl rfl rfl rfl rfl rfl rfl kr_ ?_ | refine D.mapUpdate keyZ (j:=0) rfl rfl rfl rfl rfl rfl rfl rfl rfl rfl kr_ ?_
    refine Sa [1,2,4,5,18,19] b Z<|G.perm (L':=[.obj c (aN keyZ.enc (eo ((atT t fun j=>(slf a t j).1).take (1+1)))),.obj d (aN keyZ.enc (eo ((atT t fun j=>(slf a t j).2).take (1+1))))]) (by
     rw [<- cT t (fun j=>(slf a t j).1) 1 dc_ ⟨f,g,h⟩,<- cT t (fun j=>(slf a t j).2) 1 dc_ ⟨f,g,h⟩]
     first | exact Ov _ | exact List.Perm.swap _ _ _) ?_
    exact Si 0 (Mem.le.refl _) (hn_ [1,2,4,5,18,19] Z) ⟨trivial,Z,Z⟩
   obtain ⟨_,rfl,rfl⟩:=p;refine R8 fun R b=>Se _ U7<|C4 1 [1,2,4,5,18,19] b Z<|Sj (m':=1) om_ mup (hn_ [1,2,4,5,18,19] Z) ⟨2,by decide,Z,Z,Z⟩
  refine R8 fun R b=>S5 U11 ag U2<|C4 1 [1,2,4,5,8,18,19] b Z<|Sx [(4,3)] Z fun R b=>Sr [[ai [48]]] U12 fun U V _ v=>R7 U6<|R5 (bkT n 1) U8<|R7 U6<|D.call (lS _ _ a.length [48] v.m_ om_) Z (.inr dc_) U6 (Ov _) fl_ fun W X Y _ w=>C4 1 [1,2,4,5,8,9,18,19] b Z ?_;obtain ⟨bz,rfl,rfl⟩:=w;have x:lM t 2<a.length:=eI H 2;refine Sp (L':=[.arr (.slice (some ⟨bz,0,none⟩) a.length a.length) 56 1 a.length (kw a.length []),.obj c (aN keyZ.enc (eo ((atT t fun j=>(slf a t j).1).take 2))),.obj d (aN keyZ.enc (eo ((atT t fun j=>(slf a t j).2).take 2)))]) (by rw [ld];rfl)<|R4 2 Z fun R b=>SC ((lM t 2)) U10 (fun _=>⟨by omega,by omega,(Qi _).symm⟩) U2<|SG (j:=0) U11 (by rw [lf];simp;omega)<|Sa [1,2,4,5,8,9,18,19] b Z<|Sp (L':=[.arr (.slice (some ⟨bz,0,none⟩) a.length a.length) 56 1 a.length (kw a.length [(lM t 2,1)]),.obj c (aN keyZ.enc (eo ((atT t fun j=>(slf a t j).1).take 2))),.obj d (aN keyZ.enc (eo ((atT t fun j=>(slf a t j).2).take 2)))]) (by rw [<- eW [] 1 x,de];rfl)<|G.freezeArr 0 ((nJ a.length (lM t 2)).map eR) rfl (iS _ _) (by intro r hr;obtain ⟨y,_,rfl⟩:=OB.1 hr;rfl) (by rw [al,fS]) fun Cz hz z=>R8 fun R b=>R5 (bkT n 2) U8<|R9 2 Z<|Sk (sw _ J.m_ _ _ a s (nJ a.length (lM t 2)) 1 dc_ dc_ F.m_ E z.m_ (fS _ _) iZ (fun q A=>bM ((iZ q A).le dc_)) i t l (K 2)) U7 fl_<|R9 3 Z<|Sq U5 fun aa=>Sf (j:=0) U12<|C4 1 [1,2,4,5,8,10,11,18,19] b Z<|C6 2 [1,2,4,5,8,10,11,18,19,38] Z<|R6 (fun ae=>?_) fun ae=>?_
  ·exact absurd ae dc_
  refine G.freeze 0 Z fun ac _ k=>G.cut (fun fr C' e o=>(True)/\fr=[(1,[],.int .i64 i),(2,[],.pointer (some ⟨I,0,none⟩)),(4,[],.map (some c)),(5,[],.map (some d)),(18,[],.agg ⟨jP t⟩),(19,[],.int .i64 ((2:Nat):Int))]/\e=[.obj c (aN keyZ.enc (eo ((atT t fun j=>(slf a t j).1).take (2+1)))),.obj d (aN keyZ.enc (eo ((atT t fun j=>(slf a t j).2).take (2+1))))]) ?_ (fun fr aH aI o aJ p=>?_)
  ·refine SR (.cut [0,1,2,3,4,5,6] (.alt 7 (.fin [8,9]) (.alt 8 (.fin [7,9]) .stop))) [] Z Z kr_ fun R hB b B=>R9 5 Z<|R5 (bkT k 1) U8<|R7 U6<|SE B Z ⟨?_, ?_,trivial⟩
   ·refine R5 (bkT k 1) U8 ?_
    first | refine D.mapUpdate keyZ (j:=0) rfl rfl rfl rfl rfl rfl rfl rfl rfl rfl kr_ ?_ | refine D.mapUpdate keyZ (j:=1) rfl rfl rfl rfl rfl rfl rfl rfl rfl rfl kr_ ?_
    first | refine D.mapUpdate keyZ (j:=1) rfl rfl rfl rfl rfl rfl rfl rfl rfl rfl kr_ ?_ | refine D.mapUpdate keyZ (j:=0) rfl rfl rfl rfl rfl rfl rfl rfl rfl rfl kr_ ?_
    refine Sa [1,2,4,5,18,19] b Z<|G.perm (L':=[.obj c (aN keyZ.enc (eo ((atT t fun j=>(slf a t j).1).take (2+1)))),.obj d (aN keyZ.enc (eo ((atT t fun j=>(slf a t j).2).take (2+1))))]) (by
     rw [<- cT t (fun j=>(slf a t j).1) 2 dc_ ⟨f,g,h⟩,<- cT t (fun j=>(slf a t j).2) 2 dc_ ⟨f,g,h⟩]
     first | exact Ov _ | exact List.Perm.swap _ _ _) ?_
    exact Si 0 (Mem.le.refl _) (hn_ [1,2,4,5,18,19] Z) ⟨trivial,Z,Z⟩
   first | refine D.mapUpdate keyZ (j:=0) rfl rfl rfl rfl rfl rfl rfl rfl rfl rfl kr_ ?_ | refine D.mapUpdate keyZ (j:=1) rfl rfl rfl rfl rfl rfl rfl rfl rfl rfl kr_ ?_
   refine R5 (bkT k 1) U8 ?_
   first | refine D.mapUpdate keyZ (j:=1) rfl rfl rfl rfl rfl rfl rfl rfl rfl rfl kr_ ?_ | refine D.mapUpdate keyZ (j:=0) rfl rfl rfl rfl rfl rfl rfl rfl rfl rfl kr_ ?_
   refine Sa [1,2,4,5,18,19] b Z<|G.perm (L':=[.obj c (aN keyZ.enc (eo ((atT t fun j=>(slf a t j).1).take (2+1)))),.obj d (aN keyZ.enc (eo ((atT t fun j=>(slf a t j).2).take (2+1))))]) (by
    rw [<- cT t (fun j=>(slf a t j).1) 2 dc_ ⟨f,g,h⟩,<- cT t (fun j=>(slf a t j).2) 2 dc_ ⟨f,g,h⟩]
    first | exact Ov _ | exact List.Perm.swap _ _ _) ?_
   exact Si 0 (Mem.le.refl _) (hn_ [1,2,4,5,18,19] Z) ⟨trivial,Z,Z⟩
  obtain ⟨_,rfl,rfl⟩:=p;refine R8 fun R b=>Se _ U7<|C4 1 [1,2,4,5,18,19] b Z<|Sj (m':=0) om_ mup (hn_ [1,2,4,5,18,19] Z) ⟨3,by decide,Z,Z,Z⟩
 have T:j=3:=by
  simp only [OL] at M;omega
 subst T;refine G.freeze 0 Z fun Cm aK aj=>G.freeze 0 Z fun Cn aL ak=>C6 5 [4,5,6] Z<|Sh (G.dropAll (S4 U4 ?_));exact ⟨Z,c,d,Z,Mem.get aj mup,ak⟩
theorem pu (C:Mem)(v:Value)(l:List Rat)(b:Sl C 1 v (l.map eR))(t:l.length<=1000000):Jog.Fn cx.P 173 [v] C [] fun u _w e=>∃ A n c,u=.slice A n c/\e=[.arr (.slice A n c) 56 1 l.length (l.map eR).flatten]:=by
 obtain ⟨f,c0,rfl,m,x,y,o⟩:=id b;have z:maxLen<=9223372036854775807:=by simp [maxLen]
 simp only [al] at b m ⊢;refine Sc func173 8 U3 fun w0=>C6 1 [0] Z<|R4 1 Z fun R d=>TF U9<|Sa [0,4] d Z<|R6 (fun h4=>?_) fun h4=>?_
 ·have p:f=none:=by
   cases f with
   | none=>rfl
   | some a=>cases h4
  have s:l=[]:=by
   cases l with
   | nil=>rfl
   | cons q r =>
    obtain ⟨a,g,_⟩:=o 0 (eR q) rfl;rw [p] at g;cases g
  refine C6 1 [2] Z<|G.nilArr 56 1<|Sh (SP Z Z ?_);exact ⟨none,0,0,Z,by rw [s];rfl⟩
 refine R8 fun R d=>Te [] U12 fl_ fun B=>R7 U6<|SB (j:=0) U11 b.m_ (by simp [eR,oF,ai]) (by simp only [al,O4,maxLen];omega) (by simp only [al,O4];omega) fl_ fun h i k=>C4 1 [2] d Z<|Sp (L':=[.arr (.slice h i k) 56 1 l.length (l.map eR).flatten]) am<|Sh (SP Z Z ?_);exact ⟨h,i,k,Z,Z⟩
def NJ (r:RowQ):Prop:=(∀ q∈r.f,QB 22 q)/\QB 22 r.b
theorem jU {a:List RowQ}{w:Value}(c:vs[i]?=some w)(d:a[i]?=some r):(aT vs a)[i]?=some [w,ai (qtx r.b)]:=by
 unfold aT;rw [List.getElem?_zipWith,c,d]
theorem CG (C:Mem)(hT:Tabs C)(v:Value)(a:List RowQ)(hv:RowsIn C v a)(e:∀ r∈a,NJ r)(ac:∀ r∈a,r.f.length<=1000)(ao:a.length<=100000) :
  Gives cx.P 200 [v] C (.tuple #[v,.int .i64 0]):=by
 obtain ⟨vs,z,A⟩:=hv;obtain ⟨l,c0,rfl,ad,ap,_⟩:=id A;have aq:maxLen<=9223372036854775807:=by simp [maxLen]
 simp only [dU z.1] at A ad ⊢;refine Sc func200 32 U3 fun w0=>C6 2 [0] Z<|C6 3 [0,8,9,10] Z<|G.loop (fun fr C' n o=>∃ (i:Nat),(i<=a.length)/\fr=[(0,[],.slice l a.length c0),(8,[],.slice l a.length c0),(9,[],.int .i64 a.length),(10,[],.int .i64 i)]/\n=[]/\o=a.length-i) (hn_ [0,8,9,10] Z) ⟨0,Ow _,Z,Z,Z⟩ (fun fr ar au m _ p=>?_);obtain ⟨i,hi,rfl,rfl,rfl⟩:=p;refine C6 1 [0,8,9,10,11] Z<|R6 (fun H=>?_) fun H=>?_
 ·have I:i<a.length:=by simpa using H
  obtain ⟨r,B⟩:∃ r,a[i]?=some r:=⟨a[i],ak I⟩;obtain ⟨w,hw⟩:∃ w,vs[i]?=some w:=⟨vs[i]'(by rw [z.1];exact I),ak _⟩;have J:=Oq B;obtain ⟨ae,af⟩:=e r J;have av:=ac r J;have ax:(r.f++[r.b]).length<=1001:=by simp;omega
  have x:=z.2 i w r hw B;obtain ⟨Aw,cw,rfl,_⟩:=id x;refine R8 fun R c=>Sm A.m_ U10 om_ (jU hw B) fl_ fun ay ag=>R5 ag U8<|Sq U5 fun b5=>Sf (j:=0) U12<|Sa [0,5,8,9,10] c Z<|G.freeze 0 Z fun _ _ E=>G.cut (fun fr C' n o=>∃ (g:Option Addr)(k:Nat),(Sl C' 1 (.slice g (r.f++[r.b]).length k) ((r.f++[r.b]).map eR))/\fr=[(0,[],.slice l a.length c0),(8,[],.slice l a.length c0),(9,[],.int .i64 a.length),(10,[],.int .i64 i),(20,[],.slice g (r.f++[r.b]).length k),(21,[],.int .i64 (r.f++[r.b]).length),(22,[],.int .i64 0)]/\n=[]) ?_ (fun fr az aA o aB p=>?_)
  ·refine SR (.cut [0,1,3,8] (.alt 2 (.fin [4,5,6,7]) (.alt 4 (.cut [] (.alt 2 (.fin [5,6,7]) (.alt 5 (.fin [2,6,7]) .stop))) .stop))) [(2,3)] Z Z kr_ fun R hB c K=>R7 U6<|R5 (bkT E 1) U8<|R9 2 Z<|SE K Z ⟨?_, ?_,trivial⟩
   ·refine D.call (pu _ _ r.f x.m_ om_) Z (.inr dc_) U6 (Ov _) fl_ fun L M N _ s=>R5 (bkT E 1) U8<|Sr [eR r.b] U12 (fun O Q _ t=>?_);obtain ⟨S,T,cc,rfl,rfl⟩:=s;refine SB (j:=0) U11 t.m_ (by simp [eR,oF,ai]) aw (by simp only [aV];omega) fl_ fun g U k=>C4 1 [0,8,9,10,20,21,22] c Z<|G.freezeArr 0 ((r.f++[r.b]).map eR) rfl am (by intro r e;obtain ⟨y,_,rfl⟩:=OB.1 e;rfl) am (fun V W d=>?_);obtain ⟨X,Y,u,_⟩:=id d;cases u
    simp only [al] at d ⊢;exact G.dropAll<|Si 0 mup (hn_ [0,8,9,10,20,21,22] Z) ⟨_,_,d,Z,Z⟩
   refine R5 (bkT E 1) U8<|SE K Z ⟨?_, ?_,trivial⟩
   ·refine D.call (pu _ _ r.f x.m_ om_) Z (.inr dc_) U6 (Ov _) fl_ fun L M N _ s=>Sr [eR r.b] U12 (fun O Q _ t=>?_);obtain ⟨S,T,cc,rfl,rfl⟩:=s;refine SB (j:=0) U11 t.m_ (by simp [eR,oF,ai]) aw (by simp only [aV];omega) fl_ fun g U k=>C4 1 [0,8,9,10,20,21,22] c Z<|G.freezeArr 0 ((r.f++[r.b]).map eR) rfl am (by intro r e;obtain ⟨y,_,rfl⟩:=OB.1 e;rfl) am (fun V W d=>?_);obtain ⟨X,Y,u,_⟩:=id d;cases u
    simp only [al] at d ⊢;exact G.dropAll<|Si 0 mup (hn_ [0,8,9,10,20,21,22] Z) ⟨_,_,d,Z,Z⟩
   refine Sr [eR r.b] U12 fun O Q _ t=>D.call (pu _ _ r.f x.m_ om_) Z (.inr dc_) U6 (Ov _) fl_ (fun L M N _ s=>?_);obtain ⟨S,T,cc,rfl,rfl⟩:=s;refine SB (j:=0) U11 t.m_ (by simp [eR,oF,ai]) aw (by simp only [aV];omega) fl_ fun g U k=>C4 1 [0,8,9,10,20,21,22] c Z<|G.freezeArr 0 ((r.f++[r.b]).map eR) rfl am (by intro r e;obtain ⟨y,_,rfl⟩:=OB.1 e;rfl) am (fun V W d=>?_);obtain ⟨X,Y,u,_⟩:=id d;cases u
   simp only [al] at d ⊢;exact G.dropAll<|Si 0 mup (hn_ [0,8,9,10,20,21,22] Z) ⟨_,_,d,Z,Z⟩
  obtain ⟨g,k,ah,rfl,rfl⟩:=p;refine G.loop (fun fr C' n o=>∃ (j:Nat),(j<=(r.f++[r.b]).length)/\fr=[(0,[],.slice l a.length c0),(8,[],.slice l a.length c0),(9,[],.int .i64 a.length),(10,[],.int .i64 i),(20,[],.slice g (r.f++[r.b]).length k),(21,[],.int .i64 (r.f++[r.b]).length),(22,[],.int .i64 j)]/\n=[]/\o=(r.f++[r.b]).length-j) (hn_ [0,8,9,10,20,21,22] Z) ⟨0,Ow _,Z,Z,Z⟩ (fun fr aC aD m _ p=>?_);obtain ⟨j,hj,rfl,rfl,rfl⟩:=p;refine C6 1 [0,8,9,10,20,21,22,23] Z<|R6 (fun aa=>?_) fun aa=>?_
  ·have aj:j<(r.f++[r.b]).length:=by
    have:=NM aa;omega
   obtain ⟨q,hq⟩:∃ q,(r.f++[r.b])[j]?=some q:=⟨(r.f++[r.b])[j],ak aj⟩;have ab:QB 22 q:=by
    rcases OJ.1 (Oq hq) with h | h
    ·exact ae q h
    rw [OP.1 h];exact af
   refine R8 fun R c=>Sm ah.m_ U10 om_ (bO hq) fl_ fun aE an=>R5 an U8<|C4 1 [0,7,8,9,10,20,21,22] c Z<|R4 1 Z fun R c=>Sg (dF _ hT.m_ _ (sD ab)) U7<|C4 1 [0,8,9,10,20,21,22,28] c Z<|R6 (fun F=>?_) fun F=>?_
   ·exfalso;rw [wg ab] at F;exact absurd F dc_
   refine R8 fun R c=>Se _ U7<|C4 1 [0,8,9,10,20,21,22] c Z<|Sj (m':=(r.f++[r.b]).length-(j+1)) om_ mup (hn_ [0,8,9,10,20,21,22] Z) ⟨j+1,om_,Z,Z,Z⟩
  refine R8 fun R c=>Se _ U7<|C4 1 [0,8,9,10] c Z<|Sj (m':=a.length-(i+1)) om_ mup (hn_ [0,8,9,10] Z) ⟨i+1,om_,Z,Z,Z⟩
 refine C6 3 [2,3] Z<|Sh (G.dropAll (Sy U3 ?_));exact ⟨Z,Z⟩
def jB (s p k:Nat)(fm:List (Nat × Rat))(b sg:Rat):RowQ:=⟨Hv s p k fm sg,sg*b⟩
theorem iV (C:Mem)(O:Tabs C)(s p d b h y:Nat)(c:List (Nat × Rat))(e:Rat)(a:List Rat)(I w:Value)(o:List Value)(f:List RowQ)(aj:s*p<=60)(Q:d<s)(S:C y=some (.cells ⟨[.int .i64 (s:Nat),.int .i64 (p:Nat)]⟩ 142 (0,0)))(T:C b=some (aN keyZ.enc (eo c)))(U:(c.map (·.1)).Nodup)(V:∀ x∈c,x.1<p)(W:∀ x∈c,QB 23 x.2)(X:QB 23 e)
  (z:Sl C 1 I (a.map eR)) (Y:∀ q∈a,QB 1 q) (an:a.length<=2) (aa:RowsOk C o f) (ao:f.length<=10000) :
  Jog.Fn cx.P 195 [.int .i64 d,.map (some b),ai (qtx e),I,.pointer (some ⟨h,0,none⟩),.pointer (some ⟨y,0,none⟩)] C [.obj h (.cells ⟨[w]⟩ 78 (0,0)),.arr w 123 2 f.length (aT o f).flatten]
   fun u C' l=>∃ J w',u=.tuple #[]/\l=[.obj h (.cells ⟨[w']⟩ 78 (0,0)),.arr w' 123 2 (f++a.map (jB s p d c e)).length (aT J (f++a.map (jB s p d c e))).flatten]/\RowsOk C' J (f++a.map (jB s p d c e)):=by
 obtain ⟨A0,c0,rfl,ab,ap,_⟩:=id z;have aq:maxLen<=9223372036854775807:=by simp [maxLen]
 simp only [al] at z ab ⊢;refine Sc func195 28 U3 fun w0=>C6 3 [0,1,2,4,5,12,13,14] Z<|Sp (L':=[.obj h (.cells ⟨[w]⟩ 78 (0,0)),.arr w 123 2 (f++(a.take 0).map (jB s p d c e)).length (aT o (f++(a.take 0).map (jB s p d c e))).flatten]) am<|G.loop (fun fr C' l μ=>∃ (i:Nat)(k:List Value)(t:Value),(i<=a.length/\RowsOk C' k (f++(a.take i).map (jB s p d c e)))/\fr=[(0,[],.int .i64 d),(1,[],.map (some b)),(2,[],ai (qtx e)),(4,[],.pointer (some ⟨h,0,none⟩)),(5,[],.pointer (some ⟨y,0,none⟩)),(12,[],.slice A0 a.length c0),(13,[],.int .i64 a.length),(14,[],.int .i64 i)]/\l=[.obj h (.cells ⟨[t]⟩ 78 (0,0)),.arr t 123 2 (f++(a.take i).map (jB s p d c e)).length (aT k (f++(a.take i).map (jB s p d c e))).flatten]/\μ=a.length-i) (hn_ [0,1,2,4,5,12,13,14] Z) ⟨0,o,w,⟨Ow _,by simpa using aa⟩,Z,Z,Z⟩ (fun fr ar au m _ hI=>?_);obtain ⟨i,k,t,⟨hi,v⟩,rfl,rfl,rfl⟩:=hI;refine C6 1 [0,1,2,4,5,12,13,14,15] Z<|R6 (fun A=>?_) fun A=>?_
 ·have B:i<a.length:=by simpa using A
  obtain ⟨g,D⟩:∃ g,a[i]?=some g:=⟨a[i],ak B⟩;have ac:=Y g (Oq D);have av:(f++(a.take i).map (jB s p d c e)).length<=10002:=by
   rw [Oy,al,OG];omega
  have K:f++(a.take (i+1)).map (jB s p d c e)=f++(a.take i).map (jB s p d c e)++[jB s p d c e g]:=by
   rw [OS,D];simp
  refine R8 fun R n=>Sm z.m_ U10 om_ (bO D) fl_ fun ax ad=>R5 ad U8<|C4 1 [0,1,2,4,5,11,12,13,14] n Z<|Ss [0,1,2,3,4,5,6,7,8,9] [] Z kr_ fun R hB n=>Sd af U9<|R5 (bkT S 2) U8<|R9 4 Z<|SD (MJ _ O.m_ s p d b c g e 23 dc_ dc_ om_ Q (Mem.get T mup) U V W (ac.le dc_) X) U7 fl_ (fun ay _ _ ae=>?_);obtain ⟨fv,rfl,E⟩:=ae;obtain ⟨F,H,rfl,_⟩:=id E;simp only [al] at E ⊢;refine Sr [[.slice F (Hv s p d c g).length H,ai (qtx (g*e))]] U12 fun az _ _ ag=>SB (j:=1) U11 ag.m_ Z aw (by simp only [aV];omega) fl_ fun L M N=>Sf (j:=1) U12<|Sa [0,1,2,4,5,12,13,14] n Z<|R8 fun R n=>Se _ U7<|C4 1 [0,1,2,4,5,12,13,14] n Z ?_;have ah:=RowsOk.snoc (r:=jB s p d c e g) v.m_ E;refine Sp (L':=[.obj h (.cells ⟨[.slice L M N]⟩ 78 (0,0)),.arr (.slice L M N) 123 2 (f++(a.take (i+1)).map (jB s p d c e)).length (aT (k++[.slice F (Hv s p d c g).length H]) (f++(a.take (i+1)).map (jB s p d c e))).flatten]) (by rw [K,eQ v.1];simp [jB,aD];omega)<|Sj (m':=a.length-(i+1)) om_ mup (hn_ [0,1,2,4,5,12,13,14] Z) ⟨i+1,k++[.slice F (Hv s p d c g).length H],_,⟨by omega,by rw [K];exact ah.mono mup⟩,Z,Z,Z⟩
 have B:i=a.length:=by
  have:¬ i<a.length:=by simpa using A
  omega
 rw [B,OH] at v ⊢;exact Td Z<|⟨k,t,Z,Z,v.mono mup⟩
noncomputable def Co (o:Obs):Rat:=-dO o.nx / dO o.nz
noncomputable def rb (o:Obs):Rat:=-dO o.ny / dO o.nz
def upN (B:Bk)(o:Obs):Nat:=(kb (isU o.upper) B.col 0).toNat
noncomputable def rowsO (B:Bk)(o:Obs)(p:Pt)(t:Tri)(z:Rat):List RowQ :=
 if o.kind=1 then (if 0<upN B o then [jB (bs B) (bp B) (upN B o-1) (atT t (wgt B.pts t p)) (mH o z) 1] else [])++(if upN B o<bs B then [jB (bs B) (bp B) (upN B o) (atT t (wgt B.pts t p)) (mH o z) (-1)] else [])
 else if o.kind=2 then (cJ B.col o).flatMap fun k=>[1, -1].map (jB (bs B) (bp B) k (atT t (wgt B.pts t p)) (mH o z))
 else (cJ B.col o).flatMap fun k=>[1, -1].map (jB (bs B) (bp B) k (atT t fun j=>(slf B.pts t j).1) (Co o))++[1, -1].map (jB (bs B) (bp B) k (atT t fun j=>(slf B.pts t j).2) (rb o))
structure Fine (B:Bk)(fs:List Rat)(o:Obs)(p:Pt)(ti:Nat)(t:Tri)(z:Rat):Prop where
 place:ObsAt o p
 loc:∃ r,oP B.pts B.tris p=ti::r
 tri:B.tris[ti]?=some t
 val:GS B.pts B.tris fs p=.tuple #[ai (qtx z),.int .i64 0]
 qz:QB 22 z
 qh:QB 22 (mH o z)
 w:∀ j,QB 22 (wgt B.pts t p j)
 up:0<=kb (isU o.upper) B.col 0
 sl:∀ j,QP 22 (slf B.pts t j)
 nr:o.kind≠1->o.kind≠2->(bg o.nx=true/\bg o.ny=true/\bg o.nz=true)/\QB 11 (dO o.nx)/\QB 11 (dO o.ny)/\QB 11 (dO o.nz)/\dO o.nz≠0
 rows:∀ r∈rowsO B o p t z,NJ r
theorem MD (h:Sl C 1 v [[ai [49]]]):Sl C 1 v (([1]:List Rat).map eR):=by rw [<- de] at h;exact h
theorem ME (h:Sl C 1 v [[ai [45,49]]]):Sl C 1 v (([-1]:List Rat).map eR):=by rw [<- cM] at h;exact h
theorem DW (h:Sl C 1 v [[ai [49]],[ai [45,49]]]):Sl C 1 v (([1, -1]:List Rat).map eR):=by rw [<- cM,<- de] at h;exact h
theorem Mv:∀ q∈([1]:List Rat),QB 1 q:=by simp;exact QB_one
theorem Mw:∀ q∈([-1]:List Rat),QB 1 q:=by simp;exact ri
theorem DJ:∀ q∈([1, -1]:List Rat),QB 1 q:=by
 intro q a;simp only [OE,PL,QW] at a;rcases a with rfl | rfl
 ·exact QB_one
 exact ri
theorem mi {f:Nat->Rat}{P:Nat × Rat->Prop}(b:P (t.1,f 0))(c:P (t.2.1,f 1))(d:P (t.2.2,f 2)):∀ x∈atT t f,P x:=by
 intro x a;simp only [atT,OE,PL,QW] at a;rcases a with rfl | rfl | rfl <;> assumption
theorem G4 {a b:Int}(h:k∈wX a b n):k<n:=by
 unfold wX at h;rw [Qs,ON] at h;exact h.1
theorem iR {a b:Type}(f:a->List b){l:List a}{j:Nat}{x:a}(h:l[j]?=some x):(l.take (j+1)).flatMap f=(l.take j).flatMap f++f x:=by
 rw [OS,h,List.flatMap_append];simp
theorem fp {a b:Type}{f:a->List b}{c:Nat}(h:∀ x,(f x).length=c):∀ l:List a,(l.flatMap f).length=c*l.length
 | []=>by simp
 | x::l=>by rw [List.flatMap_cons,Oy,h,fp h l,OI,Nat.mul_succ,QJ]
theorem zj :∀ r∈rowsO B o p t z,r.f.length=bs B*bp B:=by
 have a:∀ k e b c,(jB (bs B) (bp B) k e b c).f.length=bs B*bp B:=fun k e b c=>jf _ _;intro r hr;unfold rowsO at hr;split at hr
 ·rcases OJ.1 hr with h | h
  ·split at h
   ·rw [OP.1 h];exact a _ _ _ _
   cases h
  split at h
  ·rw [OP.1 h];exact a _ _ _ _
  cases h
 split at hr
 ·obtain ⟨k,_,d⟩:=List.mem_flatMap.1 hr;obtain ⟨c,_,rfl⟩:=OB.1 d;exact a _ _ _ _
 obtain ⟨k,_,d⟩:=List.mem_flatMap.1 hr;rcases OJ.1 d with h | h
 ·obtain ⟨c,_,rfl⟩:=OB.1 h;exact a _ _ _ _
 obtain ⟨c,_,rfl⟩:=OB.1 h;exact a _ _ _ _
theorem uY (h:(cJ B.col o).length<=60):(rowsO B o p t z).length<=240:=by
 unfold rowsO;split
 ·rw [Oy];have h1:∀ (c:Prop)[Decidable c] (r:RowQ),(if c then [r] else []).length<=1:=fun c _ r=>by split <;> simp
  have:=h1 (0<upN B o) (jB (bs B) (bp B) (upN B o-1) (atT t (wgt B.pts t p)) (mH o z) 1);have:=h1 (upN B o<bs B) (jB (bs B) (bp B) (upN B o) (atT t (wgt B.pts t p)) (mH o z) (-1));omega
 split
 ·rw [fp (c:=2) (fun k=>by simp)];omega
 rw [fp (c:=4) (fun k=>by simp)];omega
theorem Ky (C:Mem)(d:Tabs C)(bv:Value)(B:Bk)(fs:List Rat)(i:Nat)(o:Obs)(p:Pt)(ti:Nat)(t:Tri)(z:Rat)(L:BookIn C bv B)(Q:Good B.pts B.tris)(am:BookR B)(aL:iU B=0)(hF:Terr B fs)(U:B.obs[i]?=some o)(b:Fine B fs o p ti t z)(S:bs B*bp B<=60)(a4:ug B.col=0)(bT:bs B+1=B.col.length)(bU:B.col.length<=60) :
  Pur cx.P 128 [fW (bs B) (bp B),bv,.int .i64 i] C fun u D=>∃ v,u=.tuple #[v,.int .i64 0]/\RowsIn D v (rowsO B o p t z):=by
 have an:=L;have hM:=Q.ok;obtain ⟨r,a5⟩:=b.loc;have aM:=Oq b.tri;have l:=hM.ins t aM;have ao:=sq hM aM;have bV:=(aF.1 U).1;have V:=b.place;obtain ⟨u,W⟩:∃ u:Nat,kb (isU o.upper) B.col 0=(u:Nat):=⟨_,(Int.toNat_of_nonneg b.up).symm⟩;have a6:upN B o=u:=by unfold upN;rw [W];rfl
 have bW:u<B.col.length:=by
  rcases lY (isU o.upper) B.col with ⟨h,_⟩ | ⟨k,x,h,h2,_⟩
  ·rw [W] at h;omega
  have:=(aF.1 h2).1;rw [W] at h;omega
 have ap:=pG (wgt B.pts t p) ao;have aq:∀ x∈atT t (wgt B.pts t p),x.1<bp B:=mi (P:=fun x=>x.1<bp B) l.1 l.2.1 l.2.2;have ar:∀ x∈atT t (wgt B.pts t p),QB 23 x.2:=mi (P:=fun x=>QB 23 x.2) ((b.w 0).le dc_) ((b.w 1).le dc_) ((b.w 2).le dc_);have au:QB 23 (mH o z):=b.qh.le dc_;have a7:(cJ B.col o).length<=bs B:=by
  unfold cJ wX;refine OQ (P2 _ _) ?_;rw [Pr];unfold bs;omega
 have aN:∀ k∈cJ B.col o,k<bs B:=fun k hk=>G4 hk;obtain ⟨v1,v2,tv,cv,ov,rfl,h1,h2,h3,h4,h5⟩:=id L.ex;have aO:MeshIn C (.agg ⟨[v1,v2]⟩) B.pts B.tris:=⟨v1,v2,rfl,h1,h2⟩;obtain ⟨A5,c5,rfl,a8,bX,_⟩:=id h5;have bY:maxLen<=9223372036854775807:=by simp [maxLen]
 simp only [al] at h5 a8 an ⊢;refine Sc func128 172 U3 fun w0=>?_;refine R8 fun R a=>?_;refine So U6 (fun n=>?_);refine So U6 (fun b4=>?_);refine C4 2 [2,3,4] a Z ?_;clear a R;refine G.freeze 1 Z (fun _ _ M=>?_);refine G.freeze 0 Z (fun _ _ N=>?_);refine R4 1 Z fun R a=>?_;refine R5 (bkT N 1) U8 ?_;refine R7 U6 ?_;refine Sm h5.m_ U10 om_ (bO U) fl_ (fun bZ a9=>?_);refine R5 a9 U8 ?_;refine Sq U5 (fun b8=>?_);refine Sf (j:=0) U12 ?_;refine Sa [2,3,4,8] a Z ?_;clear a R;refine G.freeze 0 Z (fun C8 _ E=>?_);refine R4 1 Z fun R a=>?_;refine R5 (bkT N 2) U8 ?_;refine R7 U6 ?_;refine R5 (bkT E 2) U8 ?_;refine SD (by have h:=CD C8 d.m_ _ B.pts B.tris p ti r t aO.m_ Q V.q V.r a5 b.tri b.w;rw [<- vu V] at h;exact h) U7 fl_ (fun b0 _ _ ba=>?_);obtain ⟨T,rfl,av⟩:=ba;refine C4 7 [2,3,4,8,9,10,11] a Z ?_;clear a R;refine C6 2 [2,3,4,8,9,10,11,45] Z ?_;refine R6 (fun aP=>?_) fun aP=>?_
 ·exact absurd aP dc_
 refine R8 fun R a=>?_;refine R5 (bkT N 5) U8 ?_;refine R7 U6 ?_;refine Sg (B6 _ d.m_ _ B fs i o p z an.m_ Q am aL hF U V b.val b.qz b.qh) U7 ?_;refine C4 5 [2,3,4,8,9,10,11,12] a Z ?_;clear a R;refine C6 2 [2,3,4,8,9,10,11,12,54] Z ?_;refine R6 (fun aQ=>?_) fun aQ=>?_
 ·exact absurd aQ dc_
 refine R8 fun R a=>?_;refine R5 (bkT N 5) U8 ?_;refine R7 U6 ?_;refine SI (uG _ d.m_ _ B i o an.m_ Q am aL U) U7 (fun b1 _ _ bb=>?_);obtain ⟨lv,rfl,aw⟩:=bb;obtain ⟨Al,cl,aR,_⟩:=id aw;rw [al] at aR;subst aR;refine C4 5 [3,4,8,9,10,11,12,13] a Z ?_;clear a R;refine C6 2 [3,4,8,9,10,11,12,13,63] Z ?_;refine R6 (fun aS=>?_) fun aS=>?_
 ·exact absurd aS dc_
 refine R8 fun R a=>?_;refine Sq U5 (fun c=>?_);refine Sa [3,4,8,9,10,12,13,14] a Z ?_;clear a R;refine G.nilArr 123 2 (G.perm (L':=[.obj c (.cells ⟨[.slice none 0 0]⟩ 78 (0,0)),.arr (.slice none 0 0) 123 2 0 []]) (List.Perm.swap _ _ _) ?_);refine C6 2 [3,4,8,9,10,12,13,14,15] Z ?_;refine R4 1 Z fun R a=>?_;refine R5 (bkT E 1) U8 ?_;refine Sa [3,4,8,9,10,12,13,14,15,67] a Z ?_;clear a R;refine C6 2 [3,4,8,9,10,12,13,14,15,67,120] Z ?_;refine G.cut (fun fr C' y F=>∃ (vs:List Value)(w:Value),(RowsOk C' vs (rowsO B o p t z))/\fr=[(14,[],.pointer (some ⟨c,0,none⟩))]/\y=[.obj c (.cells ⟨[w]⟩ 78 (0,0)),.arr w 123 2 (rowsO B o p t z).length (aT vs (rowsO B o p t z)).flatten]) ?_ (fun fr _ b2 F _ H=>?_)
 ·refine R6 (fun X=>?_) fun X=>?_
  ·have hk:o.kind=1:=dD X;obtain ⟨s,O⟩:∃ s,(if 0<u then [jB (bs B) (bp B) (u-1) (atT t (wgt B.pts t p)) (mH o z) 1] else [])=s:=⟨_,rfl⟩;have A:rowsO B o p t z=s++(if u<bs B then [jB (bs B) (bp B) u (atT t (wgt B.pts t p)) (mH o z) (-1)] else []):=by unfold rowsO;rw [aI hk,a6,O]
   refine R4 1 Z fun R a=>?_;refine R5 (bkT N 1) U8 ?_;refine R7 U6 ?_;refine R5 (bkT E 1) U8 ?_;refine Sg (ya _ d.m_ _ B.col o.upper h4.m_ am.col a4 u W) U7 ?_;refine C4 7 [3,9,12,14,15,16,18] a Z ?_;clear a R;refine C6 2 [3,9,12,14,15,16,18,132] Z ?_;refine R6 (fun aU=>?_) fun aU=>?_
   ·exact absurd aU dc_
   refine C6 2 [3,9,12,14,15,16,135] Z ?_;refine G.cut (fun fr C' y F=>∃ (vs:List Value)(w:Value),(RowsOk C' vs s)/\fr=[(3,[],.pointer (some ⟨n,0,none⟩)),(9,[],.map (some T)),(12,[],ai (qtx (mH o z))),(14,[],.pointer (some ⟨c,0,none⟩)),(15,[],.func (.func 195) #[] #[.pointer (some ⟨c,0,none⟩),.pointer (some ⟨n,0,none⟩)]),(16,[],.int .i64 u)]/\y=[.obj c (.cells ⟨[w]⟩ 78 (0,0)),.arr w 123 2 s.length (aT vs s).flatten]) ?_ (fun fr _ b5 F _ H=>?_)
   ·refine R6 (fun ax=>?_) fun ax=>?_
    ·have ay:0<u:=by
      have:=NM ax;omega
     rw [aI ay] at O;subst O;refine Sx [(6,3)] Z (fun R a=>?_);refine R9 2 Z ?_;refine SH (((u-1:Nat):Int)) U4 om_ om_ om_ U2 ?_;refine R9 2 Z ?_;refine Sr [[ai [49]]] U12 (fun b6 _ _ bc=>?_);refine D.call (iV _ d.m_ (bs B) (bp B) (u-1) T c n (atT t (wgt B.pts t p)) (mH o z) [1] _ (.slice none 0 0) [] [] S om_ (Mem.get M mup) (Mem.get av mup) ap aq ar au ((MD bc).mono mup) Mv dc_ (RowsOk.nil _) dc_) Z (.inr dc_) U6 (Ov _) fl_ (fun b7 _ b9 _ bd=>?_);refine Sa [3,9,12,14,15,16] a Z ?_;clear a R;obtain ⟨bf,w1,rfl,rfl,bg⟩:=bd;refine Si 0 mup (hn_ [3,9,12,14,15,16] Z) ⟨bf,w1,bg,Z,Z⟩
    have ay:¬ 0<u:=by
     have:=Ox ax;omega
    rw [aA ay] at O;subst O;refine Si 0 (Mem.le.refl _) (hn_ [3,9,12,14,15,16] Z) ⟨[],.slice none 0 0,RowsOk.nil _,Z,Z⟩
   obtain ⟨vs ,w,az,rfl,rfl⟩:=H;refine R4 2 Z fun R a=>?_;refine R5 (bkT M 1) U8 ?_;refine C4 1 [9,12,14,15,16,146] a Z ?_;clear a R;refine R6 (fun aB=>?_) fun aB=>?_
   ·have Y:u<bs B:=by
     have:=NM aB;omega
    rw [aI Y] at A;have ca:s.length<=1:=by rw [<- O];split <;> simp
    refine Sx [(5,3)] Z (fun R a=>?_);refine R9 4 Z ?_;refine Sr [[ai [45,49]]] U12 (fun cb _ _ bh=>?_);refine D.call (iV _ d.m_ (bs B) (bp B) u T c n (atT t (wgt B.pts t p)) (mH o z) [-1] _ w vs s S Y (Mem.get M mup) (Mem.get av mup) ap aq ar au ((ME bh).mono mup) Mw dc_ az.m_ om_) Z (.inr dc_) U6 (Ov _) fl_ (fun cc _ cd _ bi=>?_);refine Sa [14] a Z ?_;clear a R;obtain ⟨bj,w2,rfl,rfl,aW⟩:=bi;rw [show s++([-1]:List Rat).map (jB (bs B) (bp B) u (atT t (wgt B.pts t p)) (mH o z))=rowsO B o p t z from A.symm] at aW ⊢;refine Si 0 mup (hn_ [14] Z) ⟨bj,w2,aW,Z,Z⟩
   have Y:¬ u<bs B:=by
    have:=Ox aB;omega
   rw [aA Y,OX] at A;rw [<- A] at az ⊢;refine Si 0 mup (hn_ [14] Z) ⟨vs,w,az.mono mup,Z,Z⟩
  have aC:¬ o.kind=1:=by
   intro e;rw [show ((o.kind == 1)=true) by rw [e];rfl] at X;cases X
  refine C6 2 [4,8,9,10,12,13,14,15,153] Z ?_;refine R6 (fun aa=>?_) fun aa=>?_
  ·have ab:o.kind=2:=dD aa;obtain ⟨f,aD⟩:∃ f,(fun k=>([1, -1]:List Rat).map (jB (bs B) (bp B) k (atT t (wgt B.pts t p)) (mH o z)))=f:=⟨_,rfl⟩;have A:rowsO B o p t z=(cJ B.col o).flatMap f:=by unfold rowsO;rw [aA aC,aI ab,<- aD]
   have bk:∀ k,(f k).length=2:=fun k=>by rw [<- aD];rfl
   refine C6 3 [9,12,14,15,155,156,157] Z ?_;refine G.loop (fun fr C' y F=>∃ (j:Nat)(vs:List Value)(w:Value),(j<=(cJ B.col o).length/\RowsOk C' vs (((cJ B.col o).take j).flatMap f))/\fr=[(9,[],.map (some T)),(12,[],ai (qtx (mH o z))),(14,[],.pointer (some ⟨c,0,none⟩)),(15,[],.func (.func 195) #[] #[.pointer (some ⟨c,0,none⟩),.pointer (some ⟨n,0,none⟩)]),(155,[],.slice Al (cJ B.col o).length cl),(156,[],.int .i64 (cJ B.col o).length),(157,[],.int .i64 j)]/\y=[.obj c (.cells ⟨[w]⟩ 78 (0,0)),.arr w 123 2 (((cJ B.col o).take j).flatMap f).length (aT vs (((cJ B.col o).take j).flatMap f)).flatten]/\F=(cJ B.col o).length-j) (hn_ [9,12,14,15,155,156,157] Z) ⟨0,[],.slice none 0 0,⟨Ow _,RowsOk.nil _⟩,Z,Z,Z⟩ (fun fr ce cf m _ H=>?_);obtain ⟨j,vs,w,⟨hj,I⟩,rfl,rfl,rfl⟩:=H;refine C6 1 [9,12,14,15,155,156,157,158] Z ?_;refine R6 (fun aE=>?_) fun aE=>?_
   ·have J:j<(cJ B.col o).length:=by
     have:=NM aE;omega
    obtain ⟨k,K⟩:∃ k,(cJ B.col o)[j]?=some k:=⟨(cJ B.col o)[j],ak J⟩;have ac:=aN k (Oq K);have ad:=fp bk ((cJ B.col o).take j);rw [OG] at ad;have aG:=iR f K;refine R8 fun R a=>?_;refine Sm aw.m_ U10 om_ (bO K) fl_ (fun cg bl=>?_);refine R5 bl U8 ?_;refine C4 1 [9,12,14,15,20,155,156,157] a Z ?_;clear a R;refine Sx [(5,3)] Z (fun R a=>?_);refine R9 4 Z ?_;refine Sr [[ai [49]],[ai [45,49]]] U12 (fun ch _ _ bm=>?_);refine D.call (iV _ d.m_ (bs B) (bp B) k T c n (atT t (wgt B.pts t p)) (mH o z) [1, -1] _ w vs _ S ac (Mem.get M mup) (Mem.get av mup) ap aq ar au ((DW bm).mono mup) DJ dc_ I.m_ om_) Z (.inr dc_) U6 (Ov _) fl_ (fun ci _ cj _ bo=>?_);refine Sa [9,12,14,15,155,156,157] a Z ?_;clear a R;refine R8 fun R a=>?_;refine Se _ U7 ?_;refine C4 1 [9,12,14,15,155,156,157] a Z ?_;clear a R;obtain ⟨aH,w3,rfl,rfl,ae⟩:=bo;rw [show ((cJ B.col o).take j).flatMap f++([1, -1]:List Rat).map (jB (bs B) (bp B) k (atT t (wgt B.pts t p)) (mH o z))=((cJ B.col o).take (j+1)).flatMap f by rw [aG,<- aD]] at ae ⊢;refine Sj (m':=(cJ B.col o).length-(j+1)) om_ mup (hn_ [9,12,14,15,155,156,157] Z) ⟨j+1,aH,w3,⟨by omega,ae⟩,Z,Z,Z⟩
   have J:j=(cJ B.col o).length:=by
    have:=Ox aE;omega
   rw [J,OH,<- A] at I ⊢;refine Si 0 mup (hn_ [14] Z) ⟨vs,w,I.mono mup,Z,Z⟩
  have ab:¬ o.kind=2:=by
   intro e;rw [show ((o.kind == 2)=true) by rw [e];rfl] at aa;cases aa
  obtain ⟨⟨bq,br,bt⟩,aX,aY,ag,ah⟩:=b.nr aC ab;obtain ⟨e1,q1⟩:=dw bq;obtain ⟨e2,q2⟩:=dw br;obtain ⟨e3,q3⟩:=dw bt;have aZ:(qtx (dO o.nx)).length<=1000000:=OQ (bK q1 dc_) dc_;have bu:(qtx (dO o.ny)).length<=1000000:=OQ (bK q2 dc_) dc_;have bx:QB 23 (Co o):=(pN (im aX) ag ah).le dc_;have bz:QB 23 (rb o):=(pN (im aY) ag ah).le dc_;obtain ⟨g,aJ⟩:∃ g,(fun k=>([1, -1]:List Rat).map (jB (bs B) (bp B) k (atT t fun j=>(slf B.pts t j).1) (Co o))++([1, -1]:List Rat).map (jB (bs B) (bp B) k (atT t fun j=>(slf B.pts t j).2) (rb o)))=g:=⟨_,rfl⟩;have A:rowsO B o p t z=(cJ B.col o).flatMap g:=by unfold rowsO;rw [aA aC,aA ab,<- aJ]
  have bA:∀ k,(g k).length=4:=fun k=>by rw [<- aJ];rfl
  have bB:=pG (fun j=>(slf B.pts t j).1) ao;have bC:=pG (fun j=>(slf B.pts t j).2) ao;have bD:∀ x∈atT t (fun j=>(slf B.pts t j).1),x.1<bp B:=mi (P:=fun x=>x.1<bp B) l.1 l.2.1 l.2.2;have bE:∀ x∈atT t (fun j=>(slf B.pts t j).2),x.1<bp B:=mi (P:=fun x=>x.1<bp B) l.1 l.2.1 l.2.2;have bF:∀ x∈atT t (fun j=>(slf B.pts t j).1),QB 23 x.2:=mi (P:=fun x=>QB 23 x.2) ((b.sl 0).1.le dc_) ((b.sl 1).1.le dc_) ((b.sl 2).1.le dc_);have bG:∀ x∈atT t (fun j=>(slf B.pts t j).2),QB 23 x.2:=mi (P:=fun x=>QB 23 x.2) ((b.sl 0).2.le dc_) ((b.sl 1).2.le dc_) ((b.sl 2).2.le dc_);refine R4 1 Z fun R a=>?_;refine R5 (bkT N 2) U8 ?_;refine R7 U6 ?_;refine SI (Cu _ d.m_ _ B.pts B.tris ti t aO.m_ Q b.tri b.sl) U7 (fun ck aj _ bH=>?_);obtain ⟨be,bn,rfl,bI,bJ⟩:=bH;refine C4 7 [8,13,14,15,21,22,23] a Z ?_;clear a R;refine C6 2 [8,13,14,15,21,22,23,77] Z ?_;refine R6 (fun a0=>?_) fun a0=>?_
  ·exact absurd a0 dc_
  refine Ss [0,1,2,3,4,5,6,7,8,9,10,11,12] [(3,1),(7,1)] Z kr_ (fun R L a=>?_);refine R9 2 Z ?_;refine R5 (bkT E 1) U8 ?_;refine Su (fun _=>(by have h:=eJ aj (dO o.nx) aZ;rw [<- e1] at h;exact h)) U9 ?_;refine R9 2 Z ?_;refine R5 (bkT E 1) U8 ?_;refine Su (fun _=>(by have h:=iF aj d.m_ (-dO o.nx) (dO o.nz) 11 dc_ dc_ (im aX) ag ah;rw [<- e3] at h;exact h)) U9 ?_;refine R9 5 Z ?_;refine Sa [8,13,14,15,21,22,24] a Z ?_;clear a L R;refine Ss [0,1,2,3,4,5,6,7,8,9,10,11,12] [(3,1),(7,1)] Z kr_ (fun R L a=>?_);refine R9 2 Z ?_;refine R5 (bkT E 1) U8 ?_;refine Su (fun _=>(by have h:=eJ aj (dO o.ny) bu;rw [<- e2] at h;exact h)) U9 ?_;refine R9 2 Z ?_;refine R5 (bkT E 1) U8 ?_;refine Su (fun _=>(by have h:=iF aj d.m_ (-dO o.ny) (dO o.nz) 11 dc_ dc_ (im aY) ag ah;rw [<- e3] at h;exact h)) U9 ?_;refine R9 5 Z ?_;refine Sa [13,14,15,21,22,24,26] a Z ?_;clear a L R;refine C6 3 [14,15,21,22,24,26,101,102,103] Z ?_;refine G.loop (fun fr C' y F=>∃ (j:Nat)(vs:List Value)(w:Value),(j<=(cJ B.col o).length/\RowsOk C' vs (((cJ B.col o).take j).flatMap g))/\fr=[(14,[],.pointer (some ⟨c,0,none⟩)),(15,[],.func (.func 195) #[] #[.pointer (some ⟨c,0,none⟩),.pointer (some ⟨n,0,none⟩)]),(21,[],.map (some be)),(22,[],.map (some bn)),(24,[],ai (qtx (Co o))),(26,[],ai (qtx (rb o))),(101,[],.slice Al (cJ B.col o).length cl),(102,[],.int .i64 (cJ B.col o).length),(103,[],.int .i64 j)]/\y=[.obj c (.cells ⟨[w]⟩ 78 (0,0)),.arr w 123 2 (((cJ B.col o).take j).flatMap g).length (aT vs (((cJ B.col o).take j).flatMap g)).flatten]/\F=(cJ B.col o).length-j) (hn_ [14,15,21,22,24,26,101,102,103] Z) ⟨0,[],.slice none 0 0,⟨Ow _,RowsOk.nil _⟩,Z,Z,Z⟩ (fun fr cm cn m aZ H=>?_);obtain ⟨j,vs,w,⟨hj,I⟩,rfl,rfl,rfl⟩:=H;refine C6 1 [14,15,21,22,24,26,101,102,103,104] Z ?_;refine R6 (fun aK=>?_) fun aK=>?_
  ·have J:j<(cJ B.col o).length:=by
    have:=NM aK;omega
   obtain ⟨k,K⟩:∃ k,(cJ B.col o)[j]?=some k:=⟨(cJ B.col o)[j],ak J⟩;have ac:=aN k (Oq K);have ad:=fp bA ((cJ B.col o).take j);rw [OG] at ad;have aG:=iR g K;refine R8 fun R a=>?_;refine Sm aw.m_ U10 om_ (bO K) fl_ (fun co bL=>?_);refine R5 bL U8 ?_;refine C4 1 [14,15,21,22,24,26,29,101,102,103] a Z ?_;clear a R;refine Sx [(5,3)] Z (fun R a=>?_);refine R9 4 Z ?_;refine Sr [[ai [49]],[ai [45,49]]] U12 (fun cp _ _ bM=>?_);refine D.call (iV _ d.m_ (bs B) (bp B) k be c n (atT t fun j=>(slf B.pts t j).1) (Co o) [1, -1] _ w vs _ S ac (Mem.get M mup) (Mem.get bI mup) bB bD bF bx ((DW bM).mono mup) DJ dc_ I.m_ om_) Z (.inr dc_) U6 (Ov _) fl_ (fun cq _ cr _ bN=>?_);refine Sa [14,15,21,22,24,26,29,101,102,103] a Z ?_;clear a R;obtain ⟨aH,w3,rfl,rfl,ae⟩:=bN;refine Sx [(5,3)] Z (fun R a=>?_);refine R9 4 Z ?_;refine Sr [[ai [49]],[ai [45,49]]] U12 (fun cs _ _ bP=>?_);refine D.call (iV _ d.m_ (bs B) (bp B) k bn c n (atT t fun j=>(slf B.pts t j).2) (rb o) [1, -1] _ w3 aH _ S ac (Mem.get M mup) (Mem.get bJ mup) bC bE bG bz ((DW bP).mono mup) DJ dc_ ae.m_ (by rw [Oy,ad];simp;omega)) Z (.inr dc_) U6 (Ov _) fl_ (fun ct _ cu _ bQ=>?_);refine Sa [14,15,21,22,24,26,101,102,103] a Z ?_;clear a R;refine R8 fun R a=>?_;refine Se _ U7 ?_;refine C4 1 [14,15,21,22,24,26,101,102,103] a Z ?_;clear a R;obtain ⟨bR,w4,rfl,rfl,a1⟩:=bQ;rw [show ((cJ B.col o).take j).flatMap g++([1, -1]:List Rat).map (jB (bs B) (bp B) k (atT t fun j=>(slf B.pts t j).1) (Co o))++([1, -1]:List Rat).map (jB (bs B) (bp B) k (atT t fun j=>(slf B.pts t j).2) (rb o))=((cJ B.col o).take (j+1)).flatMap g by rw [aG,<- aJ,OU]] at a1 ⊢;refine Sj (m':=(cJ B.col o).length-(j+1)) om_ mup (hn_ [14,15,21,22,24,26,101,102,103] Z) ⟨j+1,bR,w4,⟨by omega,a1⟩,Z,Z,Z⟩
  have J:j=(cJ B.col o).length:=by
   have:=Ox aK;omega
  rw [J,OH,<- A] at I ⊢;refine Si 0 mup (hn_ [14] Z) ⟨vs,w,I.mono mup,Z,Z⟩
 obtain ⟨vs ,w,a2,rfl,rfl⟩:=H;refine G.freezeArr 1 (aT vs (rowsO B o p t z)) Z Z (iE _ _) (dU a2.1) (fun Cr cw bS=>?_);have a3:RowsIn Cr w (rowsO B o p t z):=⟨vs,a2.mono mup,bS⟩;refine R8 fun R a=>?_;refine Sd af U9 ?_;refine Sk (CG _ d.m_ w (rowsO B o p t z) a3.m_ b.rows (fun r hr=>by rw [zj r hr];omega) (OQ (uY (by unfold bs at a7;omega)) dc_)) U7 fl_ ?_;refine C4 4 [6,7] a Z ?_;clear a R;refine Sh (G.dropAll (Sy U3 ?_));exact ⟨Z,w,Z,a3.mono mup⟩
structure Rich (B:Bk)(fs:List Rat)(RO:Nat->List RowQ):Prop where
 good:Good B.pts B.tris
 br:BookR B
 bz:iU B=0
 terr:Terr B fs
 h60:bs B*bp B<=60
 fine:∀ i o,B.obs[i]?=some o->∃ p ti t z,Fine B fs o p ti t z/\RO i=rowsO B o p t z
theorem lA (h:iU B=0):ug B.col=0:=by
 unfold iU at h;split at h
 ·rename_i h1;exact absurd h h1
 split at h
 ·rename_i h1;exact absurd h h1
 rename_i h1;exact O3 h1
theorem tL {l:List Lay}(h:ug l=0):l≠[]/\l.length<=60:=by
 unfold ug at h;split at h
 ·exact absurd h dc_
 rename_i h0;split at h
 ·exact absurd h dc_
 exact ⟨h0,by omega⟩
theorem Rich.bookz {a:Value}(h:Rich B fs RO)(d:Tabs C)(b:BookIn C a B):BookZ C a B 0 :=
 ⟨b,fun D c=>by have h2:=kg D (d.mono c) a B (b.mono c) h.good h.br;rwa [h.bz] at h2,fun _=>(tL (lA h.bz)).1,OQ (tL (lA h.bz)).2 dc_,h.good.ok.lp⟩
theorem Rich.scol (h:Rich B fs RO):bs B+1=B.col.length/\B.col.length<=60:=by
 obtain ⟨h1,h2⟩:=tL (lA h.bz);have:=O9.2 h1;unfold bs;omega
theorem NU (C:Mem)(f:Tabs C)(b:Value)(B:Bk)(c:List Rat)(d:Nat->List RowQ)(i:Nat)(g:BookIn C b B)(a:Rich B c d)(j:i<B.obs.length) :
  Pur cx.P 128 [fW (bs B) (bp B),b,.int .i64 i] C fun u D=>∃ v,u=.tuple #[v,.int .i64 0]/\RowsIn D v (d i):=by
 have e:B.obs[i]?=some B.obs[i]:=ak j;obtain ⟨p,ti,t,z,k,l⟩:=a.fine i _ e;have h:=Ky C f b B c i _ p ti t z g a.good a.br a.bz a.terr e k a.h60 (lA a.bz) a.scol.1 a.scol.2
 rwa [<- l] at h
theorem oh (a:Rich B fs RO)(b:i<B.obs.length):(RO i).length<=240/\∀ r∈RO i,r.f.length=bs B*bp B:=by
 have c:B.obs[i]?=some B.obs[i]:=ak b;obtain ⟨p,ti,t,z,g,d⟩:=a.fine i _ c;have e:(cJ B.col B.obs[i]).length<=60:=by
  unfold cJ wX;refine OQ (P2 _ _) ?_;rw [Pr];have:=a.scol.2;omega
 rw [d];exact ⟨uY e,zj⟩
def bG (B:Bk):List RowQ:=bd (bs B) (bp B) B.col (B.col.length-2)
theorem Bi (a:Rich B fs RO):(bG B).length<=120:=by
 have h:=lN (bs B) (bp B) B.col (B.col.length-2);have h1:=a.scol.1;have h2:(B.col.length-2)*bp B<=bs B*bp B:=Po _ om_;have h3:=a.h60;unfold bG;omega
structure SrcQ where
 n:Int
 r:RowQ
def bW (vs:List Value)(l:List SrcQ):List (List Value):=List.zipWith (fun w (s:SrcQ)=>[.int .i64 s.n,w,ai (qtx s.r.b)]) vs l
def SrcsOk (C:Mem)(vs:List Value)(l:List SrcQ):Prop:=RowsOk C vs (l.map SrcQ.r)
def AS (C:Mem)(v:Value)(l:List SrcQ):Prop:=∃ vs,SrcsOk C vs l/\Sl C 3 v (bW vs l)
theorem SrcsOk.mono {C D:Mem}{a:List Value}{l:List SrcQ}(h:SrcsOk C a l)(b:C.le D):SrcsOk D a l:=RowsOk.mono h b
theorem SrcsOk.m_ {D:Mem}{l:List SrcQ}(h:SrcsOk C vs l)(a:C.le D:=by exact mup):SrcsOk D vs l:=SrcsOk.mono h a
theorem SrcsOk.snoc {C:Mem}{a:List Value}{l:List SrcQ}{v:Value}{s:SrcQ}(h:SrcsOk C a l)(b:Sl C 1 v (s.r.f.map eR)):SrcsOk C (a++[v]) (l++[s]):=by
 unfold SrcsOk at h ⊢;rw [O7];exact RowsOk.snoc h b
theorem kG {l:List SrcQ}(h:SrcsOk C vs l):vs.length=l.length:=by have:=h.1;simpa using this
theorem kH {l:List SrcQ}(h:vs.length=l.length)(v:Value)(s:SrcQ):bW (vs++[v]) (l++[s])=bW vs l++[[.int .i64 s.n,v,ai (qtx s.r.b)]]:=by
 unfold bW;rw [List.zipWith_append h];rfl
theorem mA {l:List SrcQ}(h:vs.length=l.length):(bW vs l).length=l.length:=by simp [bW,h]
theorem pW (b:List Value)(l:List SrcQ):∀ r∈bW b l,r.length=3:=by
 intro r hr;unfold bW at hr;obtain ⟨i,a⟩:=PQ hr;rw [List.getElem?_zipWith] at a;cases h1:b[i]? <;> cases h2:l[i]? <;> rw [h1,h2] at a <;> simp at a
 subst a;rfl
def jR (n:Int)(l:List RowQ):List SrcQ:=l.map fun r=>⟨n,r⟩
def bN (T:List RowQ)(RO:Nat->List RowQ)(l:List Nat):List SrcQ:=jR (-1) T++l.flatMap fun i=>jR (i:Nat) (RO i)
theorem kF {n:Int}{l:List RowQ}(h:l[i]?=some r):jR n (l.take (i+1))=jR n (l.take i)++[⟨n,r⟩]:=by
 unfold jR;rw [OS,h,O7];rfl
theorem wd {T:List RowQ}:∀ {l:List Nat},(∀ i∈l,(RO i).length<=240)->l.length<=100->T.length<=120->(bN T RO l).length<=120+240*l.length:=by
 intro l h e hT;unfold bN;rw [Oy];have b:∀ l:List Nat,(∀ i∈l,(RO i).length<=240)->(l.flatMap fun i=>jR (i:Nat) (RO i)).length<=240*l.length:=by
  intro l;induction l with
  | nil=>intro _;simp
  | cons a l c =>
   intro h;have h1:=h a aJ;have h2:=c fun i d=>h i (OA _ d);rw [List.flatMap_cons,Oy,OI];have:(jR (a:Nat) (RO a)).length=(RO a).length:=by simp [jR]
   omega
 have h1:=b l h;have:(jR (-1) T).length=T.length:=by simp [jR]
 omega
theorem F7 (C:Mem)(hT:Tabs C)(bv lv:Value)(B:Bk)(fs:List Rat)(c:Nat->List RowQ)(l:List Nat)(hB:BookIn C bv B)(o:Rich B fs c)(K:Sl C 1 lv (l.map aQ))(ab:∀ i∈l,i<B.obs.length)(aM:l.length<=100)(aN:(bN (bG B) c l).length<=300) :
  Pur cx.P 85 [fW (bs B) (bp B),bv,lv] C fun u D=>∃ v,u=.tuple #[v,.int .i64 0]/\AS D v (bN (bG B) c l):=by
 have au:=hB;have av:=Bi o;obtain ⟨v1,v2,tv,cv,ov,rfl,h1,h2,h3,h4,h5⟩:=id hB.ex;obtain ⟨L,M,rfl,ax,aO,_⟩:=id K;have aP:maxLen<=9223372036854775807:=by simp [maxLen]
 simp only [al] at K ax ⊢;have ay:=fun m:List Nat=>fun hm:∀ i∈m,i<B.obs.length=>fun az:m.length<=100=>wd (T:=bG B) (RO:=c) (l:=m) (fun i A=>(oh o (hm i A)).1) az av;refine Sc func85 66 U3 fun w0=>R8 fun R d=>So U6 fun N=>So U6 fun O=>C4 2 [2,3,4] d Z<|G.freeze 1 Z fun _ _ ac=>G.freeze 0 Z fun _ _ ad=>C6 1 [2,3,4,8] Z<|R8 fun R d=>R5 (bkT ac 2) U8<|R7 U6<|R5 (bkT ad 1) U8<|SI (uD _ hT.m_ _ (bs B) (bp B) B.col h4.m_ o.scol.1 o.h60 o.br.col) U7 (fun aR _ _ aA=>?_);obtain ⟨ae,Q,E⟩:=aA;rw [show bd (bs B) (bp B) B.col (B.col.length-2)=bG B from rfl] at Q E;have ag:=Q.1;obtain ⟨At,ct,rfl,aB,aS,_⟩:=id E;simp only [dU ag] at E aB ⊢;refine C4 2 [2,3,4,8,20,21,22] d Z<|G.nilArr 125 3<|G.loop (fun fr C' e t=>∃ (i:Nat)(vs:List Value)(w:Value),(i<=(bG B).length/\SrcsOk C' vs (jR (-1) ((bG B).take i)))/\fr=[(2,[],.slice L l.length M),(3,[],.pointer (some ⟨N,0,none⟩)),(4,[],.pointer (some ⟨O,0,none⟩)),(8,[],w),(20,[],.slice At (bG B).length ct),(21,[],.int .i64 (bG B).length),(22,[],.int .i64 i)]/\e=[.arr w 125 3 (jR (-1) ((bG B).take i)).length (bW vs (jR (-1) ((bG B).take i))).flatten]/\t=(bG B).length-i) (hn_ [2,3,4,8,20,21,22] Z) ⟨0,[],_,⟨Ow _,RowsOk.nil _⟩,Z,Z,Z⟩ (fun fr aT aU m _ x=>?_);obtain ⟨i,vs,w,⟨A,F⟩,rfl,rfl,rfl⟩:=x;refine C6 1 [2,3,4,8,20,21,22,23] Z<|R6 (fun S=>?_) fun S=>?_
 ·have H:i<(bG B).length:=by
   have:=NM S;omega
  obtain ⟨r,g⟩:∃ r,(bG B)[i]?=some r:=⟨(bG B)[i],ak H⟩;obtain ⟨p,hw⟩:∃ p,ae[i]?=some p:=⟨ae[i]'(by rw [ag];exact H),ak _⟩;have q:=Q.2 i p r hw g;obtain ⟨h,n,rfl,_⟩:=id q;simp only [al] at q hw;have aC:(jR (-1) ((bG B).take i)).length=i:=by simp [jR];omega
  refine R8 fun R d=>Sm E.m_ U10 om_ (jU hw g) fl_ fun aW aD=>R5 aD U8<|Sq U5 fun aX=>Sf (j:=0) U12<|Sa [2,3,4,8,10,20,21,22] d Z<|R4 1 Z fun R d=>Sd af U9<|Sn [.int .i64 (-1),.slice h r.f.length n,ai (qtx r.b)] U8<|Sr [[.int .i64 (-1),.slice h r.f.length n,ai (qtx r.b)]] U12 fun aY _ _ aE=>D.append (j:=1) U11 aE Z aw (by simp only [aV];omega) fl_ fun ah=>C4 1 [2,3,4,8,20,21,22] d Z<|R8 fun R d=>Se _ U7<|C4 1 [2,3,4,8,20,21,22] d Z ?_;have y:=SrcsOk.snoc (s:=⟨-1,r⟩) F.m_ q.m_;rw [<- kF g] at y;refine SQ 1 Z<|Sp (L':=[.arr ah 125 3 (jR (-1) ((bG B).take (i+1))).length (bW (vs++[.slice h r.f.length n]) (jR (-1) ((bG B).take (i+1)))).flatten]) (by rw [kF g,kH (kG F)];simp)<|Sj (m':=(bG B).length-(i+1)) om_ mup (hn_ [2,3,4,8,20,21,22] Z) ⟨i+1,vs++[.slice h r.f.length n],ah,⟨by omega,y.mono mup⟩,Z,Z,Z⟩
 have H:i=(bG B).length:=by
  have:=Ox S;omega
 rw [H,OH] at F ⊢;refine C6 3 [3,4,8,32,33,34] Z<|Sp (L':=[.arr w 125 3 (bN (bG B) c (l.take 0)).length (bW vs (bN (bG B) c (l.take 0))).flatten]) (by simp [bN])<|G.loop (fun fr C' e t=>∃ (j:Nat)(vs:List Value)(w:Value),(j<=l.length/\SrcsOk C' vs (bN (bG B) c (l.take j)))/\fr=[(3,[],.pointer (some ⟨N,0,none⟩)),(4,[],.pointer (some ⟨O,0,none⟩)),(8,[],w),(32,[],.slice L l.length M),(33,[],.int .i64 l.length),(34,[],.int .i64 j)]/\e=[.arr w 125 3 (bN (bG B) c (l.take j)).length (bW vs (bN (bG B) c (l.take j))).flatten]/\t=l.length-j) (hn_ [3,4,8,32,33,34] Z) ⟨0,vs,w,⟨Ow _,by simpa [bN] using F⟩,Z,Z,Z⟩ (fun fr aZ a0 m _ x=>?_);obtain ⟨j,vs,w,⟨hj,z⟩,rfl,rfl,rfl⟩:=x;refine C6 1 [3,4,8,32,33,34,35] Z<|R6 (fun U=>?_) fun U=>?_
 ·have V:j<l.length:=by
   have:=NM U;omega
  obtain ⟨a,W⟩:∃ a,l[j]?=some a:=⟨l[j],ak V⟩;have aj:=ab a (Oq W);have aF:=ay (l.take j) (fun i A=>ab i (Pw A)) (by rw [OG];omega);rw [OG] at aF;have aG:bN (bG B) c (l.take (j+1))=bN (bG B) c (l.take j)++jR (a:Nat) (c a):=by
   unfold bN;rw [iR _ W,OU]
  have a1:=(oh o aj).1;refine R8 fun R d=>Sm K.m_ U10 om_ (bO W) fl_ fun a2 aH=>R5 aH U8<|C4 1 [3,4,8,12,32,33,34] d Z<|R8 fun R d=>R5 (bkT ac 2) U8<|R5 (bkT ad 5) U8<|R7 U6<|SI (NU _ hT.m_ _ B fs c a au.m_ o aj) U7 (fun a3 _ _ aI=>?_);obtain ⟨rv,rfl,am,an,X⟩:=aI;have ao:=an.1;obtain ⟨Ar,cr,rfl,aJ,a4,_⟩:=id X;simp only [dU ao] at X aJ ⊢;refine C4 5 [3,4,8,12,13,14,32,33,34] d Z<|C6 2 [3,4,8,12,13,14,32,33,34,46] Z<|R6 (fun ap=>?_) fun ap=>?_
  ·exact absurd ap dc_
  refine C6 3 [3,4,8,12,32,33,34,48,49,50] Z<|Sp (L':=[.arr w 125 3 (bN (bG B) c (l.take j)++jR (a:Nat) ((c a).take 0)).length (bW vs (bN (bG B) c (l.take j)++jR (a:Nat) ((c a).take 0))).flatten]) (by simp [jR])<|G.loop (fun fr C' e t=>∃ (k:Nat)(vs:List Value)(w:Value),(k<=(c a).length/\SrcsOk C' vs (bN (bG B) c (l.take j)++jR (a:Nat) ((c a).take k)))/\fr=[(3,[],.pointer (some ⟨N,0,none⟩)),(4,[],.pointer (some ⟨O,0,none⟩)),(8,[],w),(12,[],.int .i64 a),(32,[],.slice L l.length M),(33,[],.int .i64 l.length),(34,[],.int .i64 j),(48,[],.slice Ar (c a).length cr),(49,[],.int .i64 (c a).length),(50,[],.int .i64 k)]/\e=[.arr w 125 3 (bN (bG B) c (l.take j)++jR (a:Nat) ((c a).take k)).length (bW vs (bN (bG B) c (l.take j)++jR (a:Nat) ((c a).take k))).flatten]/\t=(c a).length-k) (hn_ [3,4,8,12,32,33,34,48,49,50] Z) ⟨0,vs,w,⟨Ow _,by rw [show jR (a:Nat) ((c a).take 0)=[] from Z,OX];exact z.mono mup⟩,Z,Z,Z⟩ (fun fr a5 a6 m _ x=>?_);obtain ⟨k,vs,w,⟨hk,I⟩,rfl,rfl,rfl⟩:=x;refine C6 1 [3,4,8,12,32,33,34,48,49,50,51] Z<|R6 (fun Y=>?_) fun Y=>?_
  ·have J:k<(c a).length:=by
    have:=NM Y;omega
   obtain ⟨r,g⟩:∃ r,(c a)[k]?=some r:=⟨(c a)[k],ak J⟩;obtain ⟨p,hw⟩:∃ p,am[k]?=some p:=⟨am[k]'(by rw [ao];exact J),ak _⟩;have q:=an.2 k p r hw g;obtain ⟨h,n,rfl,_⟩:=id q;simp only [al] at q hw;have aC:(jR (a:Nat) ((c a).take k)).length<=240:=by simp [jR];omega
   have a7:(bN (bG B) c (l.take j)++jR (a:Nat) ((c a).take k)).length<=100000:=by rw [Oy];omega
   refine R8 fun R d=>Sm X.m_ U10 om_ (jU hw g) fl_ fun a8 aK=>R5 aK U8<|Sq U5 fun a9=>Sf (j:=0) U12<|Sa [3,4,8,12,16,32,33,34,48,49,50] d Z<|R4 2 Z fun R d=>Sd af U9<|Sn [.int .i64 (a:Nat),.slice h r.f.length n,ai (qtx r.b)] U8<|Sr [[.int .i64 (a:Nat),.slice h r.f.length n,ai (qtx r.b)]] U12 fun ba _ _ aL=>D.append (j:=1) U11 aL Z aw (by simp only [aV];omega) fl_ fun aq=>C4 1 [3,4,8,12,32,33,34,48,49,50] d Z<|R8 fun R d=>Se _ U7<|C4 1 [3,4,8,12,32,33,34,48,49,50] d Z ?_;have y:=SrcsOk.snoc (s:=⟨(a:Nat),r⟩) I.m_ q.m_;rw [OU,<- kF g] at y;refine SQ 1 Z<|Sp (L':=[.arr aq 125 3 (bN (bG B) c (l.take j)++jR (a:Nat) ((c a).take (k+1))).length (bW (vs++[.slice h r.f.length n]) (bN (bG B) c (l.take j)++jR (a:Nat) ((c a).take (k+1)))).flatten]) (by rw [kF g,<- OU,kH (kG I)];simp;omega)<|Sj (m':=(c a).length-(k+1)) om_ mup (hn_ [3,4,8,12,32,33,34,48,49,50] Z) ⟨k+1,vs++[.slice h r.f.length n],aq,⟨by omega,y.mono mup⟩,Z,Z,Z⟩
  have J:k=(c a).length:=by
   have:=Ox Y;omega
  rw [J,OH,<- aG] at I ⊢;refine R8 fun R d=>Se _ U7<|C4 1 [3,4,8,32,33,34] d Z<|Sj (m':=l.length-(j+1)) om_ mup (hn_ [3,4,8,32,33,34] Z) ⟨j+1,vs,w,⟨by omega,I⟩,Z,Z,Z⟩
 have V:j=l.length:=by
  have:=Ox U;omega
 rw [V,OH] at z ⊢;refine G.freezeArr 0 (bW vs (bN (bG B) c l)) Z Z (pW _ _) (mA (kG z)) (fun Cg hg aa=>?_);obtain ⟨Ag,cg,rfl,_⟩:=id aa;rw [mA (kG z)] at aa ⊢;refine C6 3 [8,64] Z<|R6 (fun ar=>?_) fun ar=>?_
 ·exfalso;have:=NM ar;omega
 refine C6 3 [6,7] Z<|Sh (G.dropAll (Sy U3 ?_));exact ⟨Z,_,Z,vs,z.mono mup,aa.mono mup⟩
def bH (err:Nat->Int):Nat->Int
 | 0=>0
 | n+1=>if bH err n≠0 then bH err n else err n
theorem gQ {a:Nat->Int}{n:Nat}(h:bH a n≠0):∀ m,n<=m->bH a m=bH a n
 | 0,hm=>by rw [show n=0 by omega]
 | m+1,hm=>by
  rcases OZ m n with h1 | h1
  ·rw [show n=m+1 by omega]
  have b:=gQ h m h1;simp only [bH,b];rw [aI h]
theorem fJ (a:bH err i=0)(b:err i≠0)(c:i<n):bH err n=err i:=by
 have h1:bH err (i+1)=err i:=by simp only [bH,a];rw [aA dc_]
 rw [gQ (n:=i+1) (by rw [h1];exact b) n om_,h1]
theorem gN (a:bH err i=0)(b:err i=0):bH err (i+1)=0:=by
 simp only [bH,a];rw [aA dc_,b]
theorem kY {a:Nat->Int}:∀ {n:Nat},bH a n=0->∀ i,i<n->a i=0
 | 0,_,i,b=>by omega
 | n+1,h,i,b=>by
  by_cases h0:bH a n=0
  ·rcases OZ i n with h1 | h1
   ·exact kY h0 i h1
   have:i=n:=by omega
   subst this;simp only [bH,h0] at h
   rwa [aA dc_] at h
  simp only [bH] at h;rw [aI h0] at h;exact absurd h h0
theorem kf {a:Nat->Int}:∀ {n:Nat},(∀ i,i<n->a i=0)->bH a n=0
 | 0,_=>rfl
 | n+1,h=>gN (kf fun i b=>h i om_) (h n om_)
theorem BW (C:Mem)(v:Value)(l:List Int)(z:Int)(b:Sl C 1 v (l.map jF)):Gives cx.P 126 [v,.int .i64 z] C (.int .i64 (kb (fun y=>decide (z=y)) l 0)):=by
 obtain ⟨h,c0,rfl,j,t,_⟩:=id b;have u:maxLen<=9223372036854775807:=by simp [maxLen]
 simp only [al] at b j ⊢;refine Sc func126 19 U3 fun w0=>C6 1 [0,1] Z<|C6 3 [0,1,7,8] Z<|G.loop (fun fr C' k n=>∃ (i:Nat),(i<=l.length/\∀ y∈l.take i,(fun y=>decide (z=y)) y=false)/\fr=[(0,[],.slice h l.length c0),(1,[],.int .i64 z),(7,[],.int .i64 l.length),(8,[],.int .i64 i)]/\k=[]/\n=l.length-i) (hn_ [0,1,7,8] Z) ⟨0,⟨Ow _,by simp⟩,Z,Z,Z⟩ (fun fr w A m o p=>?_);obtain ⟨i,⟨B,a⟩,rfl,rfl,rfl⟩:=p;refine C6 1 [0,1,7,8,9] Z<|R6 (fun c=>?_) fun c=>?_
 ·have d:i<l.length:=by simpa using c
  obtain ⟨x,e⟩:∃ x,l[i]?=some x:=⟨l[i],ak d⟩;refine C6 2 [0,1,5,7,8] Z<|R4 3 Z fun R f=>Sm b.m_ U10 om_ (bO e) fl_ fun D q=>R5 q U8<|C4 1 [0,1,5,7,8,16] f Z<|R6 (fun g=>?_) fun g=>?_
  ·have r:decide (z=x)=true:=by simpa using g
   exact C6 2 [4] Z<|Sb U2<|⟨by rw [nl e r a,PJ],Z⟩
  have s:decide (z=x)=false:=by simpa using g
  refine R8 fun R f=>Se _ U7<|C4 1 [0,1,7,8] f Z<|Sj (m':=l.length-(i+1)) om_ o (hn_ [0,1,7,8] Z) ⟨i+1,⟨by omega,fun y hy=>by
   rw [OS,e] at hy;rcases OJ.1 hy with hy | hy
   ·exact a y hy
   simp only [PF,OP] at hy;subst hy;exact s⟩,Z,Z,Z⟩
 have d:i=l.length:=by
  have:¬ i<l.length:=by simpa using c
  omega
 exact C6 1 [4] Z<|Sb U2<|⟨by rw [d,OH] at a;rw [kX a],Z⟩
theorem tI (C:Mem)(v:Value)(l:List Int)(z:Int)(a:Sl C 1 v (l.map jF)):Gives cx.P 84 [v,.int .i64 z] C (.bool (decide (z∈l))):=by
 refine Sc func84 9 U3 fun w0=>?_;refine C6 1 [0,1] Z ?_;refine R4 2 Z fun R b=>?_;refine Sg (BW _ v l z a.m_) U7 ?_;refine C4 2 [4] b Z ?_;refine Sb U2 ?_;refine ⟨?_,Z⟩;congr 1;rw [Pp];rcases lY (fun y=>decide (z=y)) l with ⟨h1,h2⟩ | ⟨i,x,h1,h2,h3,_⟩
 ·rw [h1];constructor
  ·intro h;omega
  intro h;have:=h2 z h;simp at this
 rw [h1];constructor
 ·intro _;have:z=x:=NM h3;rw [this];exact Oq h2
 intro _;omega
def qA (n:Nat)(l:List Int)(i:Nat):Int:=if l.getD i 0<0∨(n:Int)<=l.getD i 0 then 3 else if l.getD i 0∈l.take i then 9 else 0
def chZ (n:Nat)(l:List Int):Int:=bH (qA n l) l.length
theorem No {l:List Int}(h:chZ n l=0):l=(l.map Int.toNat).map (fun i:Nat=>(i:Int))/\∀ i∈l.map Int.toNat,i<n:=by
 have c:∀ z∈l,0<=z/\z<(n:Int):=by
  intro z a;obtain ⟨i,b⟩:=PQ a;have h1:=kY h i (aF.1 b).1;unfold qA at h1;rw [ax,b,Pu] at h1;split at h1
  ·cases h1
  omega
 refine ⟨?_,fun i b=>?_⟩
 ·rw [Pc];symm;have e:∀ z∈l,((fun i:Nat=>(i:Int)) ∘ Int.toNat) z=id z:=fun z a=>Int.toNat_of_nonneg (c z a).1;rw [List.map_congr_left e,List.map_id]
 obtain ⟨z,a,rfl⟩:=OB.1 b;have:=c z a;omega
theorem CB (C:Mem)(y:Tabs C)(A E:Value)(B:Bk)(F:List Rat)(g:Nat->List RowQ)(l:List Int)(o:BookIn C A B)(p:Rich B F g)(c:Sl C 1 E (l.map jF))(N:l.length<=100)(O:chZ B.obs.length l=0->(bN (bG B) g (l.map Int.toNat)).length<=300) :
  Pur cx.P 52 [A,E] C fun u D=>∃ v,u=.tuple #[v,.int .i64 (chZ B.obs.length l)]/\AS D v (if chZ B.obs.length l=0 then bN (bG B) g (l.map Int.toNat) else []):=by
 have H:=o;have Q:=c;have I:=p.bookz y o;obtain ⟨v1,v2,tv,cv,ov,rfl,h1,h2,h3,h4,h5⟩:=id o.ex;obtain ⟨A5,c5,rfl,S,ag,_⟩:=id h5;obtain ⟨q,d,rfl,T,ah,_⟩:=id c;have ai:maxLen<=9223372036854775807:=by simp [maxLen]
 simp only [al] at h5 S H I c Q T ⊢;refine Sc func52 46 U3 fun w0=>R8 fun R a=>So U6 fun U=>C4 2 [1,2] a Z<|G.freeze 0 Z fun _ _ r=>R8 fun R a=>R5 (bkT r 5) U8<|Sg (N6 _ _ B I.m_ p.h60) U7<|R9 3 Z<|Sq U5 fun V=>Sf (j:=0) U12<|C4 1 [1,2,6,7] a Z<|C6 2 [1,2,6,7,16] Z<|R6 (fun J=>?_) fun J=>?_
 ·exact absurd J dc_
 refine G.freeze 0 Z fun _ _ W=>C6 3 [1,2,6,18,19,20] Z<|G.loop (fun fr C' X Y=>∃ (i:Nat),(i<=l.length/\bH (qA B.obs.length l) i=0)/\fr=[(1,[],.slice q l.length d),(2,[],.pointer (some ⟨U,0,none⟩)),(6,[],.pointer (some ⟨V,0,none⟩)),(18,[],.slice q l.length d),(19,[],.int .i64 l.length),(20,[],.int .i64 i)]/\X=[]/\Y=l.length-i) (hn_ [1,2,6,18,19,20] Z) ⟨0,⟨Ow _,Z⟩,Z,Z,Z⟩ (fun fr aj am m _ hI=>?_);obtain ⟨i,⟨hi,k⟩,rfl,rfl,rfl⟩:=hI;refine C6 1 [1,2,6,18,19,20,21] Z<|R6 (fun s=>?_) fun s=>?_
 ·have e:i<l.length:=by
   have:=NM s;omega
  obtain ⟨z,K⟩:∃ z,l[i]?=some z:=⟨l[i],ak e⟩;have t:l.getD i 0=z:=by rw [ax,K,Pu]
  have L:=Sl.sub c (l:=0) (h:=i) (m:=d) (Ow _) ap om_ (Oo _);rw [Pz,<- Rb] at L;refine R4 1 Z fun R a=>Sm c.m_ U10 om_ (bO K) fl_ fun an aa=>R5 aa U8<|C4 2 [1,2,6,8,9,18,19,20] a Z<|R4 5 Z fun R a=>Sz U6 (fun _=>PtrTo.blockT (Mem.get r mup) _ 1) U3<|R9 2 Z<|SA U8<|Sa [1,2,6,8,9,18,19,20,33] a Z<|R6 (fun w=>?_) fun w=>?_
  ·have b:qA B.obs.length l i=3:=by
    unfold qA;rw [t,aI (by simp only [PX,Oz] at w;omega)]
   have f:chZ B.obs.length l=3:=by
    unfold chZ;rw [fJ k (by rw [b];decide) e,b]
   refine C6 2 [4,5] Z<|Sh (G.dropAll (Sy U3 ?_));exact ⟨Z,.slice none 0 0,by rw [f],by rw [f];exact ⟨[],RowsOk.nil _,Sl.nil _ _⟩⟩
  have M:¬ (z<0∨(B.obs.length:Int)<=z):=by
   simp only [PR,OL] at w;omega
  refine R4 2 Z fun R a=>SX 0 i d U12 (fun _=>⟨.inl ⟨Z,Z⟩,.inr ⟨_,Z⟩,.inl ⟨Z,Z⟩,by omega,by omega,by omega⟩) U2<|R7 U6<|Sg (tI _ _ (l.take i) z L.m_) U7<|Sa [1,2,6,18,19,20,38] a Z<|R6 (fun x=>?_) fun x=>?_
  ·have hm:z∈l.take i:=NM x;have b:qA B.obs.length l i=9:=by
    unfold qA;rw [t,aA M,aI hm]
   have f:chZ B.obs.length l=9:=by
    unfold chZ;rw [fJ k (by rw [b];decide) e,b]
   refine C6 2 [4,5] Z<|Sh (G.dropAll (Sy U3 ?_));exact ⟨Z,.slice none 0 0,by rw [f],by rw [f];exact ⟨[],RowsOk.nil _,Sl.nil _ _⟩⟩
  have hm:z ∉ l.take i:=Ox x;have b:qA B.obs.length l i=0:=by
   unfold qA;rw [t,aA M,aA hm]
  refine R8 fun R a=>Se _ U7<|C4 1 [1,2,6,18,19,20] a Z<|Sj (m':=l.length-(i+1)) om_ mup (hn_ [1,2,6,18,19,20] Z) ⟨i+1,⟨by omega,gN k b⟩,Z,Z,Z⟩
 have e:i=l.length:=by
  have:=Ox s;omega
 subst e;have n:chZ B.obs.length l=0:=k;obtain ⟨ab,ac⟩:=No n;have ad:Sl C 1 (.slice q l.length d) ((l.map Int.toNat).map aQ):=by
  have h:=congrArg (List.map jF) ab;rw [Pc] at h;rw [show (l.map Int.toNat).map aQ=l.map jF from h.symm];exact c
 refine R8 fun R a=>R5 (bkT W 2) U8<|R5 (bkT r 5) U8<|R7 U6<|SD (F7 _ y.m_ _ _ B F g (l.map Int.toNat) H.m_ p ad.m_ ac (by simpa using N) (O n)) U7 fl_ (fun ao _ _ ae=>?_);obtain ⟨rv,rfl,af⟩:=ae;refine C4 4 [4,5] a Z<|Sh (G.dropAll (Sy U3 ?_));exact ⟨Z,rv,by rw [n],by rw [aI n];exact af⟩
def dotV (f x:List Rat):Nat->Rat
 | 0=>0
 | n+1=>dotV f x n+f.getD n 0*x.getD n 0
structure DotOk (r:RowQ)(x:List Rat):Prop where
 f:∀ q∈r.f,QB 22 q
 b:QB 22 r.b
 len:r.f.length=x.length
 s:∀ n,QB 2000 (dotV r.f x n)
def sqP:List (Int × Int):=[(0,0),(4,0),(4,4),(0,4)]
def shP:Nat->List (Int × Int)
 | 0=>sqP
 | 1=>sqP
 | 2=>sqP++[(2,1)]
 | 3=>[(0,0),(6,0),(0,4)]
 | 4=>[(0,0),(2,0),(4,0),(0,2),(2,2),(4,2)]
 | 5=>[(1,4),(5,3),(4,0),(0,0)]
 | 6=>sqP++[(2,0)]
 | _=>[(0,0),(6,0),(0,6),(2,2)]
def shT:Nat->List Tri
 | 0=>[(0,1,2),(0,2,3)]
 | 1=>[(0,1,3),(1,2,3)]
 | 2=>[(0,1,4),(1,2,4),(2,3,4),(3,0,4)]
 | 3=>[(2,0,1)]
 | 4=>[(0,1,4),(0,4,3),(1,2,5),(1,5,4)]
 | 5=>[(3,2,1),(3,1,0)]
 | 6=>[(0,4,3),(4,2,3),(4,1,2)]
 | _=>[(0,1,3),(1,2,3),(2,0,3)]
def Od (p:Int × Int):List Value:=[.int .i64 p.1,.int .i64 p.2]
def ShIn (u:Value)(D:Mem)(m:Nat):Prop:=∃ pv tv,u=.tuple #[pv,tv]/\Sl D 2 pv ((shP m).map Od)/\Sl D 3 tv ((shT m).map jP)
theorem Bu (C:Mem)(a:Nat)(_H:a<256):Pur cx.P 94 [.int .u8 a] C fun u D=>ShIn u D (a % 8):=by
 have I:a % 8<8:=Pd _ dc_;obtain ⟨m,hm⟩:∃ m,a % 8=m:=⟨_,rfl⟩;refine Sc func94 86 U3 fun w0=>C6 2 [0] Z<|R8 fun R b=>Sn ([.int .i64 0,.int .i64 0]) U8<|Sn ([.int .i64 4,.int .i64 0]) U8<|Sn ([.int .i64 4,.int .i64 4]) U8<|Sn ([.int .i64 0,.int .i64 4]) U8<|SJ [[.int .i64 0,.int .i64 0],[.int .i64 4,.int .i64 0],[.int .i64 4,.int .i64 4],[.int .i64 0,.int .i64 4]] U12 fl_ fun J _ _ d=>C4 1 [0,4] b Z<|R4 1 Z fun R b=>SZ (a) (8) U6 om_ U2<|Sa [4,11] b Z<|C6 2 [4,11,12] Z<|R6 (fun f=>?_) fun f=>?_
 ·have c:a % 8=0:=by
   have:=dD f;omega
  refine R4 1 Z fun R b=>Sn ([.int .i64 0,.int .i64 1,.int .i64 2]) U8<|Sn ([.int .i64 0,.int .i64 2,.int .i64 3]) U8<|Sr [[.int .i64 0,.int .i64 1,.int .i64 2],[.int .i64 0,.int .i64 2,.int .i64 3]] U12 fun K _ _ n=>C4 2 [2,3] b Z<|Sh (G.dropAll (Sy U3 ?_));exact ⟨Z,by rw [c];exact ⟨_,_,Z,d.mono mup,n.mono mup⟩⟩
 have L:a % 8≠0:=by
  intro e;rw [e] at f;exact absurd f dc_
 refine C6 2 [4,11,18] Z<|R6 (fun g=>?_) fun g=>?_
 ·have c:a % 8=1:=by
   have:=dD g;omega
  refine R4 1 Z fun R b=>Sn ([.int .i64 0,.int .i64 1,.int .i64 3]) U8<|Sn ([.int .i64 1,.int .i64 2,.int .i64 3]) U8<|Sr [[.int .i64 0,.int .i64 1,.int .i64 3],[.int .i64 1,.int .i64 2,.int .i64 3]] U12 fun M _ _ o=>C4 2 [2,3] b Z<|Sh (G.dropAll (Sy U3 ?_));exact ⟨Z,by rw [c];exact ⟨_,_,Z,d.mono mup,o.mono mup⟩⟩
 have N:a % 8≠1:=by
  intro e;rw [e] at g;exact absurd g dc_
 refine C6 2 [4,11,24] Z<|R6 (fun h=>?_) fun h=>?_
 ·have c:a % 8=2:=by
   have:=dD h;omega
  refine R4 1 Z fun R b=>Sn ([.int .i64 2,.int .i64 1]) U8<|Sr [[.int .i64 2,.int .i64 1]] U12 fun O _ _ p=>TB U10 d.m_ p.m_ (.inr dc_) (by simp only [OI,O4,maxLen];omega) dc_ fl_ fun Q _ _ q=>Sn ([.int .i64 0,.int .i64 1,.int .i64 4]) U8<|Sn ([.int .i64 1,.int .i64 2,.int .i64 4]) U8<|Sn ([.int .i64 2,.int .i64 3,.int .i64 4]) U8<|Sn ([.int .i64 3,.int .i64 0,.int .i64 4]) U8<|Sr [[.int .i64 0,.int .i64 1,.int .i64 4],[.int .i64 1,.int .i64 2,.int .i64 4],[.int .i64 2,.int .i64 3,.int .i64 4],[.int .i64 3,.int .i64 0,.int .i64 4]] U12 fun S _ _ r=>C4 2 [2,3] b Z<|Sh (G.dropAll (Sy U3 ?_));exact ⟨Z,by rw [c];exact ⟨_,_,Z,q.mono mup,r.mono mup⟩⟩
 have T:a % 8≠2:=by
  intro e;rw [e] at h;exact absurd h dc_
 refine C6 2 [4,11,35] Z<|R6 (fun i=>?_) fun i=>?_
 ·have c:a % 8=3:=by
   have:=dD i;omega
  refine R8 fun R b=>Sn ([.int .i64 0,.int .i64 0]) U8<|Sn ([.int .i64 6,.int .i64 0]) U8<|Sn ([.int .i64 0,.int .i64 4]) U8<|Sr [[.int .i64 0,.int .i64 0],[.int .i64 6,.int .i64 0],[.int .i64 0,.int .i64 4]] U12 fun U _ _ s=>Sn ([.int .i64 2,.int .i64 0,.int .i64 1]) U8<|Sr [[.int .i64 2,.int .i64 0,.int .i64 1]] U12 fun V _ _ t=>C4 2 [2,3] b Z<|Sh (G.dropAll (Sy U3 ?_));exact ⟨Z,by rw [c];exact ⟨_,_,Z,s.mono mup,t.mono mup⟩⟩
 have W:a % 8≠3:=by
  intro e;rw [e] at i;exact absurd i dc_
 refine C6 2 [4,11,43] Z<|R6 (fun j=>?_) fun j=>?_
 ·have c:a % 8=4:=by
   have:=dD j;omega
  refine R8 fun R b=>Sn ([.int .i64 0,.int .i64 0]) U8<|Sn ([.int .i64 2,.int .i64 0]) U8<|Sn ([.int .i64 4,.int .i64 0]) U8<|Sn ([.int .i64 0,.int .i64 2]) U8<|Sn ([.int .i64 2,.int .i64 2]) U8<|Sn ([.int .i64 4,.int .i64 2]) U8<|Sr [[.int .i64 0,.int .i64 0],[.int .i64 2,.int .i64 0],[.int .i64 4,.int .i64 0],[.int .i64 0,.int .i64 2],[.int .i64 2,.int .i64 2],[.int .i64 4,.int .i64 2]] U12 fun X _ _ v=>Sn ([.int .i64 0,.int .i64 1,.int .i64 4]) U8<|Sn ([.int .i64 0,.int .i64 4,.int .i64 3]) U8<|Sn ([.int .i64 1,.int .i64 2,.int .i64 5]) U8<|Sn ([.int .i64 1,.int .i64 5,.int .i64 4]) U8<|Sr [[.int .i64 0,.int .i64 1,.int .i64 4],[.int .i64 0,.int .i64 4,.int .i64 3],[.int .i64 1,.int .i64 2,.int .i64 5],[.int .i64 1,.int .i64 5,.int .i64 4]] U12 fun Y _ _ w=>C4 2 [2,3] b Z<|Sh (G.dropAll (Sy U3 ?_));exact ⟨Z,by rw [c];exact ⟨_,_,Z,v.mono mup,w.mono mup⟩⟩
 have aa:a % 8≠4:=by
  intro e;rw [e] at j;exact absurd j dc_
 refine C6 2 [4,11,57] Z<|R6 (fun k=>?_) fun k=>?_
 ·have c:a % 8=5:=by
   have:=dD k;omega
  refine R8 fun R b=>Sn ([.int .i64 1,.int .i64 4]) U8<|Sn ([.int .i64 5,.int .i64 3]) U8<|Sn ([.int .i64 4,.int .i64 0]) U8<|Sn ([.int .i64 0,.int .i64 0]) U8<|Sr [[.int .i64 1,.int .i64 4],[.int .i64 5,.int .i64 3],[.int .i64 4,.int .i64 0],[.int .i64 0,.int .i64 0]] U12 fun ab _ _ x=>Sn ([.int .i64 3,.int .i64 2,.int .i64 1]) U8<|Sn ([.int .i64 3,.int .i64 1,.int .i64 0]) U8<|Sr [[.int .i64 3,.int .i64 2,.int .i64 1],[.int .i64 3,.int .i64 1,.int .i64 0]] U12 fun ac _ _ y=>C4 2 [2,3] b Z<|Sh (G.dropAll (Sy U3 ?_));exact ⟨Z,by rw [c];exact ⟨_,_,Z,x.mono mup,y.mono mup⟩⟩
 have ad:a % 8≠5:=by
  intro e;rw [e] at k;exact absurd k dc_
 refine C6 2 [4,67] Z<|R6 (fun l=>?_) fun l=>?_
 ·have c:a % 8=6:=by
   have:=dD l;omega
  refine R4 1 Z fun R b=>Sn ([.int .i64 2,.int .i64 0]) U8<|Sr [[.int .i64 2,.int .i64 0]] U12 fun ae _ _ z=>TB U10 d.m_ z.m_ (.inr dc_) (by simp only [OI,O4,maxLen];omega) dc_ fl_ fun af _ _ A=>Sn ([.int .i64 0,.int .i64 4,.int .i64 3]) U8<|Sn ([.int .i64 4,.int .i64 2,.int .i64 3]) U8<|Sn ([.int .i64 4,.int .i64 1,.int .i64 2]) U8<|Sr [[.int .i64 0,.int .i64 4,.int .i64 3],[.int .i64 4,.int .i64 2,.int .i64 3],[.int .i64 4,.int .i64 1,.int .i64 2]] U12 fun ag _ _ B=>C4 2 [2,3] b Z<|Sh (G.dropAll (Sy U3 ?_));exact ⟨Z,by rw [c];exact ⟨_,_,Z,A.mono mup,B.mono mup⟩⟩
 have ah:a % 8≠6:=by
  intro e;rw [e] at l;exact absurd l dc_
 refine R8 fun R b=>Sn ([.int .i64 0,.int .i64 0]) U8<|Sn ([.int .i64 6,.int .i64 0]) U8<|Sn ([.int .i64 0,.int .i64 6]) U8<|Sn ([.int .i64 2,.int .i64 2]) U8<|Sr [[.int .i64 0,.int .i64 0],[.int .i64 6,.int .i64 0],[.int .i64 0,.int .i64 6],[.int .i64 2,.int .i64 2]] U12 fun ai _ _ E=>Sn ([.int .i64 0,.int .i64 1,.int .i64 3]) U8<|Sn ([.int .i64 1,.int .i64 2,.int .i64 3]) U8<|Sn ([.int .i64 2,.int .i64 0,.int .i64 3]) U8<|Sr [[.int .i64 0,.int .i64 1,.int .i64 3],[.int .i64 1,.int .i64 2,.int .i64 3],[.int .i64 2,.int .i64 0,.int .i64 3]] U12 fun aj _ _ F=>C4 2 [2,3] b Z<|Sh (G.dropAll (Sy U3 ?_));exact ⟨Z,by rw [show a % 8=7 by omega];exact ⟨_,_,Z,E.mono mup,F.mono mup⟩⟩
theorem Dj {n:Int}(a:-128<=n)(b:n<128):IntKind.i8.wrap n=n:=by
 simp [IntKind.wrap,IntKind.bits,IntKind.signed];omega
theorem MB:∀ m:Nat,∀ p∈shP m,0<=p.1/\p.1<=6/\0<=p.2/\p.2<=6
 | 0=>by decide
 | 1=>by decide
 | 2=>by decide
 | 3=>by decide
 | 4=>by decide
 | 5=>by decide
 | 6=>by decide
 | _+7=>by
  show ∀ p∈([(0,0),(6,0),(0,6),(2,2)]:List (Int × Int)),0<=p.1/\p.1<=6/\0<=p.2/\p.2<=6;decide
theorem DS:∀ m:Nat,(shP m).length<=6
 | 0=>by decide
 | 1=>by decide
 | 2=>by decide
 | 3=>by decide
 | 4=>by decide
 | 5=>by decide
 | 6=>by decide
 | _+7=>by
  show ([(0,0),(6,0),(0,6),(2,2)]:List (Int × Int)).length<=6;decide
def da (m:Nat)(a b:Int)(h:Bool):List Pt:=(shP m).map fun p=>dA a b h p.1 p.2 1
theorem kL (m:Nat)(a b:Int)(h:Bool):(da m a b h).length<=6:=by rw [da,al];exact DS m
theorem pj {z w:Int}(c:w≠0)(a:z.natAbs<1000000000)(b:w.natAbs<1000000000):QB 1 (mS z w):=by
 unfold mS;refine gE om_ ?_ ?_
 ·show _<B9 ^ 1;split
  ·rw [Rr];exact a
  exact a
 exact b
theorem zA {a b:Int}{h:Bool}{x y n:Int}(i:0<n)(j:n<=4)(k:-128<=x/\x<=127)(l:-128<=y/\y<=127):QP 1 (dA a b h x y n):=by
 have c:=Dx a;have d:=Dx b;have g:eA h=1∨eA h=2:=by cases h <;> simp [eA]
 have f:∀ z:Int, -8<z->z<8->-32<z*n/\z*n<32:=fun z h1 h2=>by
  rcases (by omega:n=1∨n=2∨n=3∨n=4) with e | e | e | e <;> subst e <;> omega
 have m:=f _ c.1 c.2;have o:=f _ d.1 d.2;have p:0<eA h*n/\eA h*n<=8:=by rcases g with e | e <;> rw [e] <;> omega
 exact ⟨pj om_ om_ om_,pj om_ om_ om_⟩
theorem vz (C:Mem)(F:Tabs C)(d:Nat)(a b:Int)(h:Bool)(H:d<256):Pur cx.P 61 [Js d a b h] C fun u D=>MeshIn D u (da (d % 8) a b h) (shT (d % 8)):=by
 have I:=MB (d % 8);have ad:=DS (d % 8);refine Sc func61 42 U3 fun w0=>R8 fun R e=>So U6 fun J=>Sq U5 fun f=>Sa [1,2] e Z<|G.freeze 1 Z fun _ _ x=>R4 1 Z fun R e=>R5 (bkT x 1) U8<|SI (Bu _ d H) U7 (fun ae _ _ K=>?_);obtain ⟨pv,tv,rfl,g,q⟩:=K;obtain ⟨L,M,rfl,N,ag,_⟩:=id g;obtain ⟨k,l,rfl,ah,ai,_⟩:=id q;simp only [al] at g q N ⊢;refine C4 5 [1,2,3,4] e Z<|R4 1 Z fun R e=>Sn [.slice none 0 0,.slice k (shT (d % 8)).length l] U8<|Sq U5 fun n=>Sf (j:=0) U12<|Sa [1,2,3,5] e Z<|C6 1 [1,2,3,5,6] Z<|G.nilArr 58 2<|G.perm (L':=[.obj n (.cells ⟨[.slice none 0 0,.slice k (shT (d % 8)).length l]⟩ 36 (0,0)),.arr (.slice none 0 0) 58 2 0 [],.obj f (.cells ⟨[.slice none 0 0,.slice none 0 0]⟩ 36 (0,0))]) (List.Perm.swap _ _ _)<|G.loop (fun fr C' s O=>∃ (i:Nat)(w:Value),(i<=(shP (d % 8)).length)/\fr=[(1,[],.pointer (some ⟨J,0,none⟩)),(2,[],.pointer (some ⟨f,0,none⟩)),(3,[],.slice L (shP (d % 8)).length M),(5,[],.pointer (some ⟨n,0,none⟩)),(6,[],.int .i64 i)]/\s=[.obj n (.cells ⟨[w,.slice k (shT (d % 8)).length l]⟩ 36 (0,0)),.arr w 58 2 ((da (d % 8) a b h).take i).length (((da (d % 8) a b h).take i).map fR).flatten,.obj f (.cells ⟨[.slice none 0 0,.slice none 0 0]⟩ 36 (0,0))]/\O=(shP (d % 8)).length-i) (hn_ [1,2,3,5,6] Z) ⟨0,.slice none 0 0,Ow _,Z,Z,Z⟩ (fun fr aj am m _ Q=>?_);obtain ⟨i,w,hi,rfl,rfl,rfl⟩:=Q;refine C6 4 [1,2,3,5,6,18] Z<|R6 (fun t=>?_) fun t=>?_
 ·have v:i<(shP (d % 8)).length:=by
   have:=NM t;omega
  obtain ⟨p,o⟩:∃ p,(shP (d % 8))[i]?=some p:=⟨(shP (d % 8))[i],ak v⟩;obtain ⟨an,ao,ap,aq⟩:=I p (Oq o);have S:(da (d % 8) a b h)[i]?=some (dA a b h p.1 p.2 1):=by unfold da;rw [Ou,o];rfl
  have T:(da (d % 8) a b h).take (i+1)=(da (d % 8) a b h).take i++[dA a b h p.1 p.2 1]:=by rw [OS,S];rfl
  have ar:((da (d % 8) a b h).take i).length<=6:=by rw [OG];have:=kL (d % 8) a b h;omega
  refine Ss [0,1,2,3,4,5,6,7,8,9,10,11,12,13,14,15,16,17,18,19,20] [(16,1),(8,0),(14,0)] Z kr_ fun R hB e=>R7 U6<|Sd af U9<|R5 (bkT x 4) U8<|R9 2 Z<|Sm g.m_ U10 om_ (bO o) fl_ fun au U=>TC U9 (fun _=>U) (fun _=>⟨by omega,om_⟩) fl_ Z (fun av V=>?_);have W:=V trivial;refine R5 W U8<|S8 (c:=p.1) U8 (Dj om_ om_) U2<|R9 2 Z<|Sm g.m_ U10 om_ (bO o) fl_ fun ax X=>TC U9 (fun _=>X) (fun _=>⟨by omega,om_⟩) fl_ Z (fun ay Y=>?_);have aa:=Y trivial;refine R5 aa U8<|S8 (c:=p.2) U8 (Dj om_ om_) U2<|Sn [.int .i8 p.1,.int .i8 p.2] U8<|Su (fun _=>(zB _ F.m_ d a b h p.1 p.2 1 dc_ dc_ ⟨by omega,by omega⟩ ⟨by omega,by omega⟩)) U9<|Sr [fR (dA a b h p.1 p.2 1)] U12 fun az _ _ ab=>SB (j:=1) U11 ab.m_ Z aw (by simp only [aV];omega) fl_ fun z A B=>R7 U6<|Sf (j:=1) U12<|Sa [1,2,3,5,6] e Z<|R4 1 Z fun R e=>Se _ U7<|C4 1 [1,2,3,5,6] e Z<|Sp (L':=[.obj n (.cells ⟨[.slice z A B,.slice k (shT (d % 8)).length l]⟩ 36 (0,0)),.arr (.slice z A B) 58 2 ((da (d % 8) a b h).take (i+1)).length (((da (d % 8) a b h).take (i+1)).map fR).flatten,.obj f (.cells ⟨[.slice none 0 0,.slice none 0 0]⟩ 36 (0,0))]) (by rw [T,O7,Pg,Oy];rfl)<|Sj (m':=(shP (d % 8)).length-(i+1)) om_ mup (hn_ [1,2,3,5,6] Z) ⟨i+1,_,om_,Z,Z,Z⟩
 have v:i=(shP (d % 8)).length:=by
  have:=Ox t;omega
 have ac:(da (d % 8) a b h).take i=da (d % 8) a b h:=Pa (by rw [v,da,al];exact Oo _);rw [ac];refine G.freezeArr 1 ((da (d % 8) a b h).map fR) rfl rfl (by intro r hr;obtain ⟨y,_,rfl⟩:=OB.1 hr;rfl) (by rw [al]) (fun Cg hg E=>?_);obtain ⟨Aw,cw,rfl,_⟩:=id E;refine R8 fun R e=>Sd af U9<|Sf (j:=1) U12<|Sa [2] e Z<|Sh (SV af U4 ?_);exact ⟨Z,_,_,Z,E,q.mono mup⟩
structure Hts where
 h0:Int
 h1:Int
 h2:Int
 h3:Int
 h4:Int
 h5:Int
 half:Bool
def JQ (H:Hts):List Int:=[H.h0,H.h1,H.h2,H.h3,H.h4,H.h5]
def Na (H:Hts):List Value:=[.int .i8 H.h0,.int .i8 H.h1,.int .i8 H.h2,.int .i8 H.h3,.int .i8 H.h4,.int .i8 H.h5,.bool H.half]
def NL (H:Hts):Prop:=∀ z∈JQ H, -128<=z/\z<=127
def fsK (n:Nat)(H:Hts):List Rat:=(List.range n).map fun i=>mS (((JQ H).getD (i % 6) 0).tmod 20) (eA H.half)
theorem Jo (a:Int):-20<a.tmod 20/\a.tmod 20<20:=by
 have h:(a.tmod 20).natAbs=a.natAbs % 20:=Q0 a 20;omega
theorem Ab (h:Bool):eA h=1∨eA h=2:=by cases h <;> simp [eA]
theorem Fy (n:Nat)(H:Hts):(fsK n H).length=n:=by simp [fsK]
theorem Nd (n:Nat)(H:Hts):∀ q∈fsK n H,QB 1 q:=by
 intro q a;unfold fsK at a;obtain ⟨i,_,rfl⟩:=OB.1 a;have h1:=Jo ((JQ H).getD (i % 6) 0);have h2:=Ab H.half;exact pj om_ om_ om_
theorem Lj (H:Hts)(j:Nat)(a:j<6):((Na H).drop j).take 1=[.int .i8 ((JQ H).getD j 0)]:=by
 rcases (by omega:j=0∨j=1∨j=2∨j=3∨j=4∨j=5) with rfl | rfl | rfl | rfl | rfl | rfl <;> rfl
theorem iM (C:Mem)(B:Tabs C)(o E:Value)(n:Nat)(F:Option Addr)(I:Nat)(H:Hts)(J:o=.slice F n I)(S:n<=400)(K:NL H):Pur cx.P 62 [.agg ⟨[o,E]⟩,.agg ⟨Na H⟩] C fun u D=>Sl D 1 u ((fsK n H).map eR):=by
 subst J;obtain ⟨h0,h1,h2,h3,h4,h5,a⟩:=H;have T:maxLen<=9223372036854775807:=by simp [maxLen]
 refine Sc func62 31 U3 fun w0=>R8 fun R b=>So U6 fun p=>So U6 fun q=>C4 1 [2,3] b Z<|G.freeze 1 Z fun _ _ L=>G.freeze 0 Z fun _ _ s=>R8 fun R b=>Te [] U12 fl_ fun t=>C4 1 [2,3,5] b Z<|C6 1 [2,3,5,6] Z<|R4 1 Z fun R b=>R5 (bkT s 1) U8<|Sa [2,3,5,6,10] b Z<|G.cut (fun fr C' d e=>(True)/\fr=[(2,[],.pointer (some ⟨p,0,none⟩)),(3,[],.pointer (some ⟨q,0,none⟩)),(5,[],.slice (some ⟨t,0,none⟩) 0 0),(6,[],.int .i64 (eA a))]/\d=[.arr (.slice (some ⟨t,0,none⟩) 0 0) 56 1 0 []]) ?_ (fun fr _ U e _ f=>?_)
 ·refine R6 (fun g=>?_) fun g=>?_
  ·have h1:a=true:=g;subst h1;refine C6 1 [2,3,5,6] Z<|Si 0 (Mem.le.refl _) (hn_ [2,3,5,6] Z) ⟨trivial,Z,Z⟩
  have h1:a=false:=g;subst h1;refine Si 0 (Mem.le.refl _) (hn_ [2,3,5,6] Z) ⟨trivial,Z,Z⟩
 obtain ⟨_,rfl,rfl⟩:=f;refine C6 1 [2,3,5,6,7] Z<|G.loop (fun fr C' d e=>∃ (i:Nat)(w:Value),(i<=n)/\fr=[(2,[],.pointer (some ⟨p,0,none⟩)),(3,[],.pointer (some ⟨q,0,none⟩)),(5,[],w),(6,[],.int .i64 (eA a)),(7,[],.int .i64 i)]/\d=[.arr w 56 1 ((fsK n ⟨h0,h1,h2,h3,h4,h5,a⟩).take i).length (((fsK n ⟨h0,h1,h2,h3,h4,h5,a⟩).take i).map eR).flatten]/\e=n-i) (hn_ [2,3,5,6,7] Z) ⟨0,_,Ow _,Z,Z,Z⟩ (fun fr V W m _ f=>?_);obtain ⟨i,w,X,rfl,rfl,rfl⟩:=f;refine R4 2 Z fun R b=>R5 (bkT L 1) U8<|C4 2 [2,3,5,6,7,15] b Z<|R6 (fun h=>?_) fun h=>?_
 ·have k:i<n:=by
   have:=NM h;omega
  have v:i % 6<6:=Pd _ dc_;obtain ⟨z,l⟩:∃ z,(JQ ⟨h0,h1,h2,h3,h4,h5,a⟩).getD (i % 6) 0=z:=⟨_,rfl⟩;have x:=Lj ⟨h0,h1,h2,h3,h4,h5,a⟩ (i % 6) v;rw [l] at x;have M:z∈JQ ⟨h0,h1,h2,h3,h4,h5,a⟩:=by
   rw [<- l,ax,ak (show i % 6<(JQ ⟨h0,h1,h2,h3,h4,h5,a⟩).length from v),Pu];exact Pn _
  have Y:=K z M;have aa:=Jo z;have ab:=Ab a;have N:(fsK n ⟨h0,h1,h2,h3,h4,h5,a⟩).take (i+1)=(fsK n ⟨h0,h1,h2,h3,h4,h5,a⟩).take i++[mS (z.tmod 20) (eA a)]:=by
   rw [OS,show (fsK n ⟨h0,h1,h2,h3,h4,h5,a⟩)[i]?=some (mS (z.tmod 20) (eA a)) by unfold fsK;rw [Ou,O5 k,<- l];rfl];rfl
  have ac:((fsK n ⟨h0,h1,h2,h3,h4,h5,a⟩).take i).length<=400:=by rw [OG,Fy];omega
  refine R4 2 Z fun R b=>SZ (i) (6) U6 om_ U2<|R7 U6<|Sw ((i % 6)) U9 (fun _=>⟨by omega,by omega,(by show i % 6=0+(i % 6)*1;omega)⟩) U2<|Ti (PtrTo.blockT (Mem.get s mup) (i % 6) 1) U6 (show bV _ (((Na ⟨h0,h1,h2,h3,h4,h5,a⟩).drop (i % 6)).take 1)=some (.int .i8 z) from by rw [x];rfl) Z<|SL (c:=z) U8 (wrap_i64 om_ om_) fl_<|S7 (z.tmod 20) U6 dc_ U3<|R7 U6<|Sk (MZ _ B.m_ (z.tmod 20) (eA a) om_ om_ om_) U7 fl_<|Sr [eR (mS (z.tmod 20) (eA a))] U12 fun ad _ _ O=>D.append (j:=0) U11 O Z aw (by simp only [aV];omega) fl_ fun A=>C4 1 [2,3,5,6,7] b Z<|R4 1 Z fun R b=>Se _ U7<|C4 1 [2,3,5,6,7] b Z<|Sp (L':=[.arr A 56 1 ((fsK n ⟨h0,h1,h2,h3,h4,h5,a⟩).take (i+1)).length (((fsK n ⟨h0,h1,h2,h3,h4,h5,a⟩).take (i+1)).map eR).flatten]) (by rw [N,O7,Pg,Oy];rfl)<|Sj (m':=n-(i+1)) om_ mup (hn_ [2,3,5,6,7] Z) ⟨i+1,A,om_,Z,Z,Z⟩
 have k:i=n:=by
  have:=Ox h;omega
 rw [show (fsK n ⟨h0,h1,h2,h3,h4,h5,a⟩).take i=fsK n ⟨h0,h1,h2,h3,h4,h5,a⟩ from Pa (by rw [k,Fy];exact Oo _)];exact C6 2 [4] Z<|G.freezeArr 0 ((fsK n ⟨h0,h1,h2,h3,h4,h5,a⟩).map eR) rfl rfl (by intro r hr;obtain ⟨y,_,rfl⟩:=OB.1 hr;rfl) (by rw [al]) fun Cg hg Q=>Sb U2<|⟨Z,Q⟩
end Go.Proofs.YthnpijdjlddpmaaGreatDoor
