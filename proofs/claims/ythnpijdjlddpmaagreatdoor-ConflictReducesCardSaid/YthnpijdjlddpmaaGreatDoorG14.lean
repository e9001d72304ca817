/- Laws that the proofs of this seat share, part 14. -/
import Derived.Test.YthnpijdjlddpmaaGreatDoorG13
import Derived.Test.YthnpijdjlddpmaaGreatDoorShelf
set_option maxHeartbeats 4000000
namespace Go.Proofs.YthnpijdjlddpmaaGreatDoor
open Go.Proofs.Tryz
open Go Go.Jog
set_option maxRecDepth 100000
variable {B:Bk}{C:Mem}{RO:Nat->List RowQ}{k:Nat}{l:List Nat}{n:Nat}{outs:List (List Nat)}{p:Nat->Bool}{q:Rat}{u v:Value}{vs:List Value}{x y:Nat}{α:Type}
def OutL (C:Mem)(vs:List Value)(outs:List (List Nat)):Prop:=vs.length=outs.length/\∀ (j:Nat)(v:Value)(o:List Nat),vs[j]?=some v->outs[j]?=some o->Sl C 1 v (o.map aM)
def OutsIn (C:Mem)(v:Value)(outs:List (List Nat)):Prop:=∃ vs,OutL C vs outs/\Sl C 1 v (vs.map fun x=>[x])
theorem OutL.mono {C D:Mem}{a:List Value}{b:List (List Nat)}(h:OutL C a b)(c:C.le D):OutL D a b:=⟨h.1,fun j v o h1 h2=>(h.2 j v o h1 h2).mono c⟩
theorem OutL.m_ {D:Mem}(h:OutL C vs outs)(a:C.le D:=by exact mup):OutL D vs outs:=OutL.mono h a
theorem OutsIn.mono {C D:Mem}{v:Value}{a:List (List Nat)}(h:OutsIn C v a)(b:C.le D):OutsIn D v a:=by
 obtain ⟨vs,h1,h2⟩:=h;exact ⟨vs,h1.mono b,h2.mono b⟩
theorem OutsIn.m_ {D:Mem}(h:OutsIn C v outs)(a:C.le D:=by exact mup):OutsIn D v outs:=OutsIn.mono h a
theorem OutL.nil (C:Mem):OutL C [] []:=⟨rfl,fun j v o h _=>by simp at h⟩
theorem OutL.snoc {o:List Nat}(h:OutL C vs outs)(b:Sl C 1 v (o.map aM)):OutL C (vs++[v]) (outs++[o]):=by
 refine ⟨by simp [h.1],fun j w q h1 h2=>?_⟩;rcases Nat.lt_trichotomy j vs.length with a | a | a
 ·rw [RI a] at h1;rw [RI (by rw [<- h.1];exact a)] at h2;exact h.2 j w q h1 h2
 ·subst a;rw [Ro (QO _),SZ] at h1;rw [h.1,Ro (QO _),SZ] at h2;cases h1
  cases h2
  exact b
 rw [QY ap] at h1;cases h1
theorem oF (a:List Value):a=(a.map fun x=>[x]).flatten:=by
 induction a with
 | nil=>rfl
 | cons v a b=>rw [Rs,So,<- b];rfl
theorem oE (a:List Value):∀ r∈a.map (fun x=>[x]),r.length=1:=fun r hr=>by
 obtain ⟨x,_,rfl⟩:=QX.1 hr;rfl
theorem qt (l:List Nat):∀ r∈l.map cm,r.length=1:=fun r hr=>by
 obtain ⟨x,_,rfl⟩:=QX.1 hr;rfl
theorem KP:∀ n<6,∀ s<2 ^ n,Lc (2 ^ n-1) s<2 ^ n:=by decide +kernel
noncomputable def hC (B:Bk)(RO:Nat->List RowQ)(s:Nat):Bool:=hS B RO (Lc (2 ^ B.obs.length-1) s)
theorem AM (C:Mem)(d:Tabs C)(B:Bk)(a f:Nat)(g:SrchIn C B a f)(h:B.obs.length<6) :
  Jog.Fn cx.P 38 [.pointer (some ⟨a,0,none⟩)] C [] fun u _ i=>∃ A n2 c,u=.slice A n2 c/\i=[.arr u 99 1 (2 ^ B.obs.length) (((bQ B.obs.length).map cm).flatten)]:=by
 obtain ⟨j,k,l,m,o,b,n⟩:=g.ex;obtain ⟨_,_,_,_,_,e,_,_,_,_,h5⟩:=n.ex;cases e
 obtain ⟨A,c,rfl,_⟩:=id h5;rw [al] at b;rw [<- My];exact MN C d a B.obs.length j k l m _ A c b h
theorem En (C:Mem)(w:Tabs C)(T:Value)(B:Bk)(J:List Rat)(b:Nat->List RowQ)(U:BookIn C T B)(h:Calm B J b)(f:B.obs.length<6) :
  Pur cx.P 13 [T] C fun u D=>∃ v,u=.tuple #[v,.int .i64 0]/\OutsIn D v ((yr (hC B b) (bQ B.obs.length)).map aV):=by
 have V:=U;obtain ⟨v1,v2,tv,cv,ov,rfl,_,_,_,_,h5⟩:=id U.ex;obtain ⟨A5,c5,rfl,ao,aC,_⟩:=id h5;obtain ⟨n,k⟩:∃ n,B.obs.length=n:=⟨_,rfl⟩;have aD:maxLen<=9223372036854775807:=by simp [maxLen]
 have ap:=fun (D:Mem)(hD:C.le D)(g c s:Nat)(km:List (Nat × Value))(y:SrchIn D B g c)(hs:s<2 ^ n)=>vZ D (w.mono hD) B J b g c s km y h f (k ▸ hs);have W:∀ s,hC B b s=hS B b (Lc (2 ^ n-1) s):=fun s=>by unfold hC;rw [k]
 rw [k] at f;have aE:=yv f;simp only [al,k] at h5 ao V ⊢;have K:=oY n;obtain ⟨F,d⟩:∃ F:Nat->List Nat,∀ i,F i=((bQ n).take i).foldl (pk (hC B b)) []:=⟨_,fun _=>rfl⟩;have X:F 0=[]:=by rw [d,List.take_zero];rfl
 have A:∀ {i s},(bQ n)[i]?=some s->F (i+1)=pk (hC B b) (F i) s:=fun {i s} hs=>by rw [d,d,qm hs]
 have aq:∀ i,i<=2 ^ n->(F i).length<=32:=fun i hi=>by
  rw [d];have h1:=AX (h:=hC B b) ((bQ n).take i) [];rw [Q5] at h1;simp only [Q7] at h1;omega
 refine UD func13 69 U3 fun w0=>Uz fun R a=>UQ U6 fun b1=>C4 2 [1] a Z<|G.freeze 0 Z fun _ _ Y=>UW [(1,3)] Z fun R a=>Uw (bkT Y 5) U8<|D.call (AI _ w.m_ _ B J b V.m_ h om_) Z (.inr dc_) U6 (QW _) fl_ (fun aF _ aG _ ar=>?_);obtain ⟨g,c,rfl,y,rfl⟩:=ar;refine C4 5 [1,4,5] a Z<|Uu 2 [1,4,5,19] Z<|Ux (fun aa=>?_) fun aa=>?_
 ·exact absurd aa dc_
 refine Uv 1 Z fun R a=>Uw (bkT Y 1) U8<|Uy U6<|V4 (n) Z Z Z Z Z Z (by first | exact .inl Z | exact .inr Z) Z om_ Z Z<|D.int (((2 ^ n-1:Nat):Int)) U4 (by rw [show (((2 ^ n:Nat):Int)-1)=((2 ^ n-1:Nat):Int) by have:=Nat.one_le_two_pow (n:=n);omega];exact tE om_) U2<|C4 1 [4,6] a Z<|Uu 1 [4,6,7] Z<|Uu 1 [4,6,7,8] Z<|UW [(1,3)] Z fun R a=>Uy U6<|D.call (AM _ w.m_ B g c y.m_ om_) Z (.inr dc_) U6 (QW _) fl_ (fun aH _ aI _ au=>?_);obtain ⟨As,ns,cs,rfl,rfl⟩:=au;rw [k];refine C4 2 [4,6,7,8,27,28,29] a Z<|G.freezeArr 0 ((bQ n).map cm) Z Z (qt _) (by rw [al,K]) (fun _ _ ab=>?_);obtain ⟨_,_,ac,_⟩:=id ab;rw [al,K] at ac;cases ac
 refine G.nilArr 50 1<|G.loop (fun fr C' L μ=>∃ (i:Nat)(z:Int)(km:List (Nat × Value))(vs:List Value)(l:Option Addr)(n1 o:Nat),(i<=2 ^ n/\xO (hS B b) km/\OutL C' vs ((F i).map aV)/\xM (F i) z)/\fr=[(4,[],.pointer (some ⟨g,0,none⟩)),(6,[],.int .u64 ((2 ^ n-1:Nat):Int)),(7,[],.slice l n1 o),(8,[],.int .i64 z),(27,[],.slice As (2 ^ n) cs),(28,[],.int .i64 ((2 ^ n:Nat):Int)),(29,[],.int .i64 i)]/\L=[.arr (.slice l n1 o) 50 1 vs.length vs,.obj c (aR keyU.enc km)]/\μ=2 ^ n-i) (hn_ [4,6,7,8,27,28,29] Z) ⟨0, -1,[],[],none,0,0,⟨QT _,wU _,by rw [X];exact OutL.nil _,.inl ⟨X,Z⟩⟩,Z,Z,Z⟩ (fun fr aL aN m _ hI=>?_);obtain ⟨i,z,km,vs,l,n1,o,⟨hi,av,p,q⟩,rfl,rfl,rfl⟩:=hI;refine Uu 1 [4,6,7,8,27,28,29,30] Z<|Ux (fun M=>?_) fun M=>?_
 ·have ad:i<2 ^ n:=by
   have:=aJ M;omega
  obtain ⟨s,hs⟩:∃ s,(bQ n)[i]?=some s:=⟨(bQ n)[i]'om_,aj om_⟩;have aw:s<2 ^ n:=eS (QQ hs);have N:s<32:=by omega
  have aO:vs.length=(F i).length:=by rw [p.1,al]
  have aP:=aq i om_;refine Uz fun R a=>UK ab.m_ U10 om_ (gj hs) fl_ fun aQ ay=>Uw ay U8<|C4 1 [4,6,7,8,10,27,28,29] a Z<|Uv 4 Z fun R a=>Vb (fun _=>(uj _ s N)) U9<|UB 2 Z<|UU U8<|UA [4,6,7,8,10,27,28,29,40] a Z<|Ux (fun O=>?_) fun O=>?_
  ·have r:0<=z/\z<(iH s:Int):=by
    simp only [Q1,QZ] at O;omega
   refine Uu 3 [2,3] Z<|G.freezeArr 0 (vs.map fun x=>[x]) Z (oF vs) (oE vs) (al _) fun C8 _ Q=>UJ (G.dropAll (UX U3 ?_));refine ⟨Z,_,Z,vs, ?_,Q⟩;rw [FF f hs (by rw [<- d];exact q) r,<- d];exact p.mono mup
  have r:¬ (0<=z/\z<(iH s:Int)):=by
   simp only [S7,Ri] at O;omega
  refine UW [(4,3)] Z fun R a=>UB 3 Z<|WE (2 ^ n-1) (s) Z Z Z Z Z Z Z Z om_ om_ Z Z<|D.call (ap _ mup g c (Lc (2 ^ n-1) s) km y.m_ (KP n f s aw) av) Z (.inr dc_) U6 (List.Perm.swap _ _ _) fl_ (fun aS _ aT _ az=>?_);obtain ⟨rfl,E,af,rfl⟩:=az;refine C4 5 [4,6,7,8,10,11,12,27,28,29] a Z<|Uu 3 [4,6,7,8,10,11,12,27,28,29,49] Z<|Ux (fun ag=>?_) fun ag=>?_
  ·exact absurd ag dc_
  refine Uu 3 [4,6,7,8,10,27,28,29,53] Z<|Ux (fun S=>?_) fun S=>?_
  ·have t:hC B b s=false:=by rw [W];simpa using S
   refine Uz fun R a=>UF _ U7<|C4 1 [4,6,7,8,27,28,29] a Z<|G.perm (L':=[.arr (.slice l n1 o) 50 1 vs.length vs,.obj c (aR keyU.enc E)]) (List.Perm.swap _ _ _)<|UH (m':=2 ^ n-(i+1)) om_ mup (hn_ [4,6,7,8,27,28,29] Z) ⟨i+1,z,E,vs,l,n1,o,⟨by omega,af,by rw [A hs,wo t];exact p.mono mup,by rw [A hs,wo t];exact q⟩,Z,Z,Z⟩
  have t:hC B b s=true:=by rw [W];simpa using S
  refine Wf ae (fun _ _ aA _=>?_);cases aA
  refine Uu 4 [4,6,7,10,27,28,29,56] Z<|Ux (fun ah=>?_) fun ah=>?_
  ·exact absurd (by simpa using ah) (show ¬ ((vs.length:Int)=200) by omega)
  refine Uv 1 Z fun R a=>UI (uj _ s N) U7<|C4 1 [4,6,7,8,10,27,28,29] a Z<|Uv 2 Z fun R a=>Ve (nY _ w.m_ s N) U7 (fun aU _ _ ai=>?_);obtain ⟨H,I,rfl,_⟩:=id ai;refine UR [[.slice H ((aV s).map aM).length I]] U12 fun aW _ _ aB=>UZ (j:=1) U11 aB Z ax (by show (vs.length+1)*24<=_;omega) fl_ fun ak am an=>C4 1 [4,6,7,8,27,28,29] a Z<|Uz fun R a=>UF _ U7<|C4 1 [4,6,7,8,27,28,29] a Z<|UN (L':=[.arr (.slice ak am an) 50 1 (vs++[Value.slice H ((aV s).map aM).length I]).length (vs++[Value.slice H ((aV s).map aM).length I]),.obj c (aR keyU.enc E)]) (by rw [QV];rfl)<|UH (m':=2 ^ n-(i+1)) om_ mup (hn_ [4,6,7,8,27,28,29] Z) ⟨i+1,iH s,E,vs++[Value.slice H ((aV s).map aM).length I],ak,am,an,⟨by omega,af,by rw [A hs,AY q r t,Ru];exact p.m_.snoc ai.m_,by rw [A hs,AY q r t];exact Da q (by rw [d];exact Pe f hs) r⟩,Z,Z,Z⟩
 have ad:i=2 ^ n:=by
  have:=QS M;omega
 refine Uu 3 [2,3] Z<|G.freezeArr 0 (vs.map fun x=>[x]) Z (oF vs) (oE vs) (al _) fun C8 _ Q=>UJ (G.dropAll (UX U3 ?_));refine ⟨Z,_,Z,vs, ?_,Q⟩;have e:yr (hC B b) (bQ n)=F i:=by rw [d,ad,<- K,Q2];rfl
 rw [e];exact p.mono mup
theorem EX (C:Mem)(v:Value)(l:List Nat)(g:Nat)(d:List Value)(a:Nat->Bool)(e:Sl C 1 v (l.map cm))(_A:Jog.Enters cx.P g=true)
  (n:∀ x∈l,∀ D:Mem,C.le D->Gives cx.P g (.int .u64 (x:Nat)::d) D (.bool (a x))) :
  Gives cx.P 124 [v,.func (.func g) #[] ⟨d⟩] C (.int .i64 (Iv a l 0)):=by
 obtain ⟨o,c0,rfl,p,B,_⟩:=id e;have E:maxLen<=9223372036854775807:=by simp [maxLen]
 simp only [al] at e p ⊢;refine UD func124 19 U3 fun w0=>Uu 1 [0,1] Z<|Uu 3 [0,1,7,8] Z<|G.loop (fun fr C' q r=>∃ (i:Nat),(i<=l.length/\∀ y∈l.take i,a y=false)/\fr=[(0,[],.slice o l.length c0),(1,[],.func (.func g) #[] ⟨d⟩),(7,[],.int .i64 l.length),(8,[],.int .i64 i)]/\q=[]/\r=l.length-i) (hn_ [0,1,7,8] Z) ⟨0,⟨QT _,by simp⟩,Z,Z,Z⟩ (fun fr F H m s t=>?_);obtain ⟨i,⟨I,b⟩,rfl,rfl,rfl⟩:=t;refine Uu 1 [0,1,7,8,9] Z<|Ux (fun f=>?_) fun f=>?_
 ·have h:i<l.length:=by simpa using f
  obtain ⟨x,c⟩:∃ x,l[i]?=some x:=⟨l[i],aj h⟩;refine Uu 2 [0,1,5,7,8] Z<|Uv 3 Z fun R j=>UK e.m_ U10 om_ (gj c) fl_ fun J u=>Uw u U8<|UI (n x (QQ c) _ mup) U7<|UA [0,1,5,7,8,16] j Z<|Ux (fun k=>?_) fun k=>?_
  ·have w:a x=true:=k;exact Uu 2 [4] Z<|UC U2<|⟨by rw [nV c w b,Sd],Z⟩
  have z:a x=false:=k;refine Uz fun R j=>UF _ U7<|C4 1 [0,1,7,8] j Z<|UH (m':=l.length-(i+1)) om_ s (hn_ [0,1,7,8] Z) ⟨i+1,⟨by omega,fun y hy=>by
   rw [Rm,c] at hy;rcases Q6.1 hy with hy | hy
   ·exact b y hy
   simp only [R6,Rc] at hy;subst hy;exact z⟩,Z,Z,Z⟩
 have h:i=l.length:=by
  have:¬ i<l.length:=by simpa using f
  omega
 exact Uu 1 [4] Z<|UC U2<|⟨by rw [h,Q2] at b;rw [lG b],Z⟩
theorem Mx (C:Mem)(v:Value)(l:List Nat)(g:Nat)(b:List Value)(a:Nat->Bool)(c:Sl C 1 v (l.map cm))(d:Jog.Enters cx.P g=true)
  (e:∀ x∈l,∀ D:Mem,C.le D->Gives cx.P g (.int .u64 (x:Nat)::b) D (.bool (a x))) :
  Gives cx.P 80 [v,.func (.func g) #[] ⟨b⟩] C (.bool (l.any a)):=by
 refine UD func80 9 U3 fun w0=>Uu 1 [0,1] Z<|Uv 2 Z fun R f=>UI (EX _ v l g b a c.m_ d (fun x h D j=>e x h D (Mem.le.trans mup j))) U7<|C4 2 [4] f Z<|UC U2<|⟨?_,Z⟩;congr 1;rcases rX a l with ⟨h1,h2⟩ | ⟨i,x,h1,h2,h3,_⟩
 ·rw [h1,List.any_eq_false.2 (fun y hy=>by rw [h2 y hy];decide)];rfl
 rw [h1,Tg.2 ⟨x,QQ h2,h3⟩];exact Ra om_
theorem IP (C:Mem)(v:Value)(l:List Nat)(g:Nat)(c:List Value)(b:Nat->Bool)(d:Jog.Enters cx.P g=true)(e:∀ x∈l,∀ D:Mem,C.le D->Gives cx.P g (.int .u64 (x:Nat)::c) D (.bool (b x))) :
  Jog.Fn cx.P 80 [v,.func (.func g) #[] ⟨c⟩] C [.arr v 99 1 l.length (l.map cm).flatten] fun u _ a=>u=.bool (l.any b)/\a=[.arr v 99 1 l.length (l.map cm).flatten] :=
 Fn.mono (V0 (L:=[]) (post:=fun u a=>u=.bool (l.any b)/\a=[]) kr_ (qt l) (al _) fun C' hC hs=>Fn.mono (Mx C' v l g c b hs d fun x f D i=>e x f D (hC.trans i)) fun u _ a _ h=>⟨h.1,h.2⟩) fun u _ j _ ⟨a,h1,h2,h3⟩=>⟨h2,by rw [h1,h3]⟩
theorem Nf (C:Mem)(a s x:Nat)(f:s<18446744073709551616)(g:x<18446744073709551616)(b:C a=some (.cells ⟨[.int .u64 (s:Nat)]⟩ 99 (0,0))) :
  Gives cx.P 81 [.int .u64 (x:Nat),.pointer (some ⟨a,0,none⟩)] C (.bool (x &&& s == x)):=by
 refine UD func81 9 U3 fun w0=>Uu 1 [0,1] Z<|Uv 1 Z fun R c=>Uw (bkT b 1) U8<|VJ (x) (s) U8 om_ om_ U2<|C4 3 [3] c Z<|UC U2<|⟨?_,Z⟩;congr 1;by_cases e:x &&& s=x
 ·rw [e];simp
 have d:¬ (((x &&& s:Nat):Int)=x):=fun h=>e (Int.ofNat_inj.1 h);rw [RT.2 d,RT.2 e]
def II (l:List Nat):List (List Value):=l.map fun s=>[.int .u64 (s:Nat),.int .i64 0]
theorem DK (C:Mem)(V:Tabs C)(B:Bk)(W:List Rat)(c:Nat->List RowQ)(o d:Nat)(Y:SrchIn C B o d)(h:Calm B W c)(u:B.obs.length<6) :
  IterM cx.P 46 #[.pointer (some ⟨o,0,none⟩)] #[] C [.obj d (aR keyU.enc [])] (II (eB (hS B c) (bQ B.obs.length))):=by
 have aE:maxLen<=9223372036854775807:=by simp [maxLen]
 obtain ⟨n,hn⟩:∃ n,B.obs.length=n:=⟨_,rfl⟩;have ak:=fun (D:Mem)(f:C.le D)(s:Nat)(km:List (Nat × Value))(hs:s<2 ^ n)=>vZ D (V.mono f) B W c o d s km (Y.mono f) h u (hn ▸ hs);have aa:=fun (D:Mem)(f:C.le D)=>AM D (V.mono f) B o d (Y.mono f) u;rw [hn] at u aa ⊢;have aF:=yv u;have A:=oY n;obtain ⟨F,g⟩:∃ F:Nat->List Nat,∀ i,F i=((bQ n).take i).foldl (eI (hS B c)) []:=⟨_,fun _=>rfl⟩;have ab:F 0=[]:=by rw [g,List.take_zero];rfl
 have am:∀ {i s},(bQ n)[i]?=some s->F (i+1)=eI (hS B c) (F i) s:=fun {i s} hs=>by rw [g,g,qm hs]
 have an:F (2 ^ n)=eB (hS B c) (bQ n):=by rw [g,<- A,Q2];rfl
 have ao:∀ i,∃ t,eB (hS B c) (bQ n)=F i++t:=fun i=>by
  unfold eB;rw [g]
  conv=>enter [1,t,1];rw [<- RW i (bQ n),List.foldl_append]
  exact xr _ _ _
 have ap:∀ i,∀ x∈F i,x<2 ^ n:=fun i x v=>by
  rw [g] at v;rcases ml _ _ v with h | h
  ·cases h
  exact eS (RZ h)
 have aq:∀ i,i<=2 ^ n->(F i).length<=32:=fun i hi=>by
  rw [g];have h1:=qF (h:=hS B c) ((bQ n).take i) [];rw [Q5] at h1;simp only [Q7] at h1;omega
 refine IterM.intro (fb:=[.pointer (some ⟨o,0,none⟩)]) (lb:=[]) kr_ func46 Z 44 Z Z fun l I X L hY h0 w0=>?_;refine Uu 1 [0,1,4] Z ?_;refine UW [(1,3)] Z (fun R a=>?_);refine Uy U6 ?_;refine D.call (aa _ mup) Z (.inr dc_) U6 (QW _) fl_ (fun aG _ aH _ ar=>?_);obtain ⟨As,ns,cs,rfl,rfl⟩:=ar;refine C4 2 [0,1,4,10,11,12] a Z ?_;clear a R;refine G.freezeArr 0 ((bQ n).map cm) Z Z (qt _) (by rw [al,A]) (fun _ _ ac=>?_);obtain ⟨_,_,ad,_⟩:=id ac;rw [al,A] at ad;cases ad
 refine G.nilArr 99 1 ?_;refine G.loop (fun fr C' L' μ=>∃ (i:Nat)(km:List (Nat × Value))(k:List Ent)(p:Option Addr)(n1 q:Nat),(i<=2 ^ n/\xO (hS B c) km/\I (F i).length k)/\fr=[(0,[],.pointer (some ⟨o,0,none⟩)),(1,[],.func (.yield l) #[] #[]),(4,[],.slice p n1 q),(10,[],.slice As (2 ^ n) cs),(11,[],.int .i64 ((2 ^ n:Nat):Int)),(12,[],.int .i64 i)]/\L'=.arr (.slice p n1 q) 99 1 (F i).length ((F i).map cm).flatten::.obj d (aR keyU.enc km)::k/\μ=2 ^ n-i) (hn_ [0,1,4,10,11,12] Z) ⟨0,[],L,none,0,0,⟨QT _,wU _,by rw [ab];exact h0⟩,Z,by rw [ab];rfl,Z⟩ (fun fr aI aL m _ hI=>?_);obtain ⟨i,km,k,p,n1,q,⟨hi,ae,w⟩,rfl,rfl,rfl⟩:=hI;refine Uu 1 [0,1,4,10,11,12,13] Z ?_;refine Ux (fun E=>?_) fun E=>?_
 ·have ag:i<2 ^ n:=by
   have:=aJ E;omega
  obtain ⟨s,hs⟩:∃ s,(bQ n)[i]?=some s:=⟨(bQ n)[i]'om_,aj om_⟩;have au:s<2 ^ n:=eS (QQ hs);have aM:=aq i hi;have H:=am hs;refine Wf af (fun _ _ av _=>?_);cases av
  refine Uz fun R a=>?_;refine UK ac.m_ U10 om_ (gj hs) fl_ (fun aN aw=>?_);refine Uw aw U8 ?_;refine UP U5 (fun b6=>?_);refine UG (j:=0) U12 ?_;refine UA [0,1,4,6,10,11,12] a Z ?_;clear a R;refine G.freeze 0 Z (fun _ _ y=>?_);refine UW [(2,3)] Z (fun R a=>?_);refine UB 2 Z ?_;refine D.call (IP _ _ (F i) 81 [.pointer (some ⟨b6,0,none⟩)] (fun x=>x &&& s == x) kr_ (fun x v D f=>Nf D b6 s x om_ (by have:=ap i x v;omega) (f _ _ (Mem.get y mup)))) Z (.inr dc_) U6 (QW (_::_)) fl_ (fun aO _ aP _ ay=>?_);obtain ⟨rfl,rfl⟩:=ay;refine UA [0,1,4,6,10,11,12,18] a Z ?_;clear a R;refine Ux (fun J=>?_) fun J=>?_
  ·have r:F (i+1)=F i:=by
    rw [H];unfold eI;rw [show ((F i).any fun x=>x &&& s == x)=true from J];rfl
   refine Uz fun R a=>?_;refine UF _ U7 ?_;refine C4 1 [0,1,4,10,11,12] a Z ?_;clear a R;refine UH (m':=2 ^ n-(i+1)) om_ mup (hn_ [0,1,4,10,11,12] Z) ⟨i+1,km,k,p,_,q,⟨by omega,ae,by rw [r];exact w⟩,Z,by rw [r];rfl,Z⟩
  refine UW [(2,3)] Z (fun R a=>?_);refine Uy U6 ?_;refine Uw (bkT y 1) U8 ?_;refine D.call (ak _ mup s km au ae) Z (.inr dc_) U6 (List.Perm.swap _ _ _) fl_ (fun aQ _ aS _ az=>?_);obtain ⟨rfl,z,ah,rfl⟩:=az;refine C4 5 [0,1,4,6,7,8,10,11,12] a Z ?_;clear a R;refine Uv 4 Z fun R a=>?_;refine UU U8 ?_;refine UA [0,1,4,6,8,10,11,12,29] a Z ?_;clear a R;refine Ux (fun K=>?_) fun K=>?_
  ·have M:hS B c s=true:=by simpa using K
   have r:F (i+1)=F i:=by
    rw [H];unfold eI;rw [M,Bool.or_true];rfl
   refine Uz fun R a=>?_;refine UF _ U7 ?_;refine C4 1 [0,1,4,10,11,12] a Z ?_;clear a R;refine G.perm _ (List.Perm.swap _ _ _) ?_;refine UH (m':=2 ^ n-(i+1)) om_ mup (hn_ [0,1,4,10,11,12] Z) ⟨i+1,z,k,p,_,q,⟨by omega,ah,by rw [r];exact w⟩,Z,by rw [r],Z⟩
  have M:hS B c s=false:=by simpa using K
  have N:F (i+1)=F i++[s]:=by
   rw [H];unfold eI;rw [M,Bool.or_false,show ((F i).any fun x=>x &&& s == x)=false from J];rfl
  obtain ⟨tl,ai⟩:=ao (i+1);rw [N] at ai;have hv:(II (eB (hS B c) (bQ n)))[(F i).length]?=some [.int .u64 (s:Nat),.int .i64 0]:=by
   rw [ai];unfold II;rw [QU,Rk,Ro (QO _),SZ];rfl
  refine Uv 1 Z fun R a=>?_;refine Uw (bkT y 1) U8 ?_;refine UR [cm s] U12 (fun aT _ _ aA=>?_);refine UZ (j:=1) U11 aA Z ax (by show ((F i).length+1)*8<=_;omega) fl_ (fun O Q S=>?_);refine C4 1 [0,1,4,6,8,10,11,12] a Z ?_;clear a R;refine UN (L':=.arr (.slice O Q S) 99 1 (F i++[s]).length ((F i++[s]).map cm).flatten::.obj d (aR keyU.enc z)::k) (by rw [Ru,Rz,QV];rfl) ?_;refine Xr 3 [0,1,2] [4,5,6,7,8] [] (YW.plain _) Z Z Z Z Z Z (fun R T hy=>?_);refine Uy U6 ?_;refine Uw (bkT y 1) U8 ?_;refine Uy U6 ?_;refine hy (hY _ _ _ hv w) mup Z Z Z Z (Lo:=[.arr (.slice O Q S) 99 1 (F i++[s]).length ((F i++[s]).map cm).flatten,.obj d (aR keyU.enc z)]) (Rv (l₁:=[_,_])) fl_ (fun b L2 hb R T a=>?_);rcases hb with ⟨rfl,aB⟩ | ⟨rfl,aC⟩
  ·refine UB 4 Z ?_;refine U1 U8 ?_;refine UA [0,1,4,10,11,12,42] a Z ?_;clear a T R;refine G.cond Z (fun U=>absurd U dc_) (fun _=>?_);refine Uz fun R a=>?_;refine UF _ U7 ?_;refine C4 1 [0,1,4,10,11,12] a Z ?_;clear a R;refine G.perm _ (Rv (l₂:=[_,_])) ?_;refine UH (m':=2 ^ n-(i+1)) om_ mup (hn_ [0,1,4,10,11,12] Z) ⟨i+1,z,L2,O,Q,S,⟨by omega,ah,by rw [N,QV];exact aB⟩,Z,by rw [N];rfl,Z⟩
  refine UB 4 Z ?_;refine U1 U8 ?_;refine UA [0,1,4,10,11,12,42] a Z ?_;clear a T R;refine G.cond Z (fun _=>?_) (fun U=>absurd U dc_);refine G.perm _ (Rv (l₂:=[_,_])) ?_;refine UJ (Wb Z ?_);exact ⟨[_,_],L2,Z,.inr ⟨_,(aD.1 hv).1,aC⟩⟩
 have ag:i=2 ^ n:=by
  have:=QS E;omega
 refine VI Z ?_;refine ⟨[_,_],k,Z,.inl ?_⟩;have e:(II (eB (hS B c) (bQ n))).length=(F i).length:=by rw [ag,an,II,al]
 rw [e];exact w
inductive SmallO (l:List Nat) (D:Mem):Value->Prop where
 | none:l=[]->SmallO l D (.tuple #[.slice none 0 0,.bool false,.int .i64 0])
 | some (x:Nat) (v:Value):l.head?=some x->Sl D 1 v ((aV x).map aM)->SmallO l D (.tuple #[v,.bool true,.int .i64 0])
theorem Ms {j:Nat}{v:List Value}(h:(II l)[j]?=some v):∃ x,l[j]?=some x/\v=[.int .u64 (x:Nat),.int .i64 0]:=by
 unfold II at h;rw [QU] at h;cases a:l[j]? with
 | none=>rw [a] at h;cases h
 | some x=>rw [a] at h;exact ⟨x,rfl,(Ss h).symm⟩
theorem zX {v:List Value}(h:v∈II l):∃ x,x∈l/\v=[.int .u64 (x:Nat),.int .i64 0]:=by
 obtain ⟨x,a,rfl⟩:=QX.1 h;exact ⟨x,a,Z⟩
theorem Cd {h:Nat->Bool}(a:x∈eB h (bQ n)):x<2 ^ n:=by
 rcases ml _ _ a with h | h
 ·cases h
 exact eS h
theorem zx (C:Mem)(t:Tabs C)(w:Value)(B:Bk)(y:List Rat)(l:Nat->List RowQ)(E:BookIn C w B)(h:Calm B y l)(F:B.obs.length<6) :
  Pur cx.P 21 [w] C fun u D=>SmallO (eB (hS B l) (bQ B.obs.length)) D u:=by
 have ad:maxLen<=9223372036854775807:=by simp [maxLen]
 have ag:=yv F;have K:=E;obtain ⟨cs,H⟩:∃ cs,eB (hS B l) (bQ B.obs.length)=cs:=⟨_,rfl⟩;have M:∀ x∈cs,x<32:=fun x d=>by have:=Cd (H ▸ d);omega
 have N:=fun (D:Mem)(m:C.le D)=>AI D (t.mono m) w B y l (K.mono m) h om_;have I:=fun (D:Mem)(m:C.le D)(o p:Nat)(z:SrchIn D B o p)=>DK D (t.mono m) B y l o p z h F;simp only [H] at I ⊢;obtain ⟨v1,v2,tv,cv,ov,rfl,_⟩:=id E.ex;refine VS kr_ func21 Z 25 Z Z fun w0=>Uz fun R b=>UQ U6 fun b1=>UP U5 fun f=>UP U5 fun g=>UP U5 fun i=>UA [1,2,3,4] b Z<|G.freeze 3 Z fun _ _ O=>UW [(1,3)] Z fun R b=>Uw (bkT O 5) U8<|D.call (N _ mup) Z (.inr dc_) U6 (QW _) fl_ (fun ah _ ai _ Q=>?_);obtain ⟨o,p,rfl,z,rfl⟩:=Q;refine UB 4 Z<|UG (j:=1) U12<|UA [2,3,4,5] b Z<|Uz fun R b=>UE af U9<|C4 1 [2,3,4,5,14] b Z<|G.cond Z (fun S=>absurd S dc_) fun _=>Uu 2 [2,3,4,17] Z ?_;have T:=I _ mup o p z;refine Xt (ps:=[18,19]) (Lr:=[.obj i (.cells ⟨[.int .i64 0]⟩ 46 (0,0)),.obj g (.cells ⟨[.bool false]⟩ 4 (0,0)),.obj f (.cells ⟨[.slice none 0 0]⟩ 50 (0,0))]) Z Z kr_ T (List.Perm.swap _ _ _) (fun v k=>?_)
  (fun j a=>j=0/\a=[.obj i (.cells ⟨[.int .i64 0]⟩ 46 (0,0)),.obj g (.cells ⟨[.bool false]⟩ 4 (0,0)),.obj f (.cells ⟨[.slice none 0 0]⟩ 50 (0,0))])
  (fun q j a=>q=.ret/\∃ (x:Nat)(A:Option Addr)(n c:Nat),cs.head?=some x/\a=[.obj i (.cells ⟨[.int .i64 0]⟩ 46 (0,0)),.obj g (.cells ⟨[.bool true]⟩ 4 (0,0)),.obj f (.cells ⟨[.slice A n c]⟩ 50 (0,0)),.arr (.slice A n c) 3 1 (aV x).length ((aV x).map aM).flatten])
  ⟨rfl,rfl⟩ (fun v k=>?_)
  (fun j a J LA=>j=0/\∃ x,cs[0]?=some x/\J=[(2,[],.pointer (some ⟨f,0,none⟩)),(3,[],.pointer (some ⟨g,0,none⟩)),(4,[],.pointer (some ⟨i,0,none⟩)),(6,[],.int .u64 (x:Nat)),(7,[],.int .i64 0)]/\LA=[.obj i (.cells ⟨[.int .i64 0]⟩ 46 (0,0)),.obj g (.cells ⟨[.bool false]⟩ 4 (0,0)),.obj f (.cells ⟨[.slice none 0 0]⟩ 50 (0,0))])
  ?_ ?_ ?_ ?_
 ·obtain ⟨x,_,rfl⟩:=zX k;rfl
 ·obtain ⟨x,_,rfl⟩:=zX k;rfl
 ·intro l2 j v a W1 r k;obtain ⟨rfl,rfl⟩:=r;obtain ⟨x,d,rfl⟩:=Ms k;exact Uu 1 [2,3,4,6,19] Z<|Uu 1 [2,3,4,6,7] Z<|Xm [(2,[],_),(3,[],_),(4,[],_),(6,[],_),(7,[],_)] ⟨Z,Z,Z,Z,Z,trivial⟩ ⟨Z,x,d,Z,Z⟩
 ·intro l2 j v a J LA W1 r k U;obtain ⟨rfl,x,d,rfl,rfl⟩:=U;have V:=M x (QQ d);refine Uu 2 [2,3,4,6,21] Z<|G.cond Z (fun W=>absurd W dc_) fun _=>UW [(1,3)] Z fun R b=>Uy U6<|D.call (GN _ t.m_ x V) Z (.inr dc_) U6 (QW _) fl_ (fun aj _ ak _ Y=>?_);obtain ⟨A,n,c,rfl,rfl⟩:=Y;refine UG (j:=3) U12<|UG (j:=3) U12<|UG (j:=3) U12<|UA [2,3,4] b Z<|UJ (Xw (e:=.ret) (c:=.ret) (X:=fun q a=>q=.ret/\_) Z ⟨Z,x,A,n,c,by rw [List.head?_eq_getElem?];exact d, ?_⟩);rfl
 ·intro s a r;obtain ⟨h0,rfl⟩:=r;have aa:cs=[]:=by
   unfold II at h0;rw [al] at h0;exact RB h0
  exact Uz fun R b=>UG (j:=3) U12<|UG (j:=3) U12<|UG (j:=3) U12<|UA [2,3,4] b Z<|UJ<|G.perm (L':=[s].map rB++[.obj i (.cells ⟨[.int .i64 0]⟩ 46 (0,0)),.obj g (.cells ⟨[.bool false]⟩ 4 (0,0)),.obj f (.cells ⟨[.slice none 0 0]⟩ 50 (0,0))]) (pkL [3,0,0,0] Z)<|Wx (Ds:=[s]) (.inl Z) (FE ac ae af Z Z Z Z Z Z Z Z Z Z) ⟨Z,.none aa⟩
 intro s j q a hj hX;obtain ⟨rfl,x,A,n,c,d,rfl⟩:=hX;exact Vh 64<|G.freezeArr 4 ((aV x).map aM) Z Z (fc _) (al _) fun Cf hf ab=>UJ<|Wx (Ds:=[s]) (L:=[.obj i (.cells ⟨[.int .i64 0]⟩ 46 (0,0)),.obj g (.cells ⟨[.bool true]⟩ 4 (0,0)),.obj f (.cells ⟨[.slice A n c]⟩ 50 (0,0))]) (.inl Z) (FE ac ae af Z Z Z Z Z Z Z Z Z Z) ⟨Z,.some x _ d ab⟩
theorem lW :zz B RO l ↔ ∃ y:Nat->Rat,∀ r∈eZ B RO l,Lp.sumN (fun j=>r.f.getD j 0*y j) (bs B*bp B)<=r.b:=by
 have hm:(eL (bs B*bp B) (ka (eZ B RO l))).m=(eZ B RO l).length:=al _;refine exists_congr fun y=>⟨fun h r hr=>?_,fun h i a=>?_⟩
 ·obtain ⟨i,a⟩:=Sg hr;obtain ⟨h1,h2⟩:=aD.1 a;have h3:=h i (by rw [hm];exact h1);have e:(ka (eZ B RO l)).getD i ([],0)=(r.f,r.b):=by rw [tO h1,h2]
  have h4:Lp.sumN (fun j=>((ka (eZ B RO l)).getD i ([],0)).1.getD j 0*y j) (bs B*bp B)<=((ka (eZ B RO l)).getD i ([],0)).2:=h3;rw [e] at h4;exact h4
 rw [hm] at a;have h4:=h _ (RP a);have e:(ka (eZ B RO l)).getD i ([],0)=((eZ B RO l)[i].f,(eZ B RO l)[i].b):=tO a;show Lp.sumN (fun j=>((ka (eZ B RO l)).getD i ([],0)).1.getD j 0*y j) (bs B*bp B)<=((ka (eZ B RO l)).getD i ([],0)).2;rw [e];exact h4
theorem BO (h:zz B RO l):bT B RO l=true:=@Ra _ (Classical.propDecidable _) h
theorem G7 (h:¬ zz B RO l):bT B RO l=false:=@Rj _ (Classical.propDecidable _) h
theorem gm (h:l[k]?=some x):(l.map aM)[k]?=some (aM x):=by rw [QU,h];rfl
theorem Hr {a b:List α}(h:k<a.length)(c:k<b.length):(a.drop k=b.drop k ↔ a[k]=b[k]/\a.drop (k+1)=b.drop (k+1)):=by
 rw [Rh h,Rh c,S9]
theorem lQ (C:Mem)(v w:Value)(a b:List Nat)(d:Sl C 1 v (a.map aM))(f:Sl C 1 w (b.map aM)):Gives cx.P 22 [v,w] C (.bool (decide (a=b))):=by
 obtain ⟨A,c,rfl,u,K,_⟩:=id d;obtain ⟨A2,c2,rfl,_⟩:=id f;have L:maxLen<=9223372036854775807:=by simp [maxLen]
 simp only [al] at d f u ⊢;refine UD func22 26 U3 fun w0=>Uu 1 [0,1] Z<|Uu 5 [0,1,10] Z<|Ux (fun g=>?_) fun g=>?_
 ·have r:(a.length:Int)≠b.length:=by simpa using g
  exact Uu 1 [4] Z<|UC U2<|⟨by rw [Rj (fun e=>r (by rw [e]))],Z⟩
 have r:(a.length:Int)=b.length:=by simpa using g
 refine Uu 1 [0,1,5] Z<|G.loop (fun fr C' z B=>∃ (k:Nat),(k<=a.length/\(a=b ↔ a.drop k=b.drop k))/\fr=[(0,[],.slice A a.length c),(1,[],.slice A2 b.length c2),(5,[],.int .i64 k)]/\z=[]/\B=a.length-k) (hn_ [0,1,5] Z) ⟨0,⟨QT _,Iff.rfl⟩,Z,Z,Z⟩ (fun fr M N m D E=>?_);obtain ⟨k,⟨O,i⟩,rfl,rfl,rfl⟩:=E;refine Uu 4 [0,1,5,14] Z<|Ux (fun j=>?_) fun j=>?_
 ·have l:k<a.length:=by
   have:=aJ j;omega
  have s:k<b.length:=by omega
  obtain ⟨x,t⟩:∃ x,a[k]=x:=⟨_,rfl⟩;obtain ⟨y,hy⟩:∃ y,b[k]=y:=⟨_,rfl⟩;have n:=Hr l s;rw [t,hy] at n;have F:a[k]?=some x:=by rw [aj l,t]
  have H:b[k]?=some y:=by rw [aj s,hy]
  refine US [0,1,2,3,4,5,6,7,8] [] Z kr_ fun R Q o=>UB 2 Z<|UK d.m_ U10 om_ (gm F) fl_ fun S I=>Uw I U8<|UB 2 Z<|UK f.m_ U10 om_ (gm H) fl_ fun T J=>Uw J U8<|C4 1 [0,1,5,25] o Z<|Ux (fun p=>?_) fun p=>?_
  ·have q:x≠y:=fun e=>by subst e;simp at p
   exact Uu 1 [4] Z<|UC U2<|⟨by rw [Rj (fun e=>q (n.1 (i.1 e)).1)],Z⟩
  have q:x=y:=by
   have:(x:Int)=y:=by simpa using p
   omega
  refine Uv 1 Z fun R o=>UF _ U7<|C4 1 [0,1,5] o Z<|UH (m':=a.length-(k+1)) om_ D (hn_ [0,1,5] Z) ⟨k+1,⟨by omega,i.trans (n.trans ⟨fun h=>h.2,fun h=>⟨q,h⟩⟩)⟩,Z,Z,Z⟩
 have l:k=a.length:=by
  have:=QS j;omega
 exact Uu 1 [4] Z<|UC U2<|⟨by rw [Ra (i.2 (by rw [Sf om_,Sf om_]))],Z⟩
theorem J3 (C:Mem)(v w:Value)(a b:List (List Nat))(d:OutsIn C v a)(f:OutsIn C w b)(Y:a.length<=1000):Gives cx.P 17 [v,w] C (.bool (decide (a=b))):=by
 obtain ⟨g,z,d⟩:=d;obtain ⟨i,B,f⟩:=f;obtain ⟨A,c,rfl,J,aa,_⟩:=id d;obtain ⟨A2,c2,rfl,_⟩:=id f;have ab:maxLen<=9223372036854775807:=by simp [maxLen]
 have K:=z.1;have L:=B.1;simp only [al,K,L] at d f J ⊢;refine UD func17 27 U3 fun w0=>Uu 1 [0,1] Z<|Uu 5 [0,1,10] Z<|Ux (fun j=>?_) fun j=>?_
 ·have D:(a.length:Int)≠b.length:=by simpa using j
  exact Uu 1 [4] Z<|UC U2<|⟨by rw [Rj (fun e=>D (by rw [e]))],Z⟩
 have D:(a.length:Int)=b.length:=by simpa using j
 refine Uu 1 [0,1,5] Z<|G.loop (fun fr C' M N=>∃ (k:Nat),(k<=a.length/\(a=b ↔ a.drop k=b.drop k))/\fr=[(0,[],.slice A a.length c),(1,[],.slice A2 b.length c2),(5,[],.int .i64 k)]/\M=[]/\N=a.length-k) (hn_ [0,1,5] Z) ⟨0,⟨QT _,Iff.rfl⟩,Z,Z,Z⟩ (fun fr ac ad m O Q=>?_);obtain ⟨k,⟨hk,l⟩,rfl,rfl,rfl⟩:=Q;refine Uu 4 [0,1,5,14] Z<|Ux (fun n=>?_) fun n=>?_
 ·have o:k<a.length:=by
   have:=aJ n;omega
  have E:k<b.length:=by omega
  obtain ⟨x,F⟩:∃ x,a[k]=x:=⟨_,rfl⟩;obtain ⟨y,hy⟩:∃ y,b[k]=y:=⟨_,rfl⟩;have r:=Hr o E;rw [F,hy] at r;obtain ⟨p,H⟩:∃ p,g[k]?=some p:=⟨g[k]'om_,aj om_⟩;obtain ⟨q,I⟩:∃ q,i[k]?=some q:=⟨i[k]'om_,aj om_⟩;have S:(g.map fun x=>[x])[k]?=some [p]:=by rw [QU,H];rfl
  have T:(i.map fun x=>[x])[k]?=some [q]:=by rw [QU,I];rfl
  have U:=z.2 k p x H (by rw [aj o,F]);have V:=B.2 k q y I (by rw [aj E,hy]);refine US [0,1,2,3,4,5,6,7,8,9] [(8,1)] Z kr_ fun R hB s=>UB 2 Z<|UK d.m_ U10 om_ S fl_ fun ae W=>Uw W U8<|UB 2 Z<|UK f.m_ U10 om_ T fl_ fun af X=>Uw X U8<|Vb (fun _=>(lQ _ _ _ x y U.m_ V.m_)) U9<|C4 1 [0,1,5,26] s Z<|Ux (fun t=>?_) fun t=>?_
  ·have u:x≠y:=by simpa using t
   exact Uu 1 [4] Z<|UC U2<|⟨by rw [Rj (fun e=>u (r.1 (l.1 e)).1)],Z⟩
  have u:x=y:=by simpa using t
  refine Uv 1 Z fun R s=>UF _ U7<|C4 1 [0,1,5] s Z<|UH (m':=a.length-(k+1)) om_ O (hn_ [0,1,5] Z) ⟨k+1,⟨by omega,l.trans (r.trans ⟨fun h=>h.2,fun h=>⟨u,h⟩⟩)⟩,Z,Z,Z⟩
 have o:k=a.length:=by
  have:=QS n;omega
 exact Uu 1 [4] Z<|UC U2<|⟨by rw [Ra (l.2 (by rw [Sf om_,Sf om_]))],Z⟩
def pO1:Obs:=⟨2,[120],qtx 1,qtx 0,[49],[66],[65],[],[],[]⟩
def pO2:Obs:=⟨2,[121],qtx 1,qtx 0,[50],[66],[65],[],[],[]⟩
def pB:Bk:=⟨[(0,0),(2,0),(0,2)],[(0,1,2)],[[57],[57],[57]],[⟨[65],0,none⟩,⟨[66],0,none⟩],[pO1,pO2]⟩
theorem zY (C:Mem)(b:Tabs C)(x y:Int)(c:x.natAbs<1000000000)(d:y.natAbs<1000000000):Gives cx.P 19 [.int .i64 x,.int .i64 y] C (ptV (((x:Int):Rat),((y:Int):Rat))):=by
 refine UD func19 10 U3 fun w0=>Uz fun R a=>UP U5 fun e=>UA [0,1,4] a Z<|Uv 1 Z fun R a=>UM (lg _ b.m_ x om_) U7 fl_<|Uy U6<|UM (lg _ b.m_ y om_) U7 fl_<|UO [ai (qtx x),ai (qtx y)] U8<|UG (j:=0) U12<|UA [4] a Z<|UJ (Vm af U4 ?_);exact ⟨Z,Z⟩
def nL (nm d:Str):List Value:=[.int .i64 2,ai nm,ai (qtx ((1:Int):Rat)),ai (qtx ((0:Int):Rat)),ai d,ai [66],ai [65],ai [],ai [],ai []]
theorem LD (C:Mem)(c:Tabs C)(a d:Str):Gives cx.P 44 [ai a,ai d] C (.agg ⟨nL a d⟩):=by
 refine UD func44 9 U3 fun w0=>Uz fun R b=>UP U5 fun e=>UA [0,1,4] b Z<|Uv 1 Z fun R b=>UM (zY _ c.m_ 1 0 dc_ dc_) U7 fl_<|Uy U6<|UO (nL a d) U8<|UG (j:=0) U12<|UA [4] b Z<|UJ (Vm af U4 ?_);exact ⟨Z,Z⟩
theorem Dw:pB.col.map yX=[[ai [65],ai [48],ai []],[ai [66],ai [48],ai []]]:=by
 show [[ai [65],ai (qtx 0),ai []],[ai [66],ai (qtx 0),ai []]]=_;rw [P4]
theorem Ng (C:Mem)(o:Tabs C):Pur cx.P 18 [] C fun u D=>BookIn D u pB:=by
 refine UD func18 21 U3 fun w0=>Uz fun R a=>UP U5 fun y=>UA [0] a Z<|Uz fun R a=>UM (zY _ o.m_ 0 0 dc_ dc_) U7 fl_<|UM (zY _ o.m_ 2 0 dc_ dc_) U7 fl_<|UM (zY _ o.m_ 0 2 dc_ dc_) U7 fl_<|Vg [gt (((0:Int):Rat),((0:Int):Rat)),gt (((2:Int):Rat),((0:Int):Rat)),gt (((0:Int):Rat),((2:Int):Rat))] U12 fl_ fun i _ _ m=>UO ([.int .i64 0,.int .i64 1,.int .i64 2]) U8<|Vg [[.int .i64 0,.int .i64 1,.int .i64 2]] U12 fl_ fun k _ _ n=>UO [.slice (some ⟨i,0,none⟩) 3 3,.slice (some ⟨k,0,none⟩) 1 1] U8<|UP U5 fun H=>UG (j:=0) U12<|UA [0,1] a Z<|Uu 1 [0,1,2] Z<|G.freeze 0 Z fun _ _ z=>G.cut (fun fr C' A B=>∃ (s t v w x:Value),(BookIn C' (.agg ⟨[s,t,v,w,x]⟩) pB)/\fr=[(0,[],.pointer (some ⟨y,0,none⟩))]/\A=[.obj y (.cells ⟨[s,t,v,w,x]⟩ 42 (0,0))]) ?_ (fun fr I J B K E=>?_)
 ·refine Vp (.cut [0,2,3,5,6,7,8] (.alt 1 (.cut [] (.alt 4 (.fin [9,10,11]) (.alt 9 (.fin [4,10,11]) .stop))) (.alt 4 (.cut [] (.alt 1 (.fin [9,10,11]) (.alt 9 (.fin [1,10,11]) .stop))) (.alt 9 (.cut [] (.alt 1 (.fin [4,10,11]) (.alt 4 (.fin [1,10,11]) .stop))) .stop)))) [(6,1),(8,1),(0,0)] Z Z kr_ fun R l a b=>Vx (fun _=>((bkT z 2).mono l)) U9<|UO ([ai [65],ai [48],ai []]) U8<|UO ([ai [66],ai [48],ai []]) U8<|Uy U6<|Vb (fun _=>(LD _ o.m_ [120] [49])) U9<|Uy U6<|Vb (fun _=>(LD _ o.m_ [121] [50])) U9<|Vd b Z ⟨?_, ?_, ?_,trivial⟩
  ·refine Vg [[ai [57]],[ai [57]],[ai [57]]] U12 fl_ fun c p _ d=>Vd b Z ⟨?_, ?_,trivial⟩
   ·refine Vg [[ai [65],ai [48],ai []],[ai [66],ai [48],ai []]] U12 fl_ fun e q _ f=>Vg [nL [120] [49],nL [121] [50]] U12 fl_ fun g r _ h=>UO [.slice (some ⟨i,0,none⟩) 3 3,.slice (some ⟨k,0,none⟩) 1 1,.slice (some ⟨c,0,none⟩) 3 3,.slice (some ⟨e,0,none⟩) 2 2,.slice (some ⟨g,0,none⟩) 2 2] U8<|UG (j:=0) U12<|UA [0] a Z ?_;clear a l b R;exact UL 0 mup (hn_ [0] Z) ⟨_,_,_,_,_,⟨_,_,_,_,_,Z,m.mono mup,n.mono mup,d.mono mup,(by rw [Dw];exact f.mono mup),h.mono mup⟩,Z,Z⟩
   refine Vg [nL [120] [49],nL [121] [50]] U12 fl_ fun g r _ h=>Vg [[ai [65],ai [48],ai []],[ai [66],ai [48],ai []]] U12 fl_ fun e q _ f=>UO [.slice (some ⟨i,0,none⟩) 3 3,.slice (some ⟨k,0,none⟩) 1 1,.slice (some ⟨c,0,none⟩) 3 3,.slice (some ⟨e,0,none⟩) 2 2,.slice (some ⟨g,0,none⟩) 2 2] U8<|UG (j:=0) U12<|UA [0] a Z ?_;clear a l b R;exact UL 0 mup (hn_ [0] Z) ⟨_,_,_,_,_,⟨_,_,_,_,_,Z,m.mono mup,n.mono mup,d.mono mup,(by rw [Dw];exact f.mono mup),h.mono mup⟩,Z,Z⟩
  ·refine Vg [[ai [65],ai [48],ai []],[ai [66],ai [48],ai []]] U12 fl_ fun e q _ f=>Vd b Z ⟨?_, ?_,trivial⟩
   ·refine Vg [[ai [57]],[ai [57]],[ai [57]]] U12 fl_ fun c p _ d=>Vg [nL [120] [49],nL [121] [50]] U12 fl_ fun g r _ h=>UO [.slice (some ⟨i,0,none⟩) 3 3,.slice (some ⟨k,0,none⟩) 1 1,.slice (some ⟨c,0,none⟩) 3 3,.slice (some ⟨e,0,none⟩) 2 2,.slice (some ⟨g,0,none⟩) 2 2] U8<|UG (j:=0) U12<|UA [0] a Z ?_;clear a l b R;exact UL 0 mup (hn_ [0] Z) ⟨_,_,_,_,_,⟨_,_,_,_,_,Z,m.mono mup,n.mono mup,d.mono mup,(by rw [Dw];exact f.mono mup),h.mono mup⟩,Z,Z⟩
   refine Vg [nL [120] [49],nL [121] [50]] U12 fl_ fun g r _ h=>Vg [[ai [57]],[ai [57]],[ai [57]]] U12 fl_ fun c p _ d=>UO [.slice (some ⟨i,0,none⟩) 3 3,.slice (some ⟨k,0,none⟩) 1 1,.slice (some ⟨c,0,none⟩) 3 3,.slice (some ⟨e,0,none⟩) 2 2,.slice (some ⟨g,0,none⟩) 2 2] U8<|UG (j:=0) U12<|UA [0] a Z ?_;clear a l b R;exact UL 0 mup (hn_ [0] Z) ⟨_,_,_,_,_,⟨_,_,_,_,_,Z,m.mono mup,n.mono mup,d.mono mup,(by rw [Dw];exact f.mono mup),h.mono mup⟩,Z,Z⟩
  refine Vg [nL [120] [49],nL [121] [50]] U12 fl_ fun g r _ h=>Vd b Z ⟨?_, ?_,trivial⟩
  ·refine Vg [[ai [57]],[ai [57]],[ai [57]]] U12 fl_ fun c p _ d=>Vg [[ai [65],ai [48],ai []],[ai [66],ai [48],ai []]] U12 fl_ fun e q _ f=>UO [.slice (some ⟨i,0,none⟩) 3 3,.slice (some ⟨k,0,none⟩) 1 1,.slice (some ⟨c,0,none⟩) 3 3,.slice (some ⟨e,0,none⟩) 2 2,.slice (some ⟨g,0,none⟩) 2 2] U8<|UG (j:=0) U12<|UA [0] a Z ?_;clear a l b R;exact UL 0 mup (hn_ [0] Z) ⟨_,_,_,_,_,⟨_,_,_,_,_,Z,m.mono mup,n.mono mup,d.mono mup,(by rw [Dw];exact f.mono mup),h.mono mup⟩,Z,Z⟩
  refine Vg [[ai [65],ai [48],ai []],[ai [66],ai [48],ai []]] U12 fl_ fun e q _ f=>Vg [[ai [57]],[ai [57]],[ai [57]]] U12 fl_ fun c p _ d=>UO [.slice (some ⟨i,0,none⟩) 3 3,.slice (some ⟨k,0,none⟩) 1 1,.slice (some ⟨c,0,none⟩) 3 3,.slice (some ⟨e,0,none⟩) 2 2,.slice (some ⟨g,0,none⟩) 2 2] U8<|UG (j:=0) U12<|UA [0] a Z ?_;clear a l b R;exact UL 0 mup (hn_ [0] Z) ⟨_,_,_,_,_,⟨_,_,_,_,_,Z,m.mono mup,n.mono mup,d.mono mup,(by rw [Dw];exact f.mono mup),h.mono mup⟩,Z,Z⟩
 obtain ⟨s,t,v,w,x,F,rfl,rfl⟩:=E;refine UJ (Vm af U4 ?_);exact ⟨Z,F⟩
theorem MY (h:q.den=1):q=(q.num:Rat):=Rat.ext rfl h
def wlB (D:Int)(q:Rat):Bool:=decide ((q*(D:Rat)).den=1) && decide ((q*(D:Rat)).num.natAbs<=999999999)
theorem Ls {D:Int}(h:wlB D q=true):Wl D q:=by
 unfold wlB at h;simp only [Q1,QZ] at h;exact ⟨_,MY h.1,h.2⟩
theorem Jo {r:RowQ}(D:Int)(a:D≠0)(c:D.natAbs<=999999999)(h:(r.f.all (wlB D) && wlB D r.b)=true):RowI r:=by
 simp only [Q1,Q4] at h;exact ⟨D,a,c,fun q d=>Ls (h.1 q d),Ls h.2⟩
theorem tX:qtx 1=[49]:=tY (z:=1) aq
theorem Jt:qtx 9=[57]:=tY (z:=9) aq
theorem ro1:dz [49]=1:=yt 1 tX aq
theorem Qi:dz [50]=2:=yt 2 MZ aq
theorem rq:pO1=⟨2,[120],[49],[48],[49],[66],[65],[],[],[]⟩:=by rw [pO1,tX,qtx_zero]
theorem rn:pO2=⟨2,[121],[49],[48],[50],[66],[65],[],[],[]⟩:=by rw [pO2,tX,qtx_zero]
theorem Pj:Good pB.pts pB.tris:=(Hb aq dc_ dc_ dc_).1
theorem Gb:lO pB.pts pB.tris (1,0)=[0]:=by decide +kernel
theorem Qn:ptO pO1=(1,0):=by rw [rq];unfold ptO;rw [ro1,ro0]
theorem Qm:ptO pO2=(1,0):=by rw [rn];unfold ptO;rw [ro1,ro0]
theorem Ql:dQ pO1=0:=by rw [rq];decide +kernel
theorem Qk:dQ pO2=0:=by rw [rn];decide +kernel
theorem Qp:gD pB.pts pB.tris pB.col pO1=0:=by
 unfold gD;rw [az (by rw [Ql];decide),az (by unfold Iy;rw [Qn,Gb];decide),az (by rw [rq];decide +kernel),az (by rw [rq];decide +kernel),az (by rw [rq];unfold KE;rw [ro1];decide +kernel),az (by rw [rq];decide +kernel)]
theorem Qo:gD pB.pts pB.tris pB.col pO2=0:=by
 unfold gD;rw [az (by rw [Qk];decide),az (by unfold Iy;rw [Qm,Gb];decide),az (by rw [rn];decide +kernel),az (by rw [rn];decide +kernel),az (by rw [rn];unfold KE;rw [Qi];decide +kernel),az (by rw [rn];decide +kernel)]
def pFs:List Rat:=[9,9,9]
theorem Pg:Terr pB pFs:=⟨by simp [pB,pFs,Jt],rfl,by decide +kernel⟩
theorem p_on:onQ pB.pts pFs (0,1,2) (1,0)=9:=by decide +kernel
theorem Pf:EQ pB.pts pB.tris pFs (1,0)=.tuple #[ai (qtx 9),.int .i64 0]:=by
 unfold EQ;rw [Gb];show DC (onQ pB.pts pFs (0,1,2) (1,0))=_;rw [p_on];unfold DC;rw [aW (bO aq)]
theorem p_w:∀ j,QB 22 (wgt pB.pts (0,1,2) (1,0) j):=by
 intro j;rw [Mr];rcases (by omega:j % 3=0∨j % 3=1∨j % 3=2) with h | h | h <;> rw [h] <;> decide +kernel
theorem p_sl:∀ j,QP 22 (slf pB.pts (0,1,2) j):=by
 intro j;unfold slf;rw [IQ];rcases (by omega:min j 2=0∨min j 2=1∨min j 2=2) with h | h | h <;> rw [h] <;> decide +kernel
def pR (z:Rat):List RowQ:=[⟨[1/2,1/2,0],z⟩,⟨[-1/2, -1/2,0], -z⟩]
theorem p_rows1:rowsO pB pO1 (1,0) (0,1,2) 9=pR 8:=by
 unfold rowsO kA;rw [rq,ro1];decide +kernel
theorem p_rows2:rowsO pB pO2 (1,0) (0,1,2) 9=pR 7:=by
 unfold rowsO kA;rw [rn,Qi];decide +kernel
theorem Qq:∀ o∈pB.obs,ObsR o:=by
 intro o a;simp only [pB,Q3,RU,Tk] at a;rcases a with rfl | rfl
 ·rw [rq];exact ⟨by decide,by decide,by decide,by decide,by decide,by decide,by decide,by decide,by decide⟩
 rw [rn];exact ⟨by decide,by decide,by decide,by decide,by decide,by decide,by decide,by decide,by decide⟩
theorem p_br:BookR pB:=by
 refine ⟨by decide, ?_,by decide,Qq⟩;intro x a;simp only [pB,Q3,RU,Tk] at a;rcases a with rfl | rfl
 ·exact ⟨by decide +kernel,fun q h=>by simp at h,by decide⟩
 exact ⟨by decide +kernel,fun q h=>by simp at h,by decide⟩
theorem p_bz:iB pB=0:=by
 have h1:re pB 1=0:=by
  have h0:re pB 0=0:=rfl;show (if re pB 0≠0 then re pB 0 else obZ pB (pB.obs.take 0) (pB.obs.getD 0 JU))=0;rw [az (by rw [h0];decide)];show obZ pB [] pO1=0;unfold obZ;rw [az (by rw [Qp];decide),az dc_]
 have h2:re pB 2=0:=by
  show (if re pB 1≠0 then re pB 1 else obZ pB (pB.obs.take 1) (pB.obs.getD 1 JU))=0;rw [az (by rw [h1];decide)];show obZ pB [pO1] pO2=0;unfold obZ;rw [az (by rw [Qo];decide),az dc_]
 unfold iB;rw [az aq,az aq,az dc_];exact h2
def pRO (i:Nat):List RowQ:=if i=0 then pR 8 else pR 7
theorem Nj:Fine pB pFs pO1 (1,0) 0 (0,1,2) 9 :=
 ⟨⟨rfl,rfl,by decide +kernel,⟨bO aq,bO aq⟩,fun _=>by decide +kernel⟩,⟨[],Gb⟩,rfl,Pf,by decide +kernel,by unfold kA;rw [rq,ro1];decide +kernel,p_w,by rw [rq];decide +kernel,p_sl,fun _ h=>absurd rfl h,by
  rw [p_rows1];unfold Ox;decide +kernel⟩
theorem Ni:Fine pB pFs pO2 (1,0) 0 (0,1,2) 9 :=
 ⟨⟨rfl,rfl,by decide +kernel,⟨bO aq,bO aq⟩,fun _=>by decide +kernel⟩,⟨[],Gb⟩,rfl,Pf,by decide +kernel,by unfold kA;rw [rn,Qi];decide +kernel,p_w,by rw [rn];decide +kernel,p_sl,fun _ h=>absurd rfl h,by
  rw [p_rows2];unfold Ox;decide +kernel⟩
theorem Ph:Rich pB pFs pRO:=by
 refine ⟨Pj,p_br,p_bz,Pg,by decide,fun i o a=>?_⟩;rcases (by have h:=(aD.1 a).1;have h2:pB.obs.length=2:=rfl;omega:i=0∨i=1) with rfl | rfl
 ·simp only [pB,List.getElem?_cons_zero,Rt] at a;subst a;exact ⟨_,_,_,_,Nj,p_rows1.symm⟩
 simp only [pB,SF,List.getElem?_cons_zero,Rt] at a;subst a;exact ⟨_,_,_,_,Ni,p_rows2.symm⟩
theorem pR_I:∀ r∈pR 8++pR 7,RowI r:=by
 intro r hr;simp only [pR,SD,SI,Q3,RU,Tk] at hr;rcases hr with rfl | rfl | rfl | rfl <;> exact Jo 2 dc_ dc_ aq
theorem p_th:bH pB=[]:=rfl
theorem Br:Calm pB pFs pRO:=by
 refine ⟨Ph,by decide,fun r hr=>(by rw [p_th] at hr;cases hr),fun i _ r hr=>?_,by decide,fun i _=>?_,by decide⟩
 ·refine pR_I r ?_;unfold pRO at hr;split at hr
  ·exact Sp _ hr
  exact SN _ hr
 unfold pRO;split <;> decide
theorem Gc (y:Rat)(h:∀ r∈eZ pB pRO l,Lp.sumN (fun j=>r.f.getD j 0*y) 3<=r.b):bT pB pRO l=true:=BO (lW.2 ⟨fun _=>y,h⟩)
theorem uh :eZ pB pRO l=l.flatMap pRO:=by rw [lC,p_th];rfl
theorem p_h0:bT pB pRO []=true:=Gc 0 (by rw [uh];decide)
theorem p_h1:bT pB pRO [0]=true:=Gc 8 (by rw [uh];decide +kernel)
theorem p_h2:bT pB pRO [1]=true:=Gc 7 (by rw [uh];decide +kernel)
theorem p_h3:bT pB pRO [0,1]=false:=by
 refine G7 fun h=>?_;obtain ⟨y,hy⟩:=lW.1 h;rw [uh] at hy;have h1:=hy ⟨[-1/2, -1/2,0], -8⟩ aq;have h2:=hy ⟨[1/2,1/2,0],7⟩ aq;have e:bs pB*bp pB=3:=rfl;rw [e] at h1 h2;simp only [Lp.sumN,au,List.getElem?_cons_zero,SF,R9] at h1 h2;grind
theorem p_hS:hS pB pRO 0=true/\hS pB pRO 1=true/\hS pB pRO 2=true/\hS pB pRO 3=false:=⟨p_h0,p_h1,p_h2,p_h3⟩
theorem OY:bQ 2=[0,1,2,3]:=by decide +kernel
theorem Nk:eB (hS pB pRO) (bQ 2)=[3]:=by
 obtain ⟨h0,h1,h2,h3⟩:=p_hS;rw [OY];simp only [eB,Sn,List.foldl_nil,eI,h0,h1,h2,h3,List.any_nil,Bool.or_true,Bool.or_false,SL,RH,R7,SI]
theorem Pi:(yr (hC pB pRO) (bQ 2)).map aV=[[0],[1]]:=by
 obtain ⟨h0,h1,h2,h3⟩:=p_hS;have a:hC pB pRO 0=false:=h3;have b:hC pB pRO 1=true:=h2;have c:hC pB pRO 2=true:=h1;have d:hC pB pRO 3=true:=h0;rw [OY];simp only [yr,Sn,List.foldl_nil,pk,a,b,c,d];decide +kernel
theorem QI:AscIn 2 [0,1]:=⟨by decide,by decide⟩
theorem asc1:AscIn 2 [1]:=⟨by decide,by decide⟩
theorem Dy {D:Mem}{a b:Value}{p q:List Nat}(c:Sl D 1 a (p.map aM))(d:Sl D 1 b (q.map aM))(e:Sl D 1 v [[a],[b]]):OutsIn D v [p,q] :=
 ⟨[a,b],(OutL.nil D).snoc c |>.snoc d,e⟩
theorem yj {D:Mem}(h:SmallO [x] D u):∃ v,u=.tuple #[v,.bool true,.int .i64 0]/\Sl D 1 v ((aV x).map aM):=by
 cases h with
 | none h=>cases h
 | some y v h1 h2 =>
  cases h1
  exact ⟨v,Z,h2⟩
theorem GJ (C:Mem)(b:Tabs C):Gives cx.P 11 [] C (.bool true):=by
 refine UD func11 71 U3 fun w0=>Uv 1 Z fun R a=>VE [] trivial (a _ _ _ Z ?_);refine Uz fun R a=>Ve (Ng _ b.m_) U7 (fun y _ _ c=>?_);obtain ⟨w1,z,A,B,D,rfl,g,h,i,k,l⟩:=id c.ex;obtain ⟨E,F,rfl,_⟩:=id g;obtain ⟨A2,c2,rfl,_⟩:=id h;obtain ⟨H,I,rfl,_⟩:=id i;obtain ⟨J,K,rfl,_⟩:=id k;obtain ⟨L,M,rfl,_⟩:=id l;refine UP U5 fun N=>UG (j:=0) U12<|UA [1] a Z<|G.freeze 0 Z fun _ _ e=>Uz fun R a=>Uw (bkT e 5) U8<|UR [[.int .i64 0],[.int .i64 1]] U12 fun O _ _ m=>UI (ow _ b.m_ _ _ pB pFs pRO [0,1] c.m_ Br QI m.m_) U7<|C4 5 [1,2,3] a Z<|Uz fun R a=>Uw (bkT e 5) U8<|UR [[.int .i64 1]] U12 fun Q _ _ n=>UI (ow _ b.m_ _ _ pB pFs pRO [1] c.m_ Br asc1 n.m_) U7<|C4 5 [1,2,3,4,5] a Z<|Uz fun R a=>Uw (bkT e 5) U8<|U0 (zx _ b.m_ _ pB pFs pRO c.m_ Br dc_) U7 fl_ (fun S _ _ o=>?_);have p:=Nk ▸ o;obtain ⟨T,rfl,q⟩:=yj p;refine C4 7 [1,2,3,4,5,6,7,8] a Z<|Uz fun R a=>Uw (bkT e 5) U8<|U0 (En _ b.m_ _ pB pFs pRO c.m_ Br dc_) U7 fl_ (fun U _ _ r=>?_);obtain ⟨V,rfl,f⟩:=r;rw [show pB.obs.length=2 from rfl,Pi] at f;exact C4 5 [2,3,4,5,6,7,8,9,10] a Z<|Uv 5 Z fun R a=>UU U8<|UB 2 Z<|UU U8<|UB 3 Z<|UU U8<|UB 2 Z<|VW [[.int .i64 0],[.int .i64 1]] U12 fl_ U2 fun W _ _ s=>UT (fun d=>lQ _ _ _ [0,1] [0,1] q.m_ ((s (by exact d)).mono mup)) U9<|UU U8<|UB 2 Z<|UU U8<|UB 3 Z<|UU U8<|UB 2 Z<|VW [[.int .i64 0]] U12 fl_ U2 fun t _ _ u=>VW [[.int .i64 1]] U12 fl_ U2 fun v _ _ w=>VW [[.slice (some ⟨t,0,none⟩) 1 1],[.slice (some ⟨v,0,none⟩) 1 1]] U12 fl_ U2 fun X _ _ x=>UT (fun d=>J3 _ _ _ [[0],[1]] [[0],[1]] f.m_ (Dy ((u (by exact d)).mono mup) ((w (by exact d)).mono mup) ((x (by exact d)).mono mup)) dc_) U9<|UU U8<|UB 3 Z<|UU U8<|C4 1 [0] a Z<|UC U2<|⟨by rw [p_h3,p_h2];rfl,Z⟩
def Dv (a b:List Nat):Bool:=a.all fun x=>b.any fun y=>x == y
theorem Lb {b:List Nat}(h:b[k]?=some y):(b.take (k+1)).any p=((b.take k).any p || p y):=by
 rw [Rm,h,List.any_append];simp
theorem kL (x y:Nat):((x:Int) == (y:Int))=(x == y):=by
 by_cases h:x=y
 ·subst h;simp
 rw [RT.2 h,RT.2 (fun e=>h (Int.ofNat_inj.1 e))]
theorem J4 (C:Mem)(v w:Value)(a b:List Nat)(f:Sl C 1 v (a.map aM))(g:Sl C 1 w (b.map aM)):Gives cx.P 15 [v,w] C (.bool (Dv a b)):=by
 obtain ⟨A,c,rfl,B,J,_⟩:=id f;obtain ⟨A2,c2,rfl,D,K,_⟩:=id g;have L:maxLen<=9223372036854775807:=by simp [maxLen]
 simp only [al] at f g B D ⊢;refine UD func15 32 U3 fun w0=>Uu 1 [0,1] Z<|Uu 3 [1,10,11,12] Z<|G.loop (fun fr C' h j=>∃ (i:Nat),(i<=a.length/\(a.take i).all (fun x=>b.any fun y=>x == y)=true)/\fr=[(1,[],.slice A2 b.length c2),(10,[],.slice A a.length c),(11,[],.int .i64 a.length),(12,[],.int .i64 i)]/\h=[]/\j=a.length-i) (hn_ [1,10,11,12] Z) ⟨0,⟨QT _,Z⟩,Z,Z,Z⟩ (fun fr M N m _ l=>?_);obtain ⟨i,⟨O,n⟩,rfl,rfl,rfl⟩:=l;refine Uu 1 [1,10,11,12,13] Z<|Ux (fun o=>?_) fun o=>?_
 ·have q:i<a.length:=by
   have:=aJ o;omega
  obtain ⟨x,r⟩:∃ x,a[i]?=some x:=⟨a[i],aj q⟩;refine Uz fun R d=>UK f.m_ U10 om_ (gm r) fl_ fun Q E=>Uw E U8<|C4 1 [1,6,10,11,12] d Z<|Uu 1 [1,6,7,10,11,12] Z<|Uu 3 [1,6,7,10,11,12,16,17,18] Z<|G.loop (fun fr C' h j=>∃ (k:Nat),(k<=b.length)/\fr=[(1,[],.slice A2 b.length c2),(6,[],.int .i64 (x:Nat)),(7,[],.bool ((b.take k).any fun y=>x == y)),(10,[],.slice A a.length c),(11,[],.int .i64 a.length),(12,[],.int .i64 i),(16,[],.slice A2 b.length c2),(17,[],.int .i64 b.length),(18,[],.int .i64 k)]/\h=[]/\j=b.length-k) (hn_ [1,6,7,10,11,12,16,17,18] Z) ⟨0,QT _,Z,Z,Z⟩ (fun fr S T m F l=>?_);obtain ⟨k,U,rfl,rfl,rfl⟩:=l;refine Uu 1 [1,6,7,10,11,12,16,17,18,19] Z<|Ux (fun s=>?_) fun s=>?_
  ·have t:k<b.length:=by
    have:=aJ s;omega
   obtain ⟨y,hy⟩:∃ y,b[k]?=some y:=⟨b[k],aj t⟩;have H:=Lb (p:=fun y=>x == y) hy;refine Uz fun R d=>UK g.m_ U10 om_ (gm hy) fl_ fun V I=>Uw I U8<|C4 1 [1,6,7,9,10,11,12,16,17,18] d Z<|Uv 5 Z fun R d=>U1 U8<|C4 1 [1,6,7,10,11,12,16,17,18] d Z ?_;rw [show (((b.take k).any fun y=>x == y) || ((x:Int) == (y:Int)))=(b.take (k+1)).any fun y=>x == y from by rw [H];congr 1;exact kL x y];refine Uz fun R d=>UF _ U7<|C4 1 [1,6,7,10,11,12,16,17,18] d Z<|UH (m':=b.length-(k+1)) om_ F (hn_ [1,6,7,10,11,12,16,17,18] Z) ⟨k+1,om_,Z,Z,Z⟩
  have t:k=b.length:=by
   have:=QS s;omega
  subst t;rw [Q2];refine Uu 2 [1,10,11,12,30] Z<|Ux (fun u=>?_) fun u=>?_
  ·have z:(b.any fun y=>x == y)=false:=by simpa using u
   refine Uu 1 [4] Z<|UC U2<|⟨?_,Z⟩;have e:Dv a b=false:=by
    unfold Dv;exact S3.2 ⟨x,QQ r,by simp only [z];decide⟩
   rw [e]
  have z:(b.any fun y=>x == y)=true:=by simpa using u
  refine Uz fun R d=>UF _ U7<|C4 1 [1,10,11,12] d Z<|UH (m':=a.length-(i+1)) om_ mup (hn_ [1,10,11,12] Z) ⟨i+1,⟨by omega,by rw [Rm,r,Ty,n];simpa using z⟩,Z,Z,Z⟩
 have q:i=a.length:=by
  have:=QS o;omega
 refine Uu 1 [4] Z<|UC U2 ?_;rw [q,Q2] at n;exact ⟨by rw [Dv,n],Z⟩
theorem J6 (C:Mem)(v w:Value)(a b:List Nat)(g:Sl C 1 v (a.map aM))(h:Sl C 1 w (b.map aM))(J:a.length<=b.length):Gives cx.P 42 [v,w] C (.bool (yD a b)):=by
 obtain ⟨A,c,rfl,p,K,_⟩:=id g;obtain ⟨A2,c2,rfl,q,L,_⟩:=id h;have M:maxLen<=9223372036854775807:=by simp [maxLen]
 simp only [al] at g h p q ⊢;refine UD func42 30 U3 fun w0=>Uu 1 [0,1] Z<|Uu 1 [0,1,5] Z<|G.loop (fun fr C' r s=>∃ (k:Nat),(k<=a.length/\yD (a.drop k) (b.drop k)=yD a b)/\fr=[(0,[],.slice A a.length c),(1,[],.slice A2 b.length c2),(5,[],.int .i64 k)]/\r=[]/\s=a.length-k) (hn_ [0,1,5] Z) ⟨0,⟨QT _,Z⟩,Z,Z,Z⟩ (fun fr N O m t u=>?_);obtain ⟨k,⟨Q,d⟩,rfl,rfl,rfl⟩:=u;refine Uu 4 [0,1,5,9] Z<|Ux (fun j=>?_) fun j=>?_
 ·have i:k<a.length:=by
   have:=aJ j;omega
  have o:k<b.length:=by omega
  obtain ⟨x,l⟩:∃ x,a[k]?=some x:=⟨a[k],aj i⟩;obtain ⟨y,hy⟩:∃ y,b[k]?=some y:=⟨b[k],aj o⟩;rw [Rh i,Rh o,(aD.1 l).2,(aD.1 hy).2] at d;refine US [0,1,2,3,4,5,6,7,8] [] Z kr_ fun R z f=>UB 2 Z<|UK g.m_ U10 om_ (gm l) fl_ fun S B=>Uw B U8<|UB 2 Z<|UK h.m_ U10 om_ (gm hy) fl_ fun T D=>Uw D U8<|C4 1 [0,1,5,20] f Z<|Ux (fun n=>?_) fun n=>?_
  ·have E:x≠y:=fun e=>by subst e;simp at n
   refine US [0,1,2,3,4,5,6,7,8,9] [] Z kr_ fun R z f=>UB 2 Z<|UK g.m_ U10 om_ (gm l) fl_ fun U F=>Uw F U8<|UB 2 Z<|UK h.m_ U10 om_ (gm hy) fl_ fun V H=>Uw H U8<|C4 2 [4] f Z<|UC U2<|⟨?_,Z⟩;rw [<- d];simp only [yD,az E];congr 1;exact RC.2 om_
  have I:x=y:=by
   have:(x:Int)=y:=by simpa using n
   omega
  refine Uv 1 Z fun R f=>UF _ U7<|C4 1 [0,1,5] f Z<|UH (m':=a.length-(k+1)) om_ t (hn_ [0,1,5] Z) ⟨k+1,⟨by omega,by rw [<- d];simp only [yD,aW I]⟩,Z,Z,Z⟩
 have i:k=a.length:=by
  have:=QS j;omega
 refine Uu 1 [4] Z<|UC U2 ?_;rw [i,RM] at d;exact ⟨by rw [<- d];rfl,Z⟩
def Oh (D:Mem)(n:Nat)(rows:List RowQ)(u:Value):Prop:=∃ rv ov,u=.tuple #[.agg ⟨[.int .i64 n,rv,ov]⟩,.bool true]/\RowsT D rv ((ka rows).map gV)/\Sl D 1 ov ((List.replicate n (0:Rat)).map aZ)
theorem FH (i:Nat):((List.replicate (i+1) (0:Rat)).map aZ).flatten=((List.replicate i (0:Rat)).map aZ).flatten++[[ai [48]]].flatten:=by
 rw [<- nT,<- nT,List.replicate_succ'];rfl
theorem yA (C:Mem)(o T:Value)(B:Bk)(l:List SrcQ)(p:BookZ C o B 0)(U:bs B*bp B<=60)(aA:l.length<=300)
  (ac:∀ D:Mem,C.le D->Pur cx.P 52 [o,T] D fun u E=>∃ v,u=.tuple #[v,.int .i64 0]/\xL E v l) :
  Pur cx.P 29 [o,T] C fun u D=>Oh D (bs B*bp B) (l.map SrcQ.r) u:=by
 have aB:=p;obtain ⟨n,V⟩:∃ n,bs B*bp B=n:=⟨_,rfl⟩;have ad:∀ D:Mem,C.le D->Gives cx.P 35 [o] D (.tuple #[.int .i64 n,.int .i64 0]):=fun D hD=>by
  have h:=ze D o B 0 (p.mono hD) U;rw [aW rfl,V] at h;exact h
 rw [V] at U ⊢;obtain ⟨v1,v2,tv,cv,ov,rfl,h1,h2,h3,h4,h5⟩:=id p.i.ex;have aC:maxLen<=9223372036854775807:=by simp [maxLen]
 refine UD func29 58 U3 fun w0=>Uz fun R a=>UQ U6 fun b2=>UP U5 fun c=>C4 1 [1,2,4] a Z<|G.freeze 1 Z fun _ _ W=>Uz fun R a=>Uw (bkT W 5) U8<|UI (ad _ mup) U7<|C4 5 [1,2,4,6,7] a Z<|Uz fun R a=>Uw (bkT W 5) U8<|Uy U6<|Ve (ac _ mup) U7 (fun aD _ _ ag=>?_);obtain ⟨wv,rfl,ah⟩:=ag;obtain ⟨vs,t,x⟩:=ah;have y:=jA t;obtain ⟨X,Y,rfl,ak,aE,_⟩:=id x;have an:(bU vs l).length=l.length:=by unfold bU;simp [y]
 rw [an] at x ak ⊢;refine C4 5 [4,6,7,8,9] a Z<|Uv 1 Z fun R a=>UO [.int .i64 n,.slice none 0 0,.slice none 0 0] U8<|UP U5 fun d=>UG (j:=0) U12<|UA [4,6,7,8,9,10] a Z<|Uu 1 [4,6,7,8,9,10,11] Z<|G.nilArr 56 1<|UN (L':=[.arr (sB7 none 0 0) 56 1 0 ((List.replicate 0 (0:Rat)).map aZ).flatten,.obj d (.cells ⟨[.int .i64 n,.slice none 0 0,.slice none 0 0]⟩ 80 (0,0)),.obj c (.cells ⟨[.int .i64 0,.slice none 0 0,.slice none 0 0]⟩ 80 (0,0))]) Z<|G.loop (fun fr C' e z=>∃ (i:Nat)(g:Option Addr)(n1 k:Nat),(i<=n)/\fr=[(4,[],.pointer (some ⟨c,0,none⟩)),(6,[],.int .i64 n),(7,[],.int .i64 0),(8,[],.slice X l.length Y),(9,[],.int .i64 0),(10,[],.pointer (some ⟨d,0,none⟩)),(11,[],.int .i64 i)]/\e=[.arr (sB7 g n1 k) 56 1 i ((List.replicate i (0:Rat)).map aZ).flatten,.obj d (.cells ⟨[.int .i64 n,.slice none 0 0,.slice g n1 k]⟩ 80 (0,0)),.obj c (.cells ⟨[.int .i64 0,.slice none 0 0,.slice none 0 0]⟩ 80 (0,0))]/\z=n-i) (hn_ [4,6,7,8,9,10,11] Z) ⟨0,none,0,0,QT _,Z,Z,Z⟩ (fun fr aF aG m _ A=>?_);obtain ⟨i,g,n1,k,hi,rfl,rfl,rfl⟩:=A;refine Uu 3 [4,6,7,8,9,10,11,29] Z<|Ux (fun F=>?_) fun F=>?_
 ·have aa:i<n:=by
   have:=aJ F;omega
  refine Uv 1 Z fun R a=>UE ae U9<|UR [[ai [48]]] U12 fun aH _ _ ao=>UZ (j:=0) U11 ao.m_ Z ax (by show (i+1)*16<=_;omega) fl_ fun H I J=>Uy U6<|UG (j:=1) U12<|UA [4,6,7,8,9,10,11] a Z<|Uv 1 Z fun R a=>UF _ U7<|C4 1 [4,6,7,8,9,10,11] a Z<|G.perm (L':=[.arr (sB7 H I J) 56 1 (i+1) ((List.replicate (i+1) (0:Rat)).map aZ).flatten,.obj d (.cells ⟨[.int .i64 n,.slice none 0 0,.slice H I J]⟩ 80 (0,0)),.obj c (.cells ⟨[.int .i64 0,.slice none 0 0,.slice none 0 0]⟩ 80 (0,0))]) (by rw [FH];exact List.Perm.swap _ _ _)<|UH (m':=n-(i+1)) om_ mup (hn_ [4,6,7,8,9,10,11] Z) ⟨i+1,H,I,J,om_,Z,Z,Z⟩
 have aa:i=n:=by
  have:=QS F;omega
 subst aa;refine Uu 3 [4,7,9,10,37,38,39] Z<|G.freezeArr 0 ((List.replicate i (0:Rat)).map aZ) Z Z dM am (fun _ _ ab=>?_);obtain ⟨_,_,ap,_⟩:=id ab;cases ap
 refine G.nilArr 123 2<|UN (L':=[.arr (sA7 none 0 0) 123 2 0 (prC (vs.take 0) (l.take 0)).flatten,.obj d (.cells ⟨[.int .i64 i,.slice none 0 0,.slice g ((List.replicate i (0:Rat)).map aZ).length k]⟩ 80 (0,0)),.obj c (.cells ⟨[.int .i64 0,.slice none 0 0,.slice none 0 0]⟩ 80 (0,0))]) Z<|G.loop (fun fr C' e z=>∃ (q:Nat)(A2:Option Addr)(n2 c2:Nat),(q<=l.length)/\fr=[(4,[],.pointer (some ⟨c,0,none⟩)),(7,[],.int .i64 0),(9,[],.int .i64 0),(10,[],.pointer (some ⟨d,0,none⟩)),(37,[],.slice X l.length Y),(38,[],.int .i64 l.length),(39,[],.int .i64 q)]/\e=[.arr (sA7 A2 n2 c2) 123 2 q (prC (vs.take q) (l.take q)).flatten,.obj d (.cells ⟨[.int .i64 i,.slice A2 n2 c2,.slice g ((List.replicate i (0:Rat)).map aZ).length k]⟩ 80 (0,0)),.obj c (.cells ⟨[.int .i64 0,.slice none 0 0,.slice none 0 0]⟩ 80 (0,0))]/\z=l.length-q) (hn_ [4,7,9,10,37,38,39] Z) ⟨0,none,0,0,QT _,Z,Z,Z⟩ (fun fr aI aL m _ A=>?_);obtain ⟨q,A2,n2,c2,hq,rfl,rfl,rfl⟩:=A;refine Uu 1 [4,7,9,10,37,38,39,40] Z<|Ux (fun K=>?_) fun K=>?_
 ·have L:q<l.length:=by
   have:=aJ K;omega
  obtain ⟨s,M⟩:∃ s,l[q]?=some s:=⟨l[q],aj L⟩;obtain ⟨w,N⟩:∃ w,vs[q]?=some w:=⟨vs[q]'om_,aj om_⟩;have aq:=t.2 q w s.r N (by rw [QU,M];rfl);obtain ⟨Ax,ar,rfl,_⟩:=id aq;have au:=Bi y N M;refine Uz fun R a=>UK x.m_ U10 om_ (Lw N M) fl_ fun aM av=>Uw av U8<|UP U5 fun aN=>UG (j:=0) U12<|UA [4,7,9,10,13,37,38,39] a Z<|G.freeze 0 Z fun _ _ aw=>Uv 1 Z fun R a=>UE ae U9<|Uy U6<|Uw (bkT aw 2) U8<|UR [[.slice Ax (s.r.f.map fp).length ar,ai (qtx s.r.b)]] U12 fun aO _ _ ay=>UZ (j:=0) U11 ay.m_ Z ax (by show (q+1)*40<=_;omega) fl_ fun O Q S=>Uy U6<|UG (j:=1) U12<|UA [4,7,9,10,37,38,39] a Z<|Uz fun R a=>UF _ U7<|C4 1 [4,7,9,10,37,38,39] a Z<|G.perm (L':=[.arr (sA7 O Q S) 123 2 (q+1) (prC (vs.take (q+1)) (l.take (q+1))).flatten,.obj d (.cells ⟨[.int .i64 i,.slice O Q S,.slice g ((List.replicate i (0:Rat)).map aZ).length k]⟩ 80 (0,0)),.obj c (.cells ⟨[.int .i64 0,.slice none 0 0,.slice none 0 0]⟩ 80 (0,0))]) (by rw [au,Rz];exact List.Perm.swap _ _ _)<|UH (m':=l.length-(q+1)) om_ mup (hn_ [4,7,9,10,37,38,39] Z) ⟨q+1,O,Q,S,om_,Z,Z,Z⟩
 have L:q=l.length:=by
  have:=QS K;omega
 subst L;refine Uz fun R a=>UE ae U9<|UB 5 Z<|UU U8<|UG (j:=2) U12<|C4 1 [4,5] a Z ?_;rw [Re (show vs.length<=l.length by omega),Q2];refine G.freezeArr 1 (prC vs l) Z Z (FZ _ _) (by rw [prC,dy (by simp [y]),al]) fun _ _ az=>UJ (VF af U5 ?_);exact ⟨Z,_,_,Z,(AR (rows:=l.map SrcQ.r) (RowsOk.m_ t) az),ab.mono mup⟩
theorem pT (C:Mem)(m:Tabs C)(e f:Value)(B:Bk)(H:List Rat)(a:Nat->List RowQ)(l:List Nat)(g:BookIn C e B)(h:Calm B H a)(d:SetIn B.obs.length l)(I:Sl C 1 f (l.map aM)) :
  Gives cx.P 16 [e,f] C (.bool (bT B a l)):=by
 have ab:=g;have J:=h.rich.bookz m g;have u:=h.cnt d;have v:=fun (D:Mem)(i:C.le D)=>yA D e f B (bP (bH B) a l) (J.mono i) (by have:=h.n12;omega) (by unfold eZ at u;rw [al] at u;omega) (nj D (m.mono i) e f (g.mono i) h d (I.mono i));obtain ⟨n,o⟩:∃ n,bs B*bp B=n:=⟨_,rfl⟩;have K:=h.n12;have p:=h.rowsQ d;have w:=h.q22 d;have q:=h.lim d;obtain ⟨rows,s⟩:∃ rows,eZ B a l=rows:=⟨_,rfl⟩;have L:bT B a l=@decide (eL n (ka rows)).Hold (Classical.propDecidable _):=by
  unfold bT zz;rw [o,s]
 have M:(bP (bH B) a l).map SrcQ.r=rows:=s;rw [o,M] at v;rw [o] at p q K;rw [s] at p w q;obtain ⟨v1,v2,tv,cv,ov,rfl,_⟩:=id g.ex;have ac:maxLen<=9223372036854775807:=by simp [maxLen]
 refine UD func16 29 U3 fun w0=>Uz fun R b=>UQ U6 fun b2=>C4 1 [1,2] b Z<|G.freeze 0 Z fun _ _ N=>Uz fun R b=>Uw (bkT N 5) U8<|Uy U6<|Ve (v _ mup) U7 (fun ad _ _ O=>?_);obtain ⟨rv,ae,rfl,y,z⟩:=O;obtain ⟨_,_,_,Q⟩:=id y;obtain ⟨Ar,cr,rfl,_⟩:=id Q;obtain ⟨Ao,co,rfl,_⟩:=id z;refine UB 3 Z<|UP U5 fun b5=>UG (j:=0) U12<|C4 1 [5] b Z<|G.freeze 0 Z fun _ _ S=>Uz fun R b=>Uw (bkT S 3) U8<|U0 (Bp _ m.m_ n _ _ (ka rows) (List.replicate n 0) y.m_ z.m_ p (fun x T=>by rw [(List.mem_replicate.1 T).2];exact QB_zero.le dc_) w om_ am q) U7 fl_ (fun U _ _ V=>?_);have W:∃ (t:Value)(E:Option Addr)(nd F:Nat)(k:Bool),U=.tuple #[t,.agg ⟨[.slice E nd F]⟩,.bool k,.int .i64 0]/\bT B a l=k:=by
  rw [L];cases V with
  | yes pt t X _ _=>exact ⟨_,_,_,_,true,rfl,@Ra _ (Classical.propDecidable _) X⟩
  | no du vd Y h1 =>
   obtain ⟨A,c,rfl,_⟩:=id h1;exact ⟨_,_,_,_,false,Z,@Rj _ (Classical.propDecidable _) Y.not⟩
 obtain ⟨t,E,nd,F,k,rfl,aa⟩:=W;refine UB 5 Z<|UP U5 fun b8=>Uy U6<|UG (j:=0) U12<|C4 2 [9,10] b Z<|Uv 4 Z fun R b=>UU U8<|C4 1 [4] b Z<|UC U2 ?_;exact ⟨by rw [aa];cases k <;> rfl,Z⟩
theorem nW (h:OutL C vs outs)(j:Nat):∃ A c,vs.getD j (.slice none 0 0)=.slice A (outs.getD j []).length c/\Sl C 1 (.slice A (outs.getD j []).length c) ((outs.getD j []).map aM):=by
 by_cases a:j<vs.length
 ·have b:j<outs.length:=by rw [<- h.1];exact a
  have h1:vs[j]?=some (vs.getD j (.slice none 0 0)):=by rw [au,aj a];rfl
  have h2:outs[j]?=some (outs.getD j []):=by rw [au,aj b];rfl
  have hs:=h.2 j _ _ h1 h2;obtain ⟨A,c,e,_⟩:=id hs;rw [al] at e;rw [e] at hs;exact ⟨A,c,e,hs⟩
 have b:¬ j<outs.length:=by rw [<- h.1];exact a
 refine ⟨none,0, ?_, ?_⟩
 ·rw [au,QY om_,au,QY om_];rfl
 rw [au,QY om_];exact Sl.nil _ _
theorem Nm (h:OutL C vs outs):∀ v∈vs,lH v=true:=fun v b=>by
 obtain ⟨j,a⟩:=Sg b;have d:=(aD.1 a).1;have hs:=h.2 j v _ a (aj (by rw [<- h.1];exact d));obtain ⟨A,c,rfl,_⟩:=id hs;rfl
theorem row1 :(vs.map fun v=>[v]).flatten=vs:=by
 induction vs with
 | nil=>rfl
 | cons v vs a=>simp [a]
theorem mU (h:∀ v∈vs,lH v=true):(vs.map fun x=>[x]).all (fun r=>r.all lH)=true:=by
 rw [Q4];intro r hr;obtain ⟨v,a,rfl⟩:=QX.1 hr;rw [List.all_cons,h v a];rfl
theorem Bt {w:Value}(a:k<vs.length)(h:vs.getD k (.slice none 0 0)=w):(vs.map fun x=>[x])[k]?=some [w]:=by
 rw [QU,aj a];rw [au,aj a] at h;cases h
 rfl
theorem JN {s:List Nat}(h:OutL C vs outs)(b:Sl C 1 v (s.map aM))(d:k<=outs.length):OutL C (vs.take k++[v]++vs.drop k) (outs.take k++[s]++outs.drop k):=by
 have c:=h.1;refine ⟨by simp [c],fun j w o h1 h2=>?_⟩;rw [Rk] at h1 h2;rcases Nat.lt_trichotomy j k with a | a | a
 ·rw [RI ap,Rx,aW a] at h1 h2;exact h.2 j w o h1 h2
 ·subst a;rw [Ro ap] at h1 h2;rw [show j-(vs.take j).length=0 by simp;omega] at h1;rw [show j-(outs.take j).length=0 by simp;omega] at h2;cases h1
  cases h2
  exact b
 rw [Ro ap] at h1 h2;rw [show j-(vs.take k).length=(j-1-k)+1 by simp;omega,List.singleton_append,SF,List.getElem?_drop] at h1;rw [show j-(outs.take k).length=(j-1-k)+1 by simp;omega,List.singleton_append,SF,List.getElem?_drop] at h2;exact h.2 _ w o h1 h2
theorem J2 (C:Mem)(n:Nat)(U:n<4):Pur cx.P 14 [.int .i64 n] C fun u D=>OutsIn D u ((bQ n).map aV):=by
 have aX:maxLen<=9223372036854775807:=by simp [maxLen]
 have h8:2 ^ n<=8:=by
  have:∀ n<4,2 ^ n<=8:=by decide
  exact this n U
 refine UD func14 76 U3 fun w0=>?_;refine Uu 1 [0] Z ?_;refine Uu 1 [0,3] Z ?_;refine Uu 1 [0,3,4] Z ?_;refine G.loop (fun fr C' f p=>∃ (i:Nat)(N:Value)(vs:List Value),(i<=n+1/\OutL C' vs ((List.range i).foldl (MU n) [])/\Sl C' 1 N (vs.map fun x=>[x]))/\fr=[(0,[],.int .i64 n),(3,[],N),(4,[],.int .i64 i)]/\f=[]/\p=n+1-i) (hn_ [0,3,4] Z) ⟨0,.slice none 0 0,[],⟨QT _,OutL.nil _,Sl.nil _ _⟩,Z,Z,Z⟩ (fun fr aY aZ m _ s=>?_);obtain ⟨i,N,vs,⟨hi,V,ai⟩,rfl,rfl,rfl⟩:=s;refine Uu 3 [0,3,4,11] Z ?_;refine Ux (fun W=>?_) fun W=>?_
 ·have a0:i<=n:=by
   have:=aJ W;omega
  have aA:=CC n i;have a1:i*2 ^ n<=3*8:=SA om_ h8;have aj:(List.range (i+1)).foldl (MU n) []=(List.range (2 ^ n)).foldl (lm i) ((List.range i).foldl (MU n) []):=mQ;obtain ⟨A,aB⟩:∃ A,(List.range i).foldl (MU n) []=A:=⟨_,rfl⟩;rw [aB] at V aA aj;refine Uu 1 [0,3,4,5] Z ?_;refine G.loop (fun fr C' f p=>∃ (b:Nat)(O:Value)(ws:List Value),(b<=2 ^ n/\OutL C' ws ((List.range b).foldl (lm i) A)/\Sl C' 1 O (ws.map fun x=>[x]))/\fr=[(0,[],.int .i64 n),(3,[],O),(4,[],.int .i64 i),(5,[],.int .i64 b)]/\f=[]/\p=2 ^ n-b) (hn_ [0,3,4,5] Z) ⟨0,N,vs,⟨QT _,V.mono mup,ai.mono mup⟩,Z,Z,Z⟩ (fun fr a2 a3 m _ s=>?_);obtain ⟨b,O,ws,⟨hb,B,z⟩,rfl,rfl,rfl⟩:=s;refine Uv 2 Z fun R a=>?_;refine V4 (n) Z Z Z Z Z Z (by first | exact .inl Z | exact .inr Z) Z om_ Z Z ?_;refine C4 1 [0,3,4,5,17] a Z ?_;refine Ux (fun X=>?_) fun X=>?_
  ·have aC:b<2 ^ n:=by
    have:=aJ X;omega
   have ak:=tR (List.range b) i A;rw [RL] at ak;have Y:(List.range (b+1)).foldl (lm i) A=lm i ((List.range b).foldl (lm i) A) b:=mQ;obtain ⟨g,aD⟩:∃ g,(List.range b).foldl (lm i) A=g:=⟨_,rfl⟩;rw [aD] at B ak Y;have aE:ws.length=g.length:=B.1;obtain ⟨A3,E,rfl,aF,a4,_⟩:=id z;rw [al] at z aF ⊢;refine Uu 1 [0,3,4,5,6] Z ?_;refine Uu 1 [0,3,4,5,6,7] Z ?_;refine G.nilArr 3 1 ?_;refine G.loop (fun fr C' f p=>∃ (j:Nat)(d:Option Addr)(n1 e:Nat),(j<=n)/\fr=[(0,[],.int .i64 n),(3,[],.slice A3 ws.length E),(4,[],.int .i64 i),(5,[],.int .i64 b),(6,[],.slice d n1 e),(7,[],.int .i64 j)]/\f=[.arr (.slice d n1 e) 3 1 ((List.range j).filter fun q=>b.testBit q).length ((((List.range j).filter fun q=>b.testBit q)).map aM).flatten]/\p=n-j) (hn_ [0,3,4,5,6,7] Z) ⟨0,none,0,0,QT _,Z,Z,Z⟩ (fun fr a5 a6 m _ s=>?_);obtain ⟨j,d,n1,e,hj,rfl,rfl,rfl⟩:=s;refine Uu 3 [0,3,4,5,6,7,22] Z ?_;refine Ux (fun aa=>?_) fun aa=>?_
   ·have a7:j<n:=by
     have:=aJ aa;omega
    have a8:((List.range j).filter fun q=>b.testBit q).length<=j:=by
     have:=R5 (fun q=>b.testBit q) (List.range j)
     rwa [RL] at this
    have Q:=BT (b:=b) (j:=j);have a9:=RR b (2 ^ j);refine Uv 2 Z fun R a=>?_;refine WS (b) (j) Z Z Z Z Z Z Z Z om_ Z Z ?_;refine Wm (b / 2 ^ j) (1) Z Z Z Z Z Z Z Z om_ om_ Z Z ?_;refine C4 1 [0,3,4,5,6,7,29] a Z ?_;refine Ux (fun ab=>?_) fun ab=>?_
    ·have ac:b.testBit j=true:=by
      rw [<- vh,<- kL];exact ab
     rw [ac,aW rfl] at Q;refine Uv 2 Z fun R a=>?_;refine UR [[.int .i64 j]] U12 (fun ba _ _ aG=>?_);refine UZ (j:=0) U11 aG Z ax (by show (((List.range j).filter fun q=>b.testBit q).length+1)*8<=_;omega) fl_ (fun am an ao=>?_);refine C4 1 [0,3,4,5,6,7] a Z ?_;refine Uv 1 Z fun R a=>?_;refine UF _ U7 ?_;refine C4 1 [0,3,4,5,6,7] a Z ?_;refine UN (L':=[.arr (.slice am an ao) 3 1 ((List.range (j+1)).filter fun q=>b.testBit q).length ((((List.range (j+1)).filter fun q=>b.testBit q)).map aM).flatten]) (by rw [Q,Ru,Rz,QV];rfl) ?_;refine UH (m':=n-(j+1)) om_ mup (hn_ [0,3,4,5,6,7] Z) ⟨j+1,am,an,ao,om_,Z,Z,Z⟩
    have ac:b.testBit j=false:=by
     rw [<- vh,<- kL];exact ab
    rw [ac,az dc_,Rf] at Q;refine Uv 1 Z fun R a=>?_;refine UF _ U7 ?_;refine C4 1 [0,3,4,5,6,7] a Z ?_;refine UN (L':=[.arr (.slice d n1 e) 3 1 ((List.range (j+1)).filter fun q=>b.testBit q).length ((((List.range (j+1)).filter fun q=>b.testBit q)).map aM).flatten]) (by rw [Q]) ?_;refine UH (m':=n-(j+1)) om_ mup (hn_ [0,3,4,5,6,7] Z) ⟨j+1,d,n1,e,om_,Z,Z,Z⟩
   have aH:n=j:=by
    have:=QS aa;omega
   subst aH;rw [H6 n U b aC];refine Wf af (fun _ _ aI _=>?_);cases aI
   refine Uu 4 [0,3,4,5,6,37] Z ?_;refine Ux (fun ad=>?_) fun ad=>?_
   ·have ae:(aV b).length=i:=by
     have:((aV b).length:Int)=i:=by simpa using ad
     omega
    refine G.freezeArr 0 ((aV b).map aM) Z Z (fc _) (al _) (fun _ _ aq=>?_);refine Uu 3 [0,3,4,5,6,8] Z ?_;refine G.loop (fun fr C' f p=>∃ (k:Nat),(k<=g.length/\Dt g (aV b) g.length=Dt g (aV b) k)/\fr=[(0,[],.int .i64 n),(3,[],.slice A3 ws.length E),(4,[],.int .i64 i),(5,[],.int .i64 b),(6,[],.slice d (aV b).length e),(8,[],.int .i64 k)]/\f=[]/\p=k+k) (hn_ [0,3,4,5,6,8] Z) ⟨ws.length,⟨by omega,by rw [aE]⟩,Z,Z,Z⟩ (fun fr bb bc m _ s=>?_);obtain ⟨k,⟨hk,hp⟩,rfl,rfl,rfl⟩:=s;obtain ⟨Aw,cw,ar,aL⟩:=nW B (k-1);refine Uv 5 Z fun R a=>?_;refine UF _ U7 ?_;refine D.index U10 (fun H=>⟨z.mono mup,(by have h:decide ((k:Int) > 0)=true:=H.1;have:=aJ h;omega),(by have h:decide ((k:Int) > 0)=true:=H.1;have:=aJ h;rw [show ((k:Int)-1).toNat=k-1 by omega];exact Bt om_ ar)⟩) fl_ Z (fun bd aN=>?_);refine UY U6 aN U3 ?_;refine UB 3 Z ?_;refine UU U8 ?_;refine UB 4 Z ?_;refine UF _ U7 ?_;refine D.index U10 (fun H=>⟨z.mono mup,(by have h:(decide ((k:Int) > 0) && _)=true:=H.1;have:=aJ (R3.1 h).1;omega),(by have h:(decide ((k:Int) > 0) && _)=true:=H.1;have:=aJ (R3.1 h).1;rw [show ((k:Int)-1).toNat=k-1 by omega];exact Bt om_ ar)⟩) fl_ Z (fun be aO=>?_);refine UY U6 aO U3 ?_;refine UT (fun hG=>J6 _ _ _ (aV b) (g.getD (k-1) []) aq.m_ aL.m_ (by
     have h:(_ && (((g.getD (k-1) []).length:Int) == (i:Int)))=true:=hG.1;have:=eq_of_beq (R3.1 h).2;omega)) U9 ?_
    refine UU U8 ?_;refine UA [0,3,4,5,6,8,60] a Z ?_;refine Ux (fun h60=>?_) fun h60=>?_
    ·have S:0<k/\goE g (aV b) (k-1)=true:=by
      obtain ⟨ha,ag⟩:=R3.1 h60;obtain ⟨hc,hd⟩:=R3.1 ha;have h1:=aJ hc;have h2:=eq_of_beq hd;refine ⟨by omega,R3.2 ⟨Ra om_,ag⟩⟩
     refine Uv 1 Z fun R a=>?_;refine UF _ U7 ?_;refine C4 1 [0,3,4,5,6,8] a Z ?_;rw [show ((k:Int)-1)=((k-1:Nat):Int) by omega];refine UH (m':=(k-1)+(k-1)) om_ mup (hn_ [0,3,4,5,6,8] Z) ⟨k-1,⟨by omega,by rw [hp,M8 S.1 S.2]⟩,Z,Z,Z⟩
    have aP:Dt g (aV b) k=k:=F0 (fun bf=>by
     refine Bool.eq_false_iff.2 fun S=>?_;obtain ⟨ha,ag⟩:=R3.1 S;have h1:=aJ ha;refine Bool.eq_false_iff.1 h60 (R3.2 ⟨R3.2 ⟨Ra om_,Sr.2 om_⟩,ag⟩))
    rw [aP] at hp;have aQ:Pz g (aV b)=g.take k++[aV b]++g.drop k:=by unfold Pz;rw [hp]
    have T:=z.sub (l:=0) (h:=k) (m:=E) (QT _) (by rw [al];omega) om_ (QO _);have ah:=z.sub (l:=k) (h:=ws.length) (m:=E) om_ (by rw [al];omega) om_ (QO _);rw [R0] at T;have c:((ws.map fun x=>[x]).take k).length=k:=by rw [Q5,al];omega
    have t:(((ws.map fun x=>[x]).take ws.length).drop k).length=ws.length-k:=by rw [Sv,Q5,al];omega
    have F:=Nm B;refine G.cut (fun fr C' f p=>∃ (w:Value),(True)/\fr=[(0,[],.int .i64 n),(3,[],w),(4,[],.int .i64 i),(5,[],.int .i64 b)]/\f=[.arr w 50 1 (ws.length+1) (ws.take k++[.slice d (aV b).length e]++ws.drop k)]) ?_ (fun fr bg bh p bi s=>?_)
    ·refine Vp (.cut [1,2,3,5,8,9,10] (.alt 0 (.cut [] (.alt 4 (.fin [6,7,11,12]) (.alt 6 (.fin [4,7,11,12]) .stop))) (.alt 6 (.fin [0,4,7,11,12]) .stop))) [] Z Z kr_ (fun R hB a hH=>?_);refine UB 2 Z ?_;refine Vq 0 k E U12 (fun _=>⟨.inl ⟨Z,Z⟩,.inr ⟨_,Z⟩,.inl ⟨Z,Z⟩,by omega,by omega,QO _⟩) U2 ?_;refine UB 3 Z ?_;refine Vq k ws.length E U12 (fun _=>⟨.inr ⟨_,Z⟩,.inl ⟨Z,Z⟩,.inl ⟨Z,Z⟩,by omega,by omega,QO _⟩) U2 ?_;refine Vd hH Z ⟨?_, ?_,trivial⟩
     ·refine VA [] U12 fl_ (fun aR=>?_);refine Vd hH Z ⟨?_, ?_,trivial⟩
      ·refine D.append (j:=0) U11 T.m_ (by rw [<- SC];exact mU fun v o=>F v (List.take_subset _ _ o)) (by simp only [Q7,c,maxLen];omega) (by simp only [Q7,c];omega) fl_ (fun au=>?_);refine UR [[.slice d (aV b).length e]] U12 (fun av aw _ I=>?_);refine D.append (j:=0) U11 I.m_ Z (by simp only [Q7,c,aK,maxLen];omega) (by simp only [Q7,c,aK];omega) fl_ (fun ay=>?_);refine D.append (j:=0) U11 ah.m_ (by rw [Re (by rw [al];omega),<- List.map_drop];exact mU fun v o=>F v (List.drop_subset _ _ o)) (by simp only [Q7,c,t,aK,maxLen];omega) (by simp only [Q7,c,t,aK];omega) fl_ (fun J=>?_);refine C4 1 [0,3,4,5] a Z ?_;refine UN (L':=[.arr J 50 1 (ws.length+1) (ws.take k++[Value.slice d (aV b).length e]++ws.drop k)]) (by
        have K:(([]:List (List Value)).length+((ws.map fun x=>[x]).take k).length+([[Value.slice d (aV b).length e]]:List (List Value)).length+(((ws.map fun x=>[x]).take ws.length).drop k).length)=ws.length+1:=by
         rw [c,t];simp;omega
        have L:((ws.map fun x=>[x]).take k).flatten=ws.take k:=by rw [<- SC];exact row1
        have M:(((ws.map fun x=>[x]).take ws.length).drop k).flatten=ws.drop k:=by rw [Re (by rw [al];omega),<- List.map_drop];exact row1
        rw [K,L,M];rfl) ?_
       exact UL 0 mup (hn_ [0,3,4,5] Z) ⟨_,trivial,Z,Z⟩
      refine UR [[.slice d (aV b).length e]] U12 (fun av aw _ I=>?_);refine D.append (j:=0) U11 T.m_ (by rw [<- SC];exact mU fun v o=>F v (List.take_subset _ _ o)) (by simp only [Q7,c,maxLen];omega) (by simp only [Q7,c];omega) fl_ (fun au=>?_);refine D.append (j:=0) U11 I.m_ Z (by simp only [Q7,c,aK,maxLen];omega) (by simp only [Q7,c,aK];omega) fl_ (fun ay=>?_);refine D.append (j:=0) U11 ah.m_ (by rw [Re (by rw [al];omega),<- List.map_drop];exact mU fun v o=>F v (List.drop_subset _ _ o)) (by simp only [Q7,c,t,aK,maxLen];omega) (by simp only [Q7,c,t,aK];omega) fl_ (fun J=>?_);refine C4 1 [0,3,4,5] a Z ?_;refine UN (L':=[.arr J 50 1 (ws.length+1) (ws.take k++[Value.slice d (aV b).length e]++ws.drop k)]) (by
       have K:(([]:List (List Value)).length+((ws.map fun x=>[x]).take k).length+([[Value.slice d (aV b).length e]]:List (List Value)).length+(((ws.map fun x=>[x]).take ws.length).drop k).length)=ws.length+1:=by
        rw [c,t];simp;omega
       have L:((ws.map fun x=>[x]).take k).flatten=ws.take k:=by rw [<- SC];exact row1
       have M:(((ws.map fun x=>[x]).take ws.length).drop k).flatten=ws.drop k:=by rw [Re (by rw [al];omega),<- List.map_drop];exact row1
       rw [K,L,M];rfl) ?_
      exact UL 0 mup (hn_ [0,3,4,5] Z) ⟨_,trivial,Z,Z⟩
     refine UR [[.slice d (aV b).length e]] U12 (fun av aw _ I=>?_);refine VA [] U12 fl_ (fun aR=>?_);refine D.append (j:=0) U11 T.m_ (by rw [<- SC];exact mU fun v o=>F v (List.take_subset _ _ o)) (by simp only [Q7,c,maxLen];omega) (by simp only [Q7,c];omega) fl_ (fun au=>?_);refine D.append (j:=0) U11 I.m_ Z (by simp only [Q7,c,aK,maxLen];omega) (by simp only [Q7,c,aK];omega) fl_ (fun ay=>?_);refine D.append (j:=0) U11 ah.m_ (by rw [Re (by rw [al];omega),<- List.map_drop];exact mU fun v o=>F v (List.drop_subset _ _ o)) (by simp only [Q7,c,t,aK,maxLen];omega) (by simp only [Q7,c,t,aK];omega) fl_ (fun J=>?_);refine C4 1 [0,3,4,5] a Z ?_;refine UN (L':=[.arr J 50 1 (ws.length+1) (ws.take k++[Value.slice d (aV b).length e]++ws.drop k)]) (by
      have K:(([]:List (List Value)).length+((ws.map fun x=>[x]).take k).length+([[Value.slice d (aV b).length e]]:List (List Value)).length+(((ws.map fun x=>[x]).take ws.length).drop k).length)=ws.length+1:=by
       rw [c,t];simp;omega
      have L:((ws.map fun x=>[x]).take k).flatten=ws.take k:=by rw [<- SC];exact row1
      have M:(((ws.map fun x=>[x]).take ws.length).drop k).flatten=ws.drop k:=by rw [Re (by rw [al];omega),<- List.map_drop];exact row1
      rw [K,L,M];rfl) ?_
     exact UL 0 mup (hn_ [0,3,4,5] Z) ⟨_,trivial,Z,Z⟩
    obtain ⟨w,bj,rfl,rfl⟩:=s;refine Uv 1 Z fun R a=>?_;refine UF _ U7 ?_;refine C4 1 [0,3,4,5] a Z ?_;refine G.freezeArr 0 ((ws.take k++[Value.slice d (aV b).length e]++ws.drop k).map fun x=>[x]) rfl row1.symm (by intro r hr;obtain ⟨y,_,rfl⟩:=QX.1 hr;rfl) ap (fun Cm bk aS=>?_);refine UH (m':=2 ^ n-(b+1)) om_ mup (hn_ [0,3,4,5] Z) ⟨b+1,w,ws.take k++[Value.slice d (aV b).length e]++ws.drop k,⟨by omega,by rw [Y,lm,aW ae,aQ];exact JN B.m_ aq.m_ hk,aS⟩,Z,Z,Z⟩
   have ae:¬ (aV b).length=i:=by
    have:¬ ((aV b).length:Int)=i:=by simpa using ad
    omega
   refine Uv 1 Z fun R a=>?_;refine UF _ U7 ?_;refine C4 1 [0,3,4,5] a Z ?_;refine G.dropAll ?_;refine UH (m':=2 ^ n-(b+1)) om_ mup (hn_ [0,3,4,5] Z) ⟨b+1,.slice A3 ws.length E,ws,⟨by omega,by rw [Y,lm,az ae];exact B.mono mup,z.mono mup⟩,Z,Z,Z⟩
  have aT:b=2 ^ n:=by
   have:=QS X;omega
  subst aT;refine Uv 1 Z fun R a=>?_;refine UF _ U7 ?_;refine C4 1 [0,3,4] a Z ?_;refine UH (m':=n+1-(i+1)) om_ mup (hn_ [0,3,4] Z) ⟨i+1,O,ws,⟨by omega,by rw [aj];exact B.mono mup,z.mono mup⟩,Z,Z,Z⟩
 have aU:i=n+1:=by
  have:=QS W;omega
 subst aU;refine Uu 2 [2] Z ?_;refine UC U2 ?_;exact ⟨Z,vs,by rw [<- Ic n U];exact V.mono mup,ai.mono mup⟩
theorem JI:∀ n<4,∀ x<2 ^ n,∀ s<2 ^ n,Dv (aV x) (aV s)=(x &&& s == x):=by decide +kernel
theorem GY (C:Mem)(hT:Tabs C)(H:Value)(B:Bk)(I:List Rat)(b:Nat->List RowQ)(o:BookIn C H B)(h:Calm B I b)(ae:B.obs.length<=3) :
  Pur cx.P 23 [H] C fun u D=>OutsIn D u ((eB (hS B b) (bQ B.obs.length)).map aV):=by
 have aD:maxLen<=9223372036854775807:=by simp [maxLen]
 have aE:=o;obtain ⟨v1,v2,tv,cv,ov,rfl,g1,g2,g3,g4,g5⟩:=id o;obtain ⟨B5,d5,rfl,_⟩:=id g5;obtain ⟨n,J⟩:∃ n,B.obs.length=n:=⟨_,rfl⟩;simp only [al,J] at o ae ⊢;have ag:=oY n;have h8:2 ^ n<=8:=by
  have:∀ n<4,2 ^ n<=8:=by decide
  exact this n om_
 obtain ⟨F,f⟩:∃ F:Nat->List Nat,∀ i,F i=((bQ n).take i).foldl (eI (hS B b)) []:=⟨_,fun _=>rfl⟩;have ai:F 0=[]:=by rw [f,List.take_zero];rfl
 have K:∀ {i s},(bQ n)[i]?=some s->F (i+1)=eI (hS B b) (F i) s:=fun {i s} hs=>by rw [f,f,qm hs]
 have ak:∀ i,i<=2 ^ n->(F i).length<=8:=fun i hi=>by
  rw [f];have h1:=qF (h:=hS B b) ((bQ n).take i) [];rw [Q5] at h1;simp only [Q7] at h1;omega
 have am:∀ i,∀ x∈F i,x<2 ^ n:=fun i x c=>by
  rw [f] at c;rcases ml _ _ c with h1 | h1
  ·cases h1
  exact eS (RZ h1)
 have an:F (2 ^ n)=eB (hS B b) (bQ n):=by rw [f,Re om_];rfl
 refine UD func23 45 U3 fun w0=>Uz fun R a=>UQ U6 fun L=>C4 1 [1] a Z<|G.freeze 0 Z fun _ _ M=>Uu 1 [1,3] Z<|Uv 1 Z fun R a=>Uw (bkT M 1) U8<|Uy U6<|U0 (J2 _ n om_) U7 fl_ (fun aF _ _ ao=>?_);obtain ⟨vS,N,p⟩:=id ao;obtain ⟨O,Q,rfl,S,aG,_⟩:=id p;rw [al] at p S ⊢;have ap:vS.length=2 ^ n:=by rw [N.1,al,ag]
 rw [ap] at p S ⊢;refine C4 2 [1,3,12,13,14] a Z<|G.nilArr 50 1<|G.loop (fun fr C' q t=>∃ (i:Nat)(vs:List Value)(d:Option Addr)(n1 e:Nat),(i<=2 ^ n/\OutL C' vs ((F i).map aV))/\fr=[(1,[],.pointer (some ⟨L,0,none⟩)),(3,[],.slice d n1 e),(12,[],.slice O (2 ^ n) Q),(13,[],.int .i64 ((2 ^ n:Nat):Int)),(14,[],.int .i64 i)]/\q=[.arr (.slice d n1 e) 50 1 vs.length vs]/\t=2 ^ n-i) (hn_ [1,3,12,13,14] Z) ⟨0,[],none,0,0,⟨QT _,by rw [ai];exact OutL.nil _⟩,Z,Z,Z⟩ (fun fr aH aI m _ v=>?_);obtain ⟨i,vs,d,n1,e,⟨hi,k⟩,rfl,rfl,rfl⟩:=v;refine Uu 1 [1,3,12,13,14,15] Z<|Ux (fun w=>?_) fun w=>?_
 ·have T:i<2 ^ n:=by
   have:=aJ w;omega
  obtain ⟨s,hs⟩:∃ s,(bQ n)[i]?=some s:=⟨(bQ n)[i]'om_,aj om_⟩;have U:s<2 ^ n:=eS (QQ hs);have aL:vs.length=(F i).length:=by rw [k.1,al]
  have aM:=ak i om_;obtain ⟨l,cs,V,r⟩:=nW N i;have aq:((bQ n).map aV).getD i []=aV s:=by rw [au,QU,hs];rfl
  rw [aq] at V r;refine Uz fun R a=>UK p.m_ U10 om_ (Bt om_ V) fl_ fun aN ar=>Uw ar U8<|C4 1 [1,3,5,12,13,14] a Z<|Uu 1 [1,3,5,6,12,13,14] Z<|We 0 Z (fun A7 c7 e7 av _ _=>?_);cases e7
  refine Uu 3 [1,3,5,6,12,13,14,18,19,20] Z<|G.loop (fun fr C' q t=>∃ (j:Nat),(j<=vs.length)/\fr=[(1,[],.pointer (some ⟨L,0,none⟩)),(3,[],.slice d vs.length e),(5,[],.slice l (aV s).length cs),(6,[],.bool (((F i).take j).all fun x=>!(x &&& s == x))),(12,[],.slice O (2 ^ n) Q),(13,[],.int .i64 ((2 ^ n:Nat):Int)),(14,[],.int .i64 i),(18,[],.slice d vs.length e),(19,[],.int .i64 vs.length),(20,[],.int .i64 j)]/\q=[.arr (.slice d vs.length e) 50 1 vs.length vs]/\t=vs.length-j) (hn_ [1,3,5,6,12,13,14,18,19,20] Z) ⟨0,QT _,Z,Z,Z⟩ (fun fr aO aP m _ v=>?_);obtain ⟨j,hj,rfl,rfl,rfl⟩:=v;refine Uu 1 [1,3,5,6,12,13,14,18,19,20,21] Z<|Ux (fun y=>?_) fun y=>?_
  ·have W:j<vs.length:=by
    have:=aJ y;omega
   obtain ⟨x,c⟩:∃ x,(F i)[j]?=some x:=⟨(F i)[j]'om_,aj om_⟩;have aw:=am i x (QQ c);obtain ⟨X,Y,z,aa⟩:=nW k j;have ay:((F i).map aV).getD j []=aV x:=by rw [au,QU,c];rfl
   rw [ay] at z aa;obtain ⟨g7,rfl⟩:∃ g,d=some ⟨g,0,none⟩:=⟨_,av om_⟩;refine Uz fun R a=>Va (j*1) U10 ah U2<|Vn af U6 (fun _=>(show cA _ ((vs.drop (j*1)).take 1)=some (.slice X (aV x).length Y) from by rw [SK,Rh W];rw [au,aj W] at z;have az:vs[j]=.slice X (aV x).length Y:=z;rw [az];rfl)) U2<|C4 1 [1,3,5,6,8,12,13,14,18,19,20] a Z<|Uv 4 Z fun R a=>Vb (fun _=>(J4 _ _ _ (aV x) (aV s) aa.m_ r.m_)) U9<|Uy U6<|UU U8<|C4 1 [1,3,5,6,12,13,14,18,19,20] a Z ?_;rw [show (((F i).take j).all (fun x=>!(x &&& s == x)) && !Dv (aV x) (aV s))=((F i).take (j+1)).all (fun x=>!(x &&& s == x)) from by rw [JI n om_ x aw s U,Rm,c,Ty];simp];refine Uz fun R a=>UF _ U7<|C4 1 [1,3,5,6,12,13,14,18,19,20] a Z<|UH (m':=vs.length-(j+1)) om_ mup (hn_ [1,3,5,6,12,13,14,18,19,20] Z) ⟨j+1,om_,Z,Z,Z⟩
  have aA:j=vs.length:=by
   have:=QS y;omega
  subst aA;rw [Re om_];refine Uv 2 Z fun R a=>UY U6 (fun _=>PtrTo.blockT (Mem.get M mup) _ 5) U3<|Uy U6<|UT (fun _=>(pT _ hT.m_ _ _ B I b (aV s) o.m_ h (by rw [J];exact (zt om_ U).set) r.m_)) U9<|Uy U6<|UU U8<|UA [1,3,5,12,13,14,38] a Z<|Ux (fun A=>?_) fun A=>?_
  ·have E:eI (hS B b) (F i) s=F i++[s]:=by
    have h1:=(R3.1 A);have h2:bT B b (aV s)=false:=by simpa using h1.2
    have h2:hS B b s=false:=h2;have h3:((F i).any fun x=>x &&& s == x)=false:=by
     rw [List.any_eq_false];intro x c;have:=Q4.1 h1.1 x c;simpa using this
    unfold eI;rw [h2,h3];rfl
   refine Uv 2 Z fun R a=>UR [[.slice l (aV s).length cs]] U12 fun aQ _ _ aB=>UZ (j:=0) U11 aB Z ax (by show (vs.length+1)*24<=_;omega) fl_ fun ab ac ad=>C4 1 [1,3,12,13,14] a Z<|Uz fun R a=>UF _ U7<|C4 1 [1,3,12,13,14] a Z<|UN (L':=[.arr (.slice ab ac ad) 50 1 (vs++[Value.slice l (aV s).length cs]).length (vs++[Value.slice l (aV s).length cs])]) (by rw [QV];rfl)<|UH (m':=2 ^ n-(i+1)) om_ mup (hn_ [1,3,12,13,14] Z) ⟨i+1,vs++[Value.slice l (aV s).length cs],ab,ac,ad,⟨by omega,by rw [K hs,E,Ru];exact k.m_.snoc r.m_⟩,Z,Z,Z⟩
  have E:eI (hS B b) (F i) s=F i:=by
   unfold eI;refine aW ?_;have h1:=S7.1 A;rcases h1 with h1 | h1
   ·obtain ⟨x,c,h2⟩:=S3.1 h1;rw [Sm];exact .inl (Tg.2 ⟨x,c,by simpa using h2⟩)
   rw [Sm];have h2:bT B b (aV s)=true:=by simpa using h1
   exact .inr h2
  refine Uz fun R a=>UF _ U7<|C4 1 [1,3,12,13,14] a Z<|UH (m':=2 ^ n-(i+1)) om_ mup (hn_ [1,3,12,13,14] Z) ⟨i+1,vs,d,vs.length,e,⟨by omega,by rw [K hs,E];exact k.mono mup⟩,Z,Z,Z⟩
 have T:i=2 ^ n:=by
  have:=QS w;omega
 subst T;rw [<- an];exact G.freezeArr 0 (vs.map fun x=>[x]) Z (oF vs) (oE vs) (al _) fun _ _ aC=>Uu 2 [2] Z<|UC U2<|⟨Z,vs,k.mono mup,aC⟩
theorem AscIn.erase (h:AscIn n l)(i:Nat):AscIn n (l.eraseIdx i):=⟨fun j a=>h.lt j (List.mem_of_mem_eraseIdx a),h.up.sublist (List.eraseIdx_sublist ..)⟩
theorem sH (l:List Nat):(l.map aM).flatten=(l.map fun n:Nat=>(n:Int)).map fun x=>Value.int .i64 x:=by
 induction l with
 | nil=>rfl
 | cons x l a=>simp only [Rs,So,a];rfl
theorem xo (l:List α)(i:Nat):l.take i++l.drop (i+1)=l.eraseIdx i:=(List.eraseIdx_eq_take_drop_succ l i).symm
theorem yC (C:Mem)(v:Value)(l:List Nat)(i:Nat)(j:i<l.length)(a:Sl C 1 v (l.map aM))(k:l.length<=1000) :
  Pur cx.P 48 [v,.int .i64 i] C fun u D=>Sl D 1 u ((l.eraseIdx i).map aM):=by
 have m:maxLen<=9223372036854775807:=by simp [maxLen]
 refine UD func48 11 U3 fun w0=>Uu 1 [0,1] Z<|UW [(1,3),(5,3)] Z fun R b=>Uy U6<|D.call (HQ _ _ l a.m_ om_) Z (.inr dc_) U6 (QW _) fl_ (fun o _ p _ c=>?_);obtain ⟨d,e,f,rfl,rfl⟩:=c;refine UB 2 Z<|Vf (((i+1:Nat):Int)) U4 om_ om_ om_ U2<|D.call (xm Tryz.delInt _ (.slice d e f) 3 (l.map fun n:Nat=>(n:Int)) i (i+1) om_ ap ap kr_) Z (.inr dc_) U6 (List.Perm.of_eq (show _=_++([]:List Ent) from by rw [sH,al])) fl_ (fun q _ r _ g=>?_);subst g;exact C4 1 [4] b Z<|G.freezeArr 0 ((l.eraseIdx i).map aM) Z (by rw [<- SC,<- List.map_drop,<- Ru,xo,sH]) (fc _) (by rw [<- SC,<- List.map_drop,<- Ru,xo,al,al]) fun _ _ h=>UC U2<|⟨Z,h⟩
noncomputable def BM (B:Bk)(RO:Nat->List RowQ)(l:List Nat):Bool:=!bT B RO l && (List.range l.length).all fun i=>bT B RO (l.eraseIdx i)
theorem Px (C:Mem)(r:Tabs C)(s t:Value)(B:Bk)(g:List Rat)(b:Nat->List RowQ)(l:List Nat)(c:BookIn C s B)(h:Calm B g b)(j:AscIn B.obs.length l)(d:Sl C 1 t (l.map aM)) :
  Gives cx.P 24 [s,t] C (.tuple #[.bool (BM B b l),.int .i64 0]):=by
 have u:=c;have J:maxLen<=9223372036854775807:=by simp [maxLen]
 have K:l.length<=12:=Rb j.set.len h.ob;obtain ⟨L,M,N,O,Q,rfl,_⟩:=id c.ex;obtain ⟨x,y,rfl,z,S,_⟩:=id d;simp only [al] at d z ⊢;refine UD func24 44 U3 fun w0=>?_;refine Uz fun R a=>?_;refine UQ U6 (fun A=>?_);refine C4 2 [1,2] a Z ?_;clear a R;refine G.freeze 0 Z (fun _ _ v=>?_);refine Uz fun R a=>?_;refine Uw (bkT v 5) U8 ?_;refine Uy U6 ?_;refine UI (ow _ r.m_ _ _ B g b l u.m_ h j d.m_) U7 ?_;refine C4 5 [1,2,6,7] a Z ?_;clear a R;refine Uv 4 Z fun R a=>?_;refine U1 U8 ?_;refine UA [1,2,7,21] a Z ?_;clear a R;refine Ux (fun n=>?_) fun n=>?_
 ·refine Uu 3 [4,5] Z ?_;refine UJ (G.dropAll (UX U3 ?_));have e:BM B b l=false:=by
   have h2:bT B b l=true:=by simpa using n
   unfold BM;rw [h2];rfl
  exact ⟨by rw [e],Z⟩
 have D:bT B b l=false:=by simpa using n
 refine Uu 3 [1,2,24,25] Z ?_;refine G.loop (fun fr C' E F=>∃ (i:Nat),(i<=l.length/\∀ k,k<i->bT B b (l.eraseIdx k)=true)/\fr=[(1,[],.slice x l.length y),(2,[],.pointer (some ⟨A,0,none⟩)),(24,[],.int .i64 l.length),(25,[],.int .i64 i)]/\E=[]/\F=l.length-i) (hn_ [1,2,24,25] Z) ⟨0,⟨QT _,fun k o=>by omega⟩,Z,Z,Z⟩ (fun fr T U m _ H=>?_);obtain ⟨i,⟨V,w⟩,rfl,rfl,rfl⟩:=H;refine Uu 1 [1,2,24,25,26] Z ?_;refine Ux (fun p=>?_) fun p=>?_
 ·have f:i<l.length:=by
   have:=aJ p;omega
  refine Uu 2 [1,2,8,24,25] Z ?_;refine US [0,1,2,3,4,5,6,7,8,9] [(4,1),(0,0)] Z kr_ (fun R c a=>?_);refine Vx (fun _=>((bkT v 5).mono c)) U9 ?_;refine UB 2 Z ?_;refine U0 (yC _ _ l i f d.m_ om_) U7 fl_ (fun W _ _ I=>?_);refine Vb (fun _=>(og _ r.m_ _ _ B g b (l.eraseIdx i) u.m_ h (j.erase i).set I.m_)) U9 ?_;refine UB 5 Z ?_;refine UA [1,2,9,10,24,25] a Z ?_;clear a c R;refine Uv 5 Z fun R a=>?_;refine U1 U8 ?_;refine UA [1,2,10,24,25,41] a Z ?_;clear a R;refine Ux (fun q=>?_) fun q=>?_
  ·refine Uu 3 [4,5] Z ?_;refine UJ (G.dropAll (UX U3 ?_));have e:BM B b l=false:=by
    have h2:bT B b (l.eraseIdx i)=false:=by simpa using q
    unfold BM;rw [S7];exact .inr (S3.2 ⟨i,Q9.2 f,by rw [h2];decide⟩)
   exact ⟨by rw [e],Z⟩
  have h2:bT B b (l.eraseIdx i)=true:=by simpa using q
  refine Uz fun R a=>?_;refine UF _ U7 ?_;refine C4 1 [1,2,24,25] a Z ?_;clear a R;refine UH (m':=l.length-(i+1)) om_ mup (hn_ [1,2,24,25] Z) ⟨i+1,⟨by omega,fun k o=>by
   rcases Rr k i with h1 | h1
   ·exact w k h1
   rw [show k=i by omega];exact h2⟩,rfl,rfl,rfl⟩
 have f:i=l.length:=by
  have:=QS p;omega
 subst f;refine Uu 2 [4,5] Z ?_;refine UJ (G.dropAll (UX U3 ?_));have e:BM B b l=true:=by
  unfold BM;rw [D];exact Q4.2 fun k o=>w k (Q9.1 o)
 exact ⟨by rw [e],Z⟩
def tV (f:List Nat->Bool):List Nat->List Nat->List Nat
 | K,[]=>K
 | K,x::r=>if f (K++r) then tV f (K++[x]) r else tV f K r
def RedO (B:Bk)(RO:Nat->List RowQ)(l:List Nat)(D:Mem)(u:Value):Prop :=
 (bT B RO l=true/\u=.tuple #[.slice none 0 0,.bool false,.int .i64 0])∨(bT B RO l=false/\∃ v,u=.tuple #[v,.bool true,.int .i64 0]/\Sl D 1 v ((tV (bT B RO) [] l).map aM))
theorem FI (C:Mem)(t:Tabs C)(v w:Value)(B:Bk)(i:List Rat)(b:Nat->List RowQ)(l:List Nat)(d:BookIn C v B)(h:Calm B i b)(k:AscIn B.obs.length l)(y:Sl C 1 w (l.map aM)) :
  Pur cx.P 27 [v,w] C fun u D=>RedO B b l D u:=by
 have z:=d;have ad:maxLen<=9223372036854775807:=by simp [maxLen]
 have ae:l.length<=12:=Rb k.set.len h.ob;obtain ⟨v1,v2,tv,cv,ov,rfl,_⟩:=id d.ex;refine UD func27 49 U3 fun w0=>Uz fun R a=>UQ U6 fun M=>C4 3 [1,2] a Z<|G.freeze 0 Z fun _ _ A=>Uz fun R a=>Uw (bkT A 5) U8<|Uy U6<|UI (ow _ t.m_ _ _ B i b l z.m_ h k y.m_) U7<|C4 5 [1,2,6,7] a Z<|Uv 4 Z fun R a=>U1 U8<|UA [1,2,6,21] a Z<|Ux (fun n=>?_) fun n=>?_
 ·refine Uu 4 [4,5,6] Z<|UJ (G.dropAll (Vv U4 ?_));have h2:bT B b l=true:=by simpa using n
  exact ⟨Z,.inl ⟨h2,Z⟩⟩
 have N:bT B b l=false:=by simpa using n
 refine UW [(1,3)] Z fun R a=>Uy U6<|D.call (HQ _ _ l y.m_ om_) Z (.inr dc_) U6 (QW _) fl_ (fun af _ ag _ O=>?_);obtain ⟨ah,ai,ak,rfl,rfl⟩:=O;refine C4 1 [2,4] a Z<|G.freezeArr 0 (l.map aM) Z Z (fc _) (al _) fun _ _ Q=>Uu 1 [2,4,8] Z<|G.loop (fun fr C' S T=>∃ (j:Nat)(K:List Nat)(o:Value),(j<=l.length/\tV (bT B b) K (l.drop j)=tV (bT B b) [] l/\AscIn B.obs.length (K++l.drop j)/\Sl C' 1 o ((K++l.drop j).map aM))/\fr=[(2,[],.pointer (some ⟨M,0,none⟩)),(4,[],o),(8,[],.int .i64 K.length)]/\S=[]/\T=l.length-j) (hn_ [2,4,8] Z) ⟨0,[],_,⟨QT _,Z,k,Q⟩,Z,Z,Z⟩ (fun fr am an m _ U=>?_);obtain ⟨j,K,o,⟨hj,e,f,c⟩,rfl,rfl,rfl⟩:=U;obtain ⟨V,W,rfl,X,ao,_⟩:=id c;rw [al] at c X ⊢;refine Uu 4 [2,4,8,28] Z<|Ux (fun p=>?_) fun p=>?_
 ·have g:j<l.length:=by
   have:=aJ p;rw [QV,Sv] at this;omega
  obtain ⟨x,Y⟩:∃ x,l[j]?=some x:=⟨l[j],aj g⟩;have E:l.drop j=x::l.drop (j+1):=by rw [Rh g,(aD.1 Y).2]
  obtain ⟨r,hr⟩:∃ r,l.drop (j+1)=r:=⟨_,rfl⟩;have ap:r.length=l.length-(j+1):=by rw [<- hr,Sv]
  rw [hr] at E;rw [E] at e f c ⊢;have q:(K++x::r).eraseIdx K.length=K++r:=by rw [List.eraseIdx_append_of_length_le (QO _),SZ];rfl
  have F:AscIn B.obs.length (K++r):=by rw [<- q];exact f.erase _
  have aq:(K++x::r).length<=12:=Rb f.set.len h.ob;have H:K.length<(K++x::r).length:=by rw [QV,Q8];omega
  refine US [0,1,2,3,4,5,6,7,8,9] [(4,1),(0,0)] Z kr_ fun R d a=>Vx (fun _=>((bkT A 5).mono d)) U9<|UB 2 Z<|U0 (yC _ _ (K++x::r) K.length H c.m_ om_) U7 fl_ (fun ar _ _ I=>?_);rw [q] at I;refine Vb (fun _=>(og _ t.m_ _ _ B i b (K++r) z.m_ h F.set I.m_)) U9<|UB 5 Z<|UA [2,4,8,9,10] a Z ?_;clear a d R;refine Uu 3 [2,4,8,9,10,40] Z<|Ux (fun J=>?_) fun J=>?_
  ·exact absurd J dc_
  refine Uu 2 [2,4,8,44] Z<|Ux (fun s=>?_) fun s=>?_
  ·have aa:bT B b (K++r)=true:=s;refine Uv 1 Z fun R a=>Vf (((K.length+1:Nat):Int)) U4 om_ om_ om_ U2<|C4 1 [2,4,8] a Z ?_;rw [show ((K.length+1:Nat):Int)=((K++[x]).length:Int) by rw [QV];rfl];refine UH (m':=l.length-(j+1)) om_ mup (hn_ [2,4,8] Z) ⟨j+1,K++[x],(.slice V (K++x::r).length W),⟨by omega,by rw [hr,<- e];simp only [tV,aW aa],by rw [hr,Rk];exact f,by rw [hr,Rk];exact c.mono mup⟩,Z,Z,Z⟩
  have ab:¬ bT B b (K++r)=true:=by rw [s];decide
  refine Uv 2 Z fun R a=>U0 (yC _ _ (K++x::r) K.length H c.m_ om_) U7 fl_ (fun ac _ _ L=>?_);rw [q] at L;refine C4 1 [2,4,8] a Z<|UH (m':=l.length-(j+1)) om_ mup (hn_ [2,4,8] Z) ⟨j+1,K,ac,⟨by omega,by rw [hr,<- e];simp only [tV,az ab],by rw [hr];exact F,by rw [hr];exact L.mono mup⟩,Z,Z,Z⟩
 have g:j=l.length:=by
  have:=QS p;rw [QV,Sv] at this;omega
 subst g;rw [RM,Rf] at c ⊢;rw [RM] at e;refine Uu 4 [4,5,6] Z<|UJ (G.dropAll (Vv U4 ?_));exact ⟨Z,.inr ⟨N,_,Z,by rw [<- e];exact c.mono mup⟩⟩
section
variable {B:Bk} {RO:Nat->List RowQ}
theorem Kj {l m:List Nat}(h:∀ x∈m,x∈l)(a:bT B RO l=true):bT B RO m=true:=by
 have h1:zz B RO l:=@aJ _ (Classical.propDecidable _) a;obtain ⟨y,hy⟩:=lW.1 h1;refine BO (lW.2 ⟨y,fun r hr=>hy r ?_⟩);rw [lC] at hr ⊢;rcases Q6.1 hr with hr | hr
 ·exact Q6.2 (.inl hr)
 obtain ⟨i,b,hr⟩:=List.mem_flatMap.1 hr;exact Q6.2 (.inr (List.mem_flatMap.2 ⟨i,h i b,hr⟩))
theorem H5:∀ n<4,∀ s<2 ^ n,∀ x<2 ^ n,x &&& s=x->((aV x).all fun i=>(aV s).contains i)=true:=by decide +kernel
theorem K4 {n s x:Nat}(a:n<4)(b:s<2 ^ n)(c:x<2 ^ n)(e:x &&& s=x):∀ i∈aV x,i∈aV s:=fun i d=>TE.1 (Q4.1 (H5 n a s b x c e) i d)
theorem K6:∀ n<4,∀ s<2 ^ n,∀ x<2 ^ n,aV x=aV s->x=s:=by decide +kernel
theorem Nx {n:Nat}(a:n<4):QM n (hS B RO):=fun _c _d hs b e h=>Kj (K4 a hs b e) h
theorem Kg {n s:Nat}(a:n<4)(b:s<2 ^ n):BM B RO (aV s)=(eB (hS B RO) (bQ n)).contains s:=by
 rw [<- G3 a (Nx (B:=B) (RO:=RO) a) b];unfold BM Ov;show (!hS B RO s && _)=_;congr 1;rw [Tz,Q4,Q4];refine forall_congr' fun i=>forall_congr' fun c=>?_;show _ ↔ bT B RO (aV (KS ((aV s).eraseIdx i)))=true;rw [(sT n a s b i (Q9.1 c)).1]
theorem CB {n s:Nat}(a:n<4)(b:s<2 ^ n):∀ {l:List Nat},(∀ x∈l,x<2 ^ n)->((l.map aV).any fun c=>decide (c=aV s))=l.contains s
 | [],_=>rfl
 | x::l,h=>by
  rw [Rs,List.any_cons,CB a b fun y hy=>h y (Q0 _ hy),List.contains_cons];congr 1;have h1:=K6 n a s b x (h x Qb);by_cases e:x=s
  ·subst e;simp
  rw [Rj (fun h=>e (h1 h))];exact (RT.2 fun h=>e h.symm).symm
end
theorem PF {K r:List Nat}(h:(K++x::r).Nodup):(K++x::r).filter (fun y=>y != x)=K++r:=by
 have h1:=Sy.1 h;have h2:=TV.1 h1.2.1;rw [Si,List.filter_cons,az am];congr 1
 ·exact List.filter_eq_self.2 fun y hy=>by simpa using h1.2.2 y hy x Qb
 exact List.filter_eq_self.2 fun y hy=>by simpa using fun e:y=x=>h2.1 (e ▸ hy)
theorem Hl {q:Nat}(h:l[q]?=some y):(l.take (q+1)).filter p=(l.take q).filter p++(if p y then [y] else []):=by
 rw [Rm,h,Si];congr 1;simp only [R6,List.filter_cons,List.filter_nil]
theorem O7 {D:Mem}(h:RedO B RO l D u):∃ A n c,u=.tuple #[.slice A n c,.bool (!bT B RO l),.int .i64 0]/\(bT B RO l=true->n=0)/\(bT B RO l=false->Sl D 1 (.slice A n c) ((tV (bT B RO) [] l).map aM)):=by
 rcases h with ⟨h1,rfl⟩ | ⟨h1,v,rfl,hs⟩
 ·refine ⟨none,0,0,by rw [h1];rfl,fun _=>rfl,fun h=>?_⟩;rw [h1] at h;cases h
 obtain ⟨A,c,rfl,_⟩:=id hs;refine ⟨A,_,c,by rw [h1];rfl,fun h=>?_,fun _=>hs⟩;rw [h1] at h;cases h
theorem K5:∀ n<4,∀ b<256,(List.range n).filter (fun q=>b.testBit q)=aV (b % 2 ^ n):=by decide +kernel
theorem NC (C:Mem)(b n:Nat)(r:b<256)(s:n<4):Pur cx.P 26 [.int .u8 b,.int .i64 n] C fun u D=>Sl D 1 u ((aV (b % 2 ^ n)).map aM):=by
 have z:maxLen<=9223372036854775807:=by simp [maxLen]
 refine UD func26 26 U3 fun w0=>Uu 1 [0,1] Z<|Uu 1 [0,1,5] Z<|Uu 1 [0,1,5,6] Z<|G.nilArr 3 1<|G.loop (fun fr C' f t=>∃ (j:Nat)(c:Option Addr)(n1 d:Nat),(j<=n)/\fr=[(0,[],.int .u8 b),(1,[],.int .i64 n),(5,[],.slice c n1 d),(6,[],.int .i64 j)]/\f=[.arr (.slice c n1 d) 3 1 ((List.range j).filter fun q=>b.testBit q).length ((((List.range j).filter fun q=>b.testBit q)).map aM).flatten]/\t=n-j) (hn_ [0,1,5,6] Z) ⟨0,none,0,0,QT _,Z,Z,Z⟩ (fun fr A B m _ v=>?_);obtain ⟨j,c,n1,d,E,rfl,rfl,rfl⟩:=v;refine Uv 6 Z fun R a=>UU U8<|UA [0,1,5,6,13] a Z<|Ux (fun g=>?_) fun g=>?_
 ·have F:j<n:=by
   have:=aJ (R3.1 g).1;omega
  have H:((List.range j).filter fun q=>b.testBit q).length<=j:=by
   have:=R5 (fun q=>b.testBit q) (List.range j)
   rwa [RL] at this
  have e:=BT (b:=b) (j:=j);have I:=RR b (2 ^ j);refine Uv 2 Z fun R a=>WT (b) (j) Z Z Z Z Z Z Z Z om_ Z Z<|WR (b / 2 ^ j) (1) Z Z Z Z Z Z Z Z om_ om_ Z Z<|C4 1 [0,1,5,6,20] a Z<|Ux (fun i=>?_) fun i=>?_
  ·have k:b.testBit j=true:=by
    rw [<- vh,<- kL];exact i
   rw [k,aW rfl] at e;refine Uv 2 Z fun R a=>UR [[.int .i64 j]] U12 fun J _ _ w=>UZ (j:=0) U11 w Z ax (by show (((List.range j).filter fun q=>b.testBit q).length+1)*8<=_;omega) fl_ fun l o p=>C4 1 [0,1,5,6] a Z<|Uv 1 Z fun R a=>UF _ U7<|C4 1 [0,1,5,6] a Z<|UN (L':=[.arr (.slice l o p) 3 1 ((List.range (j+1)).filter fun q=>b.testBit q).length ((((List.range (j+1)).filter fun q=>b.testBit q)).map aM).flatten]) (by rw [e,Ru,Rz,QV];rfl)<|UH (m':=n-(j+1)) om_ mup (hn_ [0,1,5,6] Z) ⟨j+1,l,o,p,om_,Z,Z,Z⟩
  have k:b.testBit j=false:=by
   rw [<- vh,<- kL];exact i
  rw [k,az dc_,Rf] at e;refine Uv 1 Z fun R a=>UF _ U7<|C4 1 [0,1,5,6] a Z<|UN (L':=[.arr (.slice c n1 d) 3 1 ((List.range (j+1)).filter fun q=>b.testBit q).length ((((List.range (j+1)).filter fun q=>b.testBit q)).map aM).flatten]) (by rw [e])<|UH (m':=n-(j+1)) om_ mup (hn_ [0,1,5,6] Z) ⟨j+1,c,n1,d,om_,Z,Z,Z⟩
 have x:n=j:=by
  rcases S7.1 g with h | h
  ·have:=QS h;omega
  have:=QS h;omega
 subst x;rw [K5 n s b r];exact G.freezeArr 0 ((aV (b % 2 ^ n)).map aM) Z Z (fc _) (al _) fun _ _ y=>Uu 2 [4] Z<|UC U2<|⟨Z,y.mono mup⟩
theorem Gm (S:Sht)(l:List Sgt):(rb S l).take 3=rb S (l.take 3):=by
 unfold rb;rw [<- SC,List.take_range,Q5,show min 3 (min l.length 6)=min (min 3 l.length) 6 by omega];refine List.map_congr_left fun i a=>?_;have:=Q9.1 a;rw [au,au,Rx,aW om_]
theorem ta (S:Sht)(H:Hts)(l:List Sgt):cC S H (l.take 3)={ cC S H l with obs:=(cC S H l).obs.take 3 }:=by
 unfold cC;simp only [Gm]
theorem Cu :(.tuple #[v,.bool (decide ((n:Int)<=4) && true)]:Value)=.tuple #[v,.bool (decide (n<=4))]:=by
 rw [Bool.and_true,show decide ((n:Int)<=4)=decide (n<=4) from RC.2 om_]
theorem Oe (C:Mem)(q:Tabs C)(v:Value)(S:Sht)(H:Hts)(l:List Sgt)(L:CE C v S H l)(e:PlanR S H l) :
  Pur cx.P 12 [v] C fun u D=>∃ bv,u=.tuple #[bv,.bool (decide ((cE (S.kd % 8) S.a S.b S.h).length<=4))]/\BookIn D bv (cC S H (l.take 3)):=by
 obtain ⟨A,c,rfl,M⟩:=L;have N:=(fB (S.kd % 8) (Ry _ dc_) S.a S.b S.h).1;refine UD func12 26 U3 fun w0=>Uz fun R d=>UQ U6 fun T=>UP U5 fun U=>C4 1 [1,2] d Z<|Uz fun R d=>UE ae U9<|Ve (GB _ q.m_ S H _ l e.kd e.h M.m_ e.s N) U7 (fun V w _ x=>?_);obtain ⟨W,X,Y,cv,ov,rfl,i,k,n,o,p⟩:=id x;obtain ⟨y,z,rfl,_⟩:=id i;obtain ⟨B,E,rfl,_⟩:=id k;obtain ⟨F,G,rfl,_⟩:=id n;obtain ⟨I,J,rfl,_⟩:=id o;obtain ⟨r,f,rfl,O,aa,_⟩:=id p;simp only [al] at x i k n o p O ⊢;refine UP U5 fun b4=>UG (j:=0) U12<|UA [2,4] d Z<|Uv 1 Z fun R d=>UE af U9<|C4 2 [2,4,10] d Z<|Ux (fun t=>?_) fun t=>?_
 ·have h3:3<(cC S H l).obs.length:=by
   have:=aJ t;omega
  have K:=p.sub (l:=0) (h:=3) (m:=f) (QT _) (by rw [al];omega) om_ (QO _);rw [R0,<- SC] at K;have g:BookIn w (.agg ⟨[.slice y (cC S H l).pts.length z,.slice B (cC S H l).tris.length E,.slice F (cC S H l).terr.length G,.slice I (cC S H l).col.length J,.slice (if f=0 then r else r.map (·.add (0*11))) (3-0) (f-0)]⟩) (cC S H (l.take 3)):=by
   rw [ta];exact ⟨_,_,_,_,_,Z,i,k,n,o,K⟩
  refine Uv 1 Z fun R d=>UE af U9<|Vq 0 3 f U12 (fun _=>⟨.inl ⟨Z,Z⟩,.inr ⟨_,Z⟩,.inl ⟨Z,Z⟩,by omega,by omega,QO _⟩) U2<|Uy U6<|UG (j:=0) U12<|UA [2,4] d Z<|US [0,1,2,3,4,5,6,7,8,9,10,11,12] [] Z kr_ fun R Q d=>UE af U9<|UB 2 Z<|UE af U9<|UB 3 Z<|UE af U9<|Vb (fun _=>((H3 _ q.m_ _ S H (l.take 3) (fun s hs=>e.s s (List.take_subset _ _ hs)) g).ch _ mup)) U9<|Uy U6<|UU U8<|UG (j:=1) U12<|C4 1 [2,3] d Z<|UJ (VF af U5 ?_);exact ⟨Z,_,Cu,g.mono mup⟩
 have h3:¬ 3<(cC S H l).obs.length:=by
  have:=QS t;omega
 have g:BookIn w (.agg ⟨[.slice y (cC S H l).pts.length z,.slice B (cC S H l).tris.length E,.slice F (cC S H l).terr.length G,.slice I (cC S H l).col.length J,.slice r (cC S H l).obs.length f]⟩) (cC S H (l.take 3)):=by
  rw [ta,Re om_];exact ⟨_,_,_,_,_,Z,i,k,n,o,p⟩
 refine US [0,1,2,3,4,5,6,7,8,9,10,11,12] [] Z kr_ fun R Q d=>UE af U9<|UB 2 Z<|UE af U9<|UB 3 Z<|UE af U9<|Vb (fun _=>((H3 _ q.m_ _ S H (l.take 3) (fun s hs=>e.s s (List.take_subset _ _ hs)) g).ch _ mup)) U9<|Uy U6<|UU U8<|UG (j:=1) U12<|C4 1 [2,3] d Z<|UJ (VF af U5 ?_);exact ⟨Z,_,Cu,g.mono mup⟩
theorem Di {o:Obs}{p:Pt}{t:Tri}{z:Rat}(h:(cJ B.col o).length<=2):(rowsO B o p t z).length<=8:=by
 unfold rowsO;split
 ·rw [QV];split <;> split <;> simp
 split
 ·have:=Kt (c:=2) (f:=fun k=>[1, -1].map (iG (bs B) (bp B) k (atT t (wgt B.pts t p)) (kA o z))) (l:=cJ B.col o) (fun k _=>by simp);omega
 have:=Kt (c:=4) (f:=fun k=>[1, -1].map (iG (bs B) (bp B) k (atT t fun j=>(slf B.pts t j).1) (qw o))++[1, -1].map (iG (bs B) (bp B) k (atT t fun j=>(slf B.pts t j).2) (je o))) (l:=cJ B.col o) (fun k _=>by simp);omega
theorem Ek (S:Sht)(H:Hts)(l:List Sgt)(c:∀ s∈l,SgtR s)(e:(cE (S.kd % 8) S.a S.b S.h).length<=4):Calm (cC S H l) (fsK (cE (S.kd % 8) S.a S.b S.h).length H) (roK S H l):=by
 have f:(cC S H l).obs.length=min l.length 6:=jH S l;refine ⟨Ej S H l c, ?_,Aq QF _,fun i g=>?_, ?_,fun i _=>?_,by omega⟩
 ·show 2*(cE (S.kd % 8) S.a S.b S.h).length<=12;omega
 ·have d:i<l.length:=by omega
  refine O3 S H l _ i ?_;rw [au,aj d];exact c _ (RP d)
 ·have h1:=jz (bs (cC S H l)) (bp (cC S H l)) colK 1;have h2:bp (cC S H l)<=4:=e;show (bj (bs (cC S H l)) (bp (cC S H l)) colK 1).length<=24;omega
 refine Di ?_;unfold cJ vQ;refine Rb (R5 _ _) ?_;rw [RL];exact QO 2
end Go.Proofs.YthnpijdjlddpmaaGreatDoor
