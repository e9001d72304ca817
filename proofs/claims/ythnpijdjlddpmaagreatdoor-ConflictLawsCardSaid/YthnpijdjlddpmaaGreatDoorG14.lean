/- Laws that the proofs of this seat share, part 14. -/
import Derived.Test.YthnpijdjlddpmaaGreatDoorG13
import Derived.Test.YthnpijdjlddpmaaGreatDoorShelf
set_option maxHeartbeats 4000000
namespace Go.Proofs.YthnpijdjlddpmaaGreatDoor
open Go.Proofs.Tryz
open Go Go.Jog
set_option maxRecDepth 100000
variable {B:Bk}{C:Mem}{RO:Nat->List RowQ}{k:Nat}{l:List Nat}{n:Nat}{outs:List (List Nat)}{q:Rat}{v:Value}{vs:List Value}{x:Nat}{α:Type}
def OutL (C:Mem)(vs:List Value)(outs:List (List Nat)):Prop:=vs.length=outs.length/\∀ (j:Nat)(v:Value)(o:List Nat),vs[j]?=some v->outs[j]?=some o->Sl C 1 v (o.map aO)
def OutsIn (C:Mem)(v:Value)(outs:List (List Nat)):Prop:=∃ vs,OutL C vs outs/\Sl C 1 v (vs.map fun x=>[x])
theorem OutL.mono {C D:Mem}{a:List Value}{b:List (List Nat)}(h:OutL C a b)(c:C.le D):OutL D a b:=⟨h.1,fun j v o h1 h2=>(h.2 j v o h1 h2).mono c⟩
theorem OutL.m_ {D:Mem}(h:OutL C vs outs)(a:C.le D:=by exact mup):OutL D vs outs:=OutL.mono h a
theorem OutsIn.mono {C D:Mem}{v:Value}{a:List (List Nat)}(h:OutsIn C v a)(b:C.le D):OutsIn D v a:=by
 obtain ⟨vs,h1,h2⟩:=h;exact ⟨vs,h1.mono b,h2.mono b⟩
theorem OutsIn.m_ {D:Mem}(h:OutsIn C v outs)(a:C.le D:=by exact mup):OutsIn D v outs:=OutsIn.mono h a
theorem OutL.nil (C:Mem):OutL C [] []:=⟨rfl,fun j v o h _=>by simp at h⟩
theorem OutL.snoc {o:List Nat}(h:OutL C vs outs)(b:Sl C 1 v (o.map aO)):OutL C (vs++[v]) (outs++[o]):=by
 refine ⟨by simp [h.1],fun j w q h1 h2=>?_⟩;rcases Nat.lt_trichotomy j vs.length with a | a | a
 ·rw [Rb a] at h1;rw [Rb (by rw [<- h.1];exact a)] at h2;exact h.2 j w q h1 h2
 ·subst a;rw [QV (Qj _),Sy] at h1;rw [h.1,QV (Qj _),Sy] at h2;cases h1
  cases h2
  exact b
 rw [Qr ap] at h1;cases h1
theorem oC (a:List Value):a=(a.map fun x=>[x]).flatten:=by
 induction a with
 | nil=>rfl
 | cons v a b=>rw [QU,RM,<- b];rfl
theorem oB (a:List Value):∀ r∈a.map (fun x=>[x]),r.length=1:=fun r hr=>by
 obtain ⟨x,_,rfl⟩:=Qt.1 hr;rfl
theorem qe (l:List Nat):∀ r∈l.map cj,r.length=1:=fun r hr=>by
 obtain ⟨x,_,rfl⟩:=Qt.1 hr;rfl
theorem BU:∀ n<6,∀ s<2 ^ n,Ch (2 ^ n-1) s<2 ^ n:=by decide +kernel
noncomputable def hC (B:Bk)(RO:Nat->List RowQ)(s:Nat):Bool:=hS B RO (Ch (2 ^ B.obs.length-1) s)
theorem AG (C:Mem)(d:Tabs C)(B:Bk)(a f:Nat)(g:SrchIn C B a f)(h:B.obs.length<6) :
  Jog.Fn cx.P 38 [.pointer (some ⟨a,0,none⟩)] C [] fun u _ i=>∃ A n2 c,u=.slice A n2 c/\i=[.arr u 99 1 (2 ^ B.obs.length) (((bH B.obs.length).map cj).flatten)]:=by
 obtain ⟨j,k,l,m,o,b,n⟩:=g.ex;obtain ⟨_,_,_,_,_,e,_,_,_,_,h5⟩:=n.ex;cases e
 obtain ⟨A,c,rfl,_⟩:=id h5;rw [aw] at b;rw [<- LZ];exact Mm C d a B.obs.length j k l m _ A c b h
theorem ta (C:Mem)(w:Tabs C)(T:Value)(B:Bk)(J:List Rat)(b:Nat->List RowQ)(U:BookIn C T B)(h:Calm B J b)(f:B.obs.length<6) :
  Pur cx.P 13 [T] C fun u D=>∃ v,u=.tuple #[v,.int .i64 0]/\OutsIn D v ((iV (hC B b) (bH B.obs.length)).map aX):=by
 have V:=U;obtain ⟨v1,v2,tv,cv,ov,rfl,_,_,_,_,h5⟩:=id U.ex;obtain ⟨A5,c5,rfl,an,aC,_⟩:=id h5;obtain ⟨n,k⟩:∃ n,B.obs.length=n:=⟨_,rfl⟩;have aD:maxLen<=9223372036854775807:=by simp [maxLen]
 have ao:=fun (D:Mem)(hD:C.le D)(g c s:Nat)(km:List (Nat × Value))(y:SrchIn D B g c)(hs:s<2 ^ n)=>vY D (w.mono hD) B J b g c s km y h f (k ▸ hs);have W:∀ s,hC B b s=hS B b (Ch (2 ^ n-1) s):=fun s=>by unfold hC;rw [k]
 rw [k] at f;have aE:=wz f;simp only [aw,k] at h5 an V ⊢;have K:=lB n;obtain ⟨F,d⟩:∃ F:Nat->List Nat,∀ i,F i=((bH n).take i).foldl (mE (hC B b)) []:=⟨_,fun _=>rfl⟩;have X:F 0=[]:=by rw [d,List.take_zero];rfl
 have A:∀ {i s},(bH n)[i]?=some s->F (i+1)=mE (hC B b) (F i) s:=fun {i s} hs=>by rw [d,d,xh hs]
 have ap:∀ i,i<=2 ^ n->(F i).length<=32:=fun i hi=>by
  rw [d];have h1:=tR (h:=hC B b) ((bH n).take i) [];rw [Qz] at h1;simp only [QW] at h1;omega
 refine Uk func13 69 U3 fun w0=>Uf fun R a=>Uw U6 fun b1=>C4 2 [1] a Z<|G.freeze 0 Z fun _ _ Y=>UB [(1,3)] Z fun R a=>Uc (bkT Y 5) U8<|D.call (tJ _ w.m_ _ B J b V.m_ h om_) Z (.inr dc_) U6 (Qo _) fl_ (fun aF _ aG _ aq=>?_);obtain ⟨g,c,rfl,y,rfl⟩:=aq;refine C4 5 [1,4,5] a Z<|Ua 2 [1,4,5,19] Z<|Ud (fun aa=>?_) fun aa=>?_
 ·exact absurd aa dc_
 refine Ub 1 Z fun R a=>Uc (bkT Y 1) U8<|Ue U6<|VZ (n) Z Z Z Z Z Z (by first | exact .inl Z | exact .inr Z) Z om_ Z Z<|D.int (((2 ^ n-1:Nat):Int)) U4 (by rw [show (((2 ^ n:Nat):Int)-1)=((2 ^ n-1:Nat):Int) by have:=Nat.one_le_two_pow (n:=n);omega];exact tB om_) U2<|C4 1 [4,6] a Z<|Ua 1 [4,6,7] Z<|Ua 1 [4,6,7,8] Z<|UB [(1,3)] Z fun R a=>Ue U6<|D.call (AG _ w.m_ B g c y.m_ om_) Z (.inr dc_) U6 (Qo _) fl_ (fun aH _ aI _ ar=>?_);obtain ⟨As,ns,cs,rfl,rfl⟩:=ar;rw [k];refine C4 2 [4,6,7,8,27,28,29] a Z<|G.freezeArr 0 ((bH n).map cj) Z Z (qe _) (by rw [aw,K]) (fun _ _ ab=>?_);obtain ⟨_,_,ac,_⟩:=id ab;rw [aw,K] at ac;cases ac
 refine G.nilArr 50 1<|G.loop (fun fr C' L μ=>∃ (i:Nat)(z:Int)(km:List (Nat × Value))(vs:List Value)(l:Option Addr)(n1 o:Nat),(i<=2 ^ n/\xP (hS B b) km/\OutL C' vs ((F i).map aX)/\xN (F i) z)/\fr=[(4,[],.pointer (some ⟨g,0,none⟩)),(6,[],.int .u64 ((2 ^ n-1:Nat):Int)),(7,[],.slice l n1 o),(8,[],.int .i64 z),(27,[],.slice As (2 ^ n) cs),(28,[],.int .i64 ((2 ^ n:Nat):Int)),(29,[],.int .i64 i)]/\L=[.arr (.slice l n1 o) 50 1 vs.length vs,.obj c (aQ keyU.enc km)]/\μ=2 ^ n-i) (hn_ [4,6,7,8,27,28,29] Z) ⟨0, -1,[],[],none,0,0,⟨Qn _,wV _,by rw [X];exact OutL.nil _,.inl ⟨X,Z⟩⟩,Z,Z,Z⟩ (fun fr aJ aK m _ hI=>?_);obtain ⟨i,z,km,vs,l,n1,o,⟨hi,au,p,q⟩,rfl,rfl,rfl⟩:=hI;refine Ua 1 [4,6,7,8,27,28,29,30] Z<|Ud (fun M=>?_) fun M=>?_
 ·have ad:i<2 ^ n:=by
   have:=aV M;omega
  obtain ⟨s,hs⟩:∃ s,(bH n)[i]?=some s:=⟨(bH n)[i]'om_,ak om_⟩;have av:s<2 ^ n:=eC (Qi hs);have N:s<32:=by omega
  have aL:vs.length=(F i).length:=by rw [p.1,aw]
  have aM:=ap i om_;refine Uf fun R a=>Us ab.m_ U10 om_ (gi hs) fl_ fun aN ay=>Uc ay U8<|C4 1 [4,6,7,8,10,27,28,29] a Z<|Ub 4 Z fun R a=>UJ (fun _=>(ui _ s N)) U9<|Uh 2 Z<|UD U8<|Ug [4,6,7,8,10,27,28,29,40] a Z<|Ud (fun O=>?_) fun O=>?_
  ·have r:0<=z/\z<(iD s:Int):=by
    simp only [Qu,Qs] at O;omega
   refine Ua 3 [2,3] Z<|G.freezeArr 0 (vs.map fun x=>[x]) Z (oC vs) (oB vs) (aw _) fun C8 _ Q=>Un (G.dropAll (UC U3 ?_));refine ⟨Z,_,Z,vs, ?_,Q⟩;rw [Fs f hs (by rw [<- d];exact q) r,<- d];exact p.mono mup
  have r:¬ (0<=z/\z<(iD s:Int)):=by
   simp only [Ta,QG] at O;omega
  refine UB [(4,3)] Z fun R a=>Uh 3 Z<|Ws (2 ^ n-1) (s) Z Z Z Z Z Z Z Z om_ om_ Z Z<|D.call (ao _ mup g c (Ch (2 ^ n-1) s) km y.m_ (BU n f s av) au) Z (.inr dc_) U6 (List.Perm.swap _ _ _) fl_ (fun aP _ aR _ az=>?_);obtain ⟨rfl,E,af,rfl⟩:=az;refine C4 5 [4,6,7,8,10,11,12,27,28,29] a Z<|Ua 3 [4,6,7,8,10,11,12,27,28,29,49] Z<|Ud (fun ag=>?_) fun ag=>?_
  ·exact absurd ag dc_
  refine Ua 3 [4,6,7,8,10,27,28,29,53] Z<|Ud (fun S=>?_) fun S=>?_
  ·have t:hC B b s=false:=by rw [W];simpa using S
   refine Uf fun R a=>Ul _ U7<|C4 1 [4,6,7,8,27,28,29] a Z<|G.perm (L':=[.arr (.slice l n1 o) 50 1 vs.length vs,.obj c (aQ keyU.enc E)]) (List.Perm.swap _ _ _)<|Up (m':=2 ^ n-(i+1)) om_ mup (hn_ [4,6,7,8,27,28,29] Z) ⟨i+1,z,E,vs,l,n1,o,⟨by omega,af,by rw [A hs,wn t];exact p.mono mup,by rw [A hs,wn t];exact q⟩,Z,Z,Z⟩
  have t:hC B b s=true:=by rw [W];simpa using S
  refine VU ae (fun _ _ aA _=>?_);cases aA
  refine Ua 4 [4,6,7,10,27,28,29,56] Z<|Ud (fun ah=>?_) fun ah=>?_
  ·exact absurd (by simpa using ah) (show ¬ ((vs.length:Int)=200) by omega)
  refine Ub 1 Z fun R a=>Uo (ui _ s N) U7<|C4 1 [4,6,7,8,10,27,28,29] a Z<|Ub 2 Z fun R a=>UM (nW _ w.m_ s N) U7 (fun aS _ _ ai=>?_);obtain ⟨H,I,rfl,_⟩:=id ai;refine Ux [[.slice H ((aX s).map aO).length I]] U12 fun aT _ _ aB=>UG (j:=1) U11 aB Z ax (by show (vs.length+1)*24<=_;omega) fl_ fun aj al am=>C4 1 [4,6,7,8,27,28,29] a Z<|Uf fun R a=>Ul _ U7<|C4 1 [4,6,7,8,27,28,29] a Z<|Ut (L':=[.arr (.slice aj al am) 50 1 (vs++[Value.slice H ((aX s).map aO).length I]).length (vs++[Value.slice H ((aX s).map aO).length I]),.obj c (aQ keyU.enc E)]) (by rw [Qp];rfl)<|Up (m':=2 ^ n-(i+1)) om_ mup (hn_ [4,6,7,8,27,28,29] Z) ⟨i+1,iD s,E,vs++[Value.slice H ((aX s).map aO).length I],aj,al,am,⟨by omega,af,by rw [A hs,AP q r t,QX];exact p.m_.snoc ai.m_,by rw [A hs,AP q r t];exact CP q (by rw [d];exact OL f hs) r⟩,Z,Z,Z⟩
 have ad:i=2 ^ n:=by
  have:=Qm M;omega
 refine Ua 3 [2,3] Z<|G.freezeArr 0 (vs.map fun x=>[x]) Z (oC vs) (oB vs) (aw _) fun C8 _ Q=>Un (G.dropAll (UC U3 ?_));refine ⟨Z,_,Z,vs, ?_,Q⟩;have e:iV (hC B b) (bH n)=F i:=by rw [d,ad,<- K,Qv];rfl
 rw [e];exact p.mono mup
theorem EL (C:Mem)(v:Value)(l:List Nat)(g:Nat)(d:List Value)(a:Nat->Bool)(e:Sl C 1 v (l.map cj))(_A:Jog.Enters cx.P g=true)
  (n:∀ x∈l,∀ D:Mem,C.le D->Gives cx.P g (.int .u64 (x:Nat)::d) D (.bool (a x))) :
  Gives cx.P 124 [v,.func (.func g) #[] ⟨d⟩] C (.int .i64 (H8 a l 0)):=by
 obtain ⟨o,c0,rfl,p,B,_⟩:=id e;have E:maxLen<=9223372036854775807:=by simp [maxLen]
 simp only [aw] at e p ⊢;refine Uk func124 19 U3 fun w0=>Ua 1 [0,1] Z<|Ua 3 [0,1,7,8] Z<|G.loop (fun fr C' q r=>∃ (i:Nat),(i<=l.length/\∀ y∈l.take i,a y=false)/\fr=[(0,[],.slice o l.length c0),(1,[],.func (.func g) #[] ⟨d⟩),(7,[],.int .i64 l.length),(8,[],.int .i64 i)]/\q=[]/\r=l.length-i) (hn_ [0,1,7,8] Z) ⟨0,⟨Qn _,by simp⟩,Z,Z,Z⟩ (fun fr F H m s t=>?_);obtain ⟨i,⟨I,b⟩,rfl,rfl,rfl⟩:=t;refine Ua 1 [0,1,7,8,9] Z<|Ud (fun f=>?_) fun f=>?_
 ·have h:i<l.length:=by simpa using f
  obtain ⟨x,c⟩:∃ x,l[i]?=some x:=⟨l[i],ak h⟩;refine Ua 2 [0,1,5,7,8] Z<|Ub 3 Z fun R j=>Us e.m_ U10 om_ (gi c) fl_ fun J u=>Uc u U8<|Uo (n x (Qi c) _ mup) U7<|Ug [0,1,5,7,8,16] j Z<|Ud (fun k=>?_) fun k=>?_
  ·have w:a x=true:=k;exact Ua 2 [4] Z<|Ui U2<|⟨by rw [nT c w b,RC],Z⟩
  have z:a x=false:=k;refine Uf fun R j=>Ul _ U7<|C4 1 [0,1,7,8] j Z<|Up (m':=l.length-(i+1)) om_ s (hn_ [0,1,7,8] Z) ⟨i+1,⟨by omega,fun y hy=>by
   rw [QJ,c] at hy;rcases Qy.1 hy with hy | hy
   ·exact b y hy
   simp only [RD,QF] at hy;subst hy;exact z⟩,Z,Z,Z⟩
 have h:i=l.length:=by
  have:¬ i<l.length:=by simpa using f
  omega
 exact Ua 1 [4] Z<|Ui U2<|⟨by rw [h,Qv] at b;rw [lI b],Z⟩
theorem LY (C:Mem)(v:Value)(l:List Nat)(g:Nat)(b:List Value)(a:Nat->Bool)(c:Sl C 1 v (l.map cj))(d:Jog.Enters cx.P g=true)
  (e:∀ x∈l,∀ D:Mem,C.le D->Gives cx.P g (.int .u64 (x:Nat)::b) D (.bool (a x))) :
  Gives cx.P 80 [v,.func (.func g) #[] ⟨b⟩] C (.bool (l.any a)):=by
 refine Uk func80 9 U3 fun w0=>Ua 1 [0,1] Z<|Ub 2 Z fun R f=>Uo (EL _ v l g b a c.m_ d (fun x h D j=>e x h D (Mem.le.trans mup j))) U7<|C4 2 [4] f Z<|Ui U2<|⟨?_,Z⟩;congr 1;rcases rR a l with ⟨h1,h2⟩ | ⟨i,x,h1,h2,h3,_⟩
 ·rw [h1,List.any_eq_false.2 (fun y hy=>by rw [h2 y hy];decide)];rfl
 rw [h1,SY.2 ⟨x,Qi h2,h3⟩];exact QD om_
theorem Ip (C:Mem)(v:Value)(l:List Nat)(g:Nat)(c:List Value)(b:Nat->Bool)(d:Jog.Enters cx.P g=true)(e:∀ x∈l,∀ D:Mem,C.le D->Gives cx.P g (.int .u64 (x:Nat)::c) D (.bool (b x))) :
  Jog.Fn cx.P 80 [v,.func (.func g) #[] ⟨c⟩] C [.arr v 99 1 l.length (l.map cj).flatten] fun u _ a=>u=.bool (l.any b)/\a=[.arr v 99 1 l.length (l.map cj).flatten] :=
 Fn.mono (VG (L:=[]) (post:=fun u a=>u=.bool (l.any b)/\a=[]) kr_ (qe l) (aw _) fun C' hC hs=>Fn.mono (LY C' v l g c b hs d fun x f D i=>e x f D (hC.trans i)) fun u _ a _ h=>⟨h.1,h.2⟩) fun u _ j _ ⟨a,h1,h2,h3⟩=>⟨h2,by rw [h1,h3]⟩
theorem ML (C:Mem)(a s x:Nat)(f:s<18446744073709551616)(g:x<18446744073709551616)(b:C a=some (.cells ⟨[.int .u64 (s:Nat)]⟩ 99 (0,0))) :
  Gives cx.P 81 [.int .u64 (x:Nat),.pointer (some ⟨a,0,none⟩)] C (.bool (x &&& s == x)):=by
 refine Uk func81 9 U3 fun w0=>Ua 1 [0,1] Z<|Ub 1 Z fun R c=>Uc (bkT b 1) U8<|Vp (x) (s) U8 om_ om_ U2<|C4 3 [3] c Z<|Ui U2<|⟨?_,Z⟩;congr 1;by_cases e:x &&& s=x
 ·rw [e];simp
 have d:¬ (((x &&& s:Nat):Int)=x):=fun h=>e (Int.ofNat_inj.1 h);rw [Rt.2 d,Rt.2 e]
def ED (l:List Nat):List (List Value):=l.map fun s=>[.int .u64 (s:Nat),.int .i64 0]
theorem sf (C:Mem)(V:Tabs C)(B:Bk)(W:List Rat)(c:Nat->List RowQ)(o d:Nat)(Y:SrchIn C B o d)(h:Calm B W c)(u:B.obs.length<6) :
  IterM cx.P 46 #[.pointer (some ⟨o,0,none⟩)] #[] C [.obj d (aQ keyU.enc [])] (ED (cZ (hS B c) (bH B.obs.length))):=by
 have aD:maxLen<=9223372036854775807:=by simp [maxLen]
 obtain ⟨n,hn⟩:∃ n,B.obs.length=n:=⟨_,rfl⟩;have aj:=fun (D:Mem)(f:C.le D)(s:Nat)(km:List (Nat × Value))(hs:s<2 ^ n)=>vY D (V.mono f) B W c o d s km (Y.mono f) h u (hn ▸ hs);have aa:=fun (D:Mem)(f:C.le D)=>AG D (V.mono f) B o d (Y.mono f) u;rw [hn] at u aa ⊢;have aE:=wz u;have A:=lB n;obtain ⟨F,g⟩:∃ F:Nat->List Nat,∀ i,F i=((bH n).take i).foldl (fP (hS B c)) []:=⟨_,fun _=>rfl⟩;have ab:F 0=[]:=by rw [g,List.take_zero];rfl
 have al:∀ {i s},(bH n)[i]?=some s->F (i+1)=fP (hS B c) (F i) s:=fun {i s} hs=>by rw [g,g,xh hs]
 have am:F (2 ^ n)=cZ (hS B c) (bH n):=by rw [g,<- A,Qv];rfl
 have an:∀ i,∃ t,cZ (hS B c) (bH n)=F i++t:=fun i=>by
  unfold cZ;rw [g]
  conv=>enter [1,t,1];rw [<- Rn i (bH n),List.foldl_append]
  exact xu _ _ _
 have ao:∀ i,∀ x∈F i,x<2 ^ n:=fun i x v=>by
  rw [g] at v;rcases qw _ _ v with h | h
  ·cases h
  exact eC (Rw h)
 have ap:∀ i,i<=2 ^ n->(F i).length<=32:=fun i hi=>by
  rw [g];have h1:=qA (h:=hS B c) ((bH n).take i) [];rw [Qz] at h1;simp only [QW] at h1;omega
 refine IterM.intro (fb:=[.pointer (some ⟨o,0,none⟩)]) (lb:=[]) kr_ func46 Z 44 Z Z fun l I X L hY h0 w0=>?_;refine Ua 1 [0,1,4] Z ?_;refine UB [(1,3)] Z (fun R a=>?_);refine Ue U6 ?_;refine D.call (aa _ mup) Z (.inr dc_) U6 (Qo _) fl_ (fun aG _ aH _ aq=>?_);obtain ⟨As,ns,cs,rfl,rfl⟩:=aq;refine C4 2 [0,1,4,10,11,12] a Z ?_;clear a R;refine G.freezeArr 0 ((bH n).map cj) Z Z (qe _) (by rw [aw,A]) (fun _ _ ac=>?_);obtain ⟨_,_,ad,_⟩:=id ac;rw [aw,A] at ad;cases ad
 refine G.nilArr 99 1 ?_;refine G.loop (fun fr C' L' μ=>∃ (i:Nat)(km:List (Nat × Value))(k:List Ent)(p:Option Addr)(n1 q:Nat),(i<=2 ^ n/\xP (hS B c) km/\I (F i).length k)/\fr=[(0,[],.pointer (some ⟨o,0,none⟩)),(1,[],.func (.yield l) #[] #[]),(4,[],.slice p n1 q),(10,[],.slice As (2 ^ n) cs),(11,[],.int .i64 ((2 ^ n:Nat):Int)),(12,[],.int .i64 i)]/\L'=.arr (.slice p n1 q) 99 1 (F i).length ((F i).map cj).flatten::.obj d (aQ keyU.enc km)::k/\μ=2 ^ n-i) (hn_ [0,1,4,10,11,12] Z) ⟨0,[],L,none,0,0,⟨Qn _,wV _,by rw [ab];exact h0⟩,Z,by rw [ab];rfl,Z⟩ (fun fr aI aJ m _ hI=>?_);obtain ⟨i,km,k,p,n1,q,⟨hi,ae,w⟩,rfl,rfl,rfl⟩:=hI;refine Ua 1 [0,1,4,10,11,12,13] Z ?_;refine Ud (fun E=>?_) fun E=>?_
 ·have ag:i<2 ^ n:=by
   have:=aV E;omega
  obtain ⟨s,hs⟩:∃ s,(bH n)[i]?=some s:=⟨(bH n)[i]'om_,ak om_⟩;have ar:s<2 ^ n:=eC (Qi hs);have aK:=ap i hi;have H:=al hs;refine VU af (fun _ _ au _=>?_);cases au
  refine Uf fun R a=>?_;refine Us ac.m_ U10 om_ (gi hs) fl_ (fun aL av=>?_);refine Uc av U8 ?_;refine Uv U5 (fun b6=>?_);refine Um (j:=0) U12 ?_;refine Ug [0,1,4,6,10,11,12] a Z ?_;clear a R;refine G.freeze 0 Z (fun _ _ y=>?_);refine UB [(2,3)] Z (fun R a=>?_);refine Uh 2 Z ?_;refine D.call (Ip _ _ (F i) 81 [.pointer (some ⟨b6,0,none⟩)] (fun x=>x &&& s == x) kr_ (fun x v D f=>ML D b6 s x om_ (by have:=ao i x v;omega) (f _ _ (Mem.get y mup)))) Z (.inr dc_) U6 (Qo (_::_)) fl_ (fun aM _ aN _ ay=>?_);obtain ⟨rfl,rfl⟩:=ay;refine Ug [0,1,4,6,10,11,12,18] a Z ?_;clear a R;refine Ud (fun J=>?_) fun J=>?_
  ·have r:F (i+1)=F i:=by
    rw [H];unfold fP;rw [show ((F i).any fun x=>x &&& s == x)=true from J];rfl
   refine Uf fun R a=>?_;refine Ul _ U7 ?_;refine C4 1 [0,1,4,10,11,12] a Z ?_;clear a R;refine Up (m':=2 ^ n-(i+1)) om_ mup (hn_ [0,1,4,10,11,12] Z) ⟨i+1,km,k,p,_,q,⟨by omega,ae,by rw [r];exact w⟩,Z,by rw [r];rfl,Z⟩
  refine UB [(2,3)] Z (fun R a=>?_);refine Ue U6 ?_;refine Uc (bkT y 1) U8 ?_;refine D.call (aj _ mup s km ar ae) Z (.inr dc_) U6 (List.Perm.swap _ _ _) fl_ (fun aO _ aP _ az=>?_);obtain ⟨rfl,z,ah,rfl⟩:=az;refine C4 5 [0,1,4,6,7,8,10,11,12] a Z ?_;clear a R;refine Ub 4 Z fun R a=>?_;refine UD U8 ?_;refine Ug [0,1,4,6,8,10,11,12,29] a Z ?_;clear a R;refine Ud (fun K=>?_) fun K=>?_
  ·have M:hS B c s=true:=by simpa using K
   have r:F (i+1)=F i:=by
    rw [H];unfold fP;rw [M,Bool.or_true];rfl
   refine Uf fun R a=>?_;refine Ul _ U7 ?_;refine C4 1 [0,1,4,10,11,12] a Z ?_;clear a R;refine G.perm _ (List.Perm.swap _ _ _) ?_;refine Up (m':=2 ^ n-(i+1)) om_ mup (hn_ [0,1,4,10,11,12] Z) ⟨i+1,z,k,p,_,q,⟨by omega,ah,by rw [r];exact w⟩,Z,by rw [r],Z⟩
  have M:hS B c s=false:=by simpa using K
  have N:F (i+1)=F i++[s]:=by
   rw [H];unfold fP;rw [M,Bool.or_false,show ((F i).any fun x=>x &&& s == x)=false from J];rfl
  obtain ⟨tl,ai⟩:=an (i+1);rw [N] at ai;have hv:(ED (cZ (hS B c) (bH n)))[(F i).length]?=some [.int .u64 (s:Nat),.int .i64 0]:=by
   rw [ai];unfold ED;rw [Ql,QO,QV (Qj _),Sy];rfl
  refine Ub 1 Z fun R a=>?_;refine Uc (bkT y 1) U8 ?_;refine Ux [cj s] U12 (fun aR _ _ aA=>?_);refine UG (j:=1) U11 aA Z ax (by show ((F i).length+1)*8<=_;omega) fl_ (fun O Q S=>?_);refine C4 1 [0,1,4,6,8,10,11,12] a Z ?_;clear a R;refine Ut (L':=.arr (.slice O Q S) 99 1 (F i++[s]).length ((F i++[s]).map cj).flatten::.obj d (aQ keyU.enc z)::k) (by rw [QX,Q8,Qp];rfl) ?_;refine W0 3 [0,1,2] [4,5,6,7,8] [] (YW.plain _) Z Z Z Z Z Z (fun R T hy=>?_);refine Ue U6 ?_;refine Uc (bkT y 1) U8 ?_;refine Ue U6 ?_;refine hy (hY _ _ _ hv w) mup Z Z Z Z (Lo:=[.arr (.slice O Q S) 99 1 (F i++[s]).length ((F i++[s]).map cj).flatten,.obj d (aQ keyU.enc z)]) (QT (l₁:=[_,_])) fl_ (fun b L2 hb R T a=>?_);rcases hb with ⟨rfl,aB⟩ | ⟨rfl,aC⟩
  ·refine Uh 4 Z ?_;refine UF U8 ?_;refine Ug [0,1,4,10,11,12,42] a Z ?_;clear a T R;refine G.cond Z (fun U=>absurd U dc_) (fun _=>?_);refine Uf fun R a=>?_;refine Ul _ U7 ?_;refine C4 1 [0,1,4,10,11,12] a Z ?_;clear a R;refine G.perm _ (QT (l₂:=[_,_])) ?_;refine Up (m':=2 ^ n-(i+1)) om_ mup (hn_ [0,1,4,10,11,12] Z) ⟨i+1,z,L2,O,Q,S,⟨by omega,ah,by rw [N,Qp];exact aB⟩,Z,by rw [N];rfl,Z⟩
  refine Uh 4 Z ?_;refine UF U8 ?_;refine Ug [0,1,4,10,11,12,42] a Z ?_;clear a T R;refine G.cond Z (fun _=>?_) (fun U=>absurd U dc_);refine G.perm _ (QT (l₂:=[_,_])) ?_;refine Un (VQ Z ?_);exact ⟨[_,_],L2,Z,.inr ⟨_,(aF.1 hv).1,aC⟩⟩
 have ag:i=2 ^ n:=by
  have:=Qm E;omega
 refine Vn Z ?_;refine ⟨[_,_],k,Z,.inl ?_⟩;have e:(ED (cZ (hS B c) (bH n))).length=(F i).length:=by rw [ag,am,ED,aw]
 rw [e];exact w
inductive SmallO (l:List Nat) (D:Mem):Value->Prop where
 | none:l=[]->SmallO l D (.tuple #[.slice none 0 0,.bool false,.int .i64 0])
 | some (x:Nat) (v:Value):l.head?=some x->Sl D 1 v ((aX x).map aO)->SmallO l D (.tuple #[v,.bool true,.int .i64 0])
theorem EC {j:Nat}{v:List Value}(h:(ED l)[j]?=some v):∃ x,l[j]?=some x/\v=[.int .u64 (x:Nat),.int .i64 0]:=by
 unfold ED at h;rw [Ql] at h;cases a:l[j]? with
 | none=>rw [a] at h;cases h
 | some x=>rw [a] at h;exact ⟨x,rfl,(RR h).symm⟩
theorem nN {v:List Value}(h:v∈ED l):∃ x,x∈l/\v=[.int .u64 (x:Nat),.int .i64 0]:=by
 obtain ⟨x,a,rfl⟩:=Qt.1 h;exact ⟨x,a,Z⟩
theorem uR {h:Nat->Bool}(a:x∈cZ h (bH n)):x<2 ^ n:=by
 rcases qw _ _ a with h | h
 ·cases h
 exact eC h
theorem zq (C:Mem)(t:Tabs C)(w:Value)(B:Bk)(y:List Rat)(l:Nat->List RowQ)(E:BookIn C w B)(h:Calm B y l)(F:B.obs.length<6) :
  Pur cx.P 21 [w] C fun u D=>SmallO (cZ (hS B l) (bH B.obs.length)) D u:=by
 have ad:maxLen<=9223372036854775807:=by simp [maxLen]
 have ag:=wz F;have K:=E;obtain ⟨cs,H⟩:∃ cs,cZ (hS B l) (bH B.obs.length)=cs:=⟨_,rfl⟩;have M:∀ x∈cs,x<32:=fun x d=>by have:=uR (H ▸ d);omega
 have N:=fun (D:Mem)(m:C.le D)=>tJ D (t.mono m) w B y l (K.mono m) h om_;have I:=fun (D:Mem)(m:C.le D)(o p:Nat)(z:SrchIn D B o p)=>sf D (t.mono m) B y l o p z h F;simp only [H] at I ⊢;obtain ⟨v1,v2,tv,cv,ov,rfl,_⟩:=id E.ex;refine Vv kr_ func21 Z 25 Z Z fun w0=>Uf fun R b=>Uw U6 fun b1=>Uv U5 fun f=>Uv U5 fun g=>Uv U5 fun i=>Ug [1,2,3,4] b Z<|G.freeze 3 Z fun _ _ O=>UB [(1,3)] Z fun R b=>Uc (bkT O 5) U8<|D.call (N _ mup) Z (.inr dc_) U6 (Qo _) fl_ (fun ah _ ai _ Q=>?_);obtain ⟨o,p,rfl,z,rfl⟩:=Q;refine Uh 4 Z<|Um (j:=1) U12<|Ug [2,3,4,5] b Z<|Uf fun R b=>Uj af U9<|C4 1 [2,3,4,5,14] b Z<|G.cond Z (fun S=>absurd S dc_) fun _=>Ua 2 [2,3,4,17] Z ?_;have T:=I _ mup o p z;refine Wd (ps:=[18,19]) (Lr:=[.obj i (.cells ⟨[.int .i64 0]⟩ 46 (0,0)),.obj g (.cells ⟨[.bool false]⟩ 4 (0,0)),.obj f (.cells ⟨[.slice none 0 0]⟩ 50 (0,0))]) Z Z kr_ T (List.Perm.swap _ _ _) (fun v k=>?_)
  (fun j a=>j=0/\a=[.obj i (.cells ⟨[.int .i64 0]⟩ 46 (0,0)),.obj g (.cells ⟨[.bool false]⟩ 4 (0,0)),.obj f (.cells ⟨[.slice none 0 0]⟩ 50 (0,0))])
  (fun q j a=>q=.ret/\∃ (x:Nat)(A:Option Addr)(n c:Nat),cs.head?=some x/\a=[.obj i (.cells ⟨[.int .i64 0]⟩ 46 (0,0)),.obj g (.cells ⟨[.bool true]⟩ 4 (0,0)),.obj f (.cells ⟨[.slice A n c]⟩ 50 (0,0)),.arr (.slice A n c) 3 1 (aX x).length ((aX x).map aO).flatten])
  ⟨rfl,rfl⟩ (fun v k=>?_)
  (fun j a J LA=>j=0/\∃ x,cs[0]?=some x/\J=[(2,[],.pointer (some ⟨f,0,none⟩)),(3,[],.pointer (some ⟨g,0,none⟩)),(4,[],.pointer (some ⟨i,0,none⟩)),(6,[],.int .u64 (x:Nat)),(7,[],.int .i64 0)]/\LA=[.obj i (.cells ⟨[.int .i64 0]⟩ 46 (0,0)),.obj g (.cells ⟨[.bool false]⟩ 4 (0,0)),.obj f (.cells ⟨[.slice none 0 0]⟩ 50 (0,0))])
  ?_ ?_ ?_ ?_
 ·obtain ⟨x,_,rfl⟩:=nN k;rfl
 ·obtain ⟨x,_,rfl⟩:=nN k;rfl
 ·intro l2 j v a W1 r k;obtain ⟨rfl,rfl⟩:=r;obtain ⟨x,d,rfl⟩:=EC k;exact Ua 1 [2,3,4,6,19] Z<|Ua 1 [2,3,4,6,7] Z<|Wb [(2,[],_),(3,[],_),(4,[],_),(6,[],_),(7,[],_)] ⟨Z,Z,Z,Z,Z,trivial⟩ ⟨Z,x,d,Z,Z⟩
 ·intro l2 j v a J LA W1 r k U;obtain ⟨rfl,x,d,rfl,rfl⟩:=U;have V:=M x (Qi d);refine Ua 2 [2,3,4,6,21] Z<|G.cond Z (fun W=>absurd W dc_) fun _=>UB [(1,3)] Z fun R b=>Ue U6<|D.call (ut _ t.m_ x V) Z (.inr dc_) U6 (Qo _) fl_ (fun aj _ ak _ Y=>?_);obtain ⟨A,n,c,rfl,rfl⟩:=Y;refine Um (j:=3) U12<|Um (j:=3) U12<|Um (j:=3) U12<|Ug [2,3,4] b Z<|Un (W9 (e:=.ret) (c:=.ret) (X:=fun q a=>q=.ret/\_) Z ⟨Z,x,A,n,c,by rw [List.head?_eq_getElem?];exact d, ?_⟩);rfl
 ·intro s a r;obtain ⟨h0,rfl⟩:=r;have aa:cs=[]:=by
   unfold ED at h0;rw [aw] at h0;exact Q1 h0
  exact Uf fun R b=>Um (j:=3) U12<|Um (j:=3) U12<|Um (j:=3) U12<|Ug [2,3,4] b Z<|Un<|G.perm (L':=[s].map qC++[.obj i (.cells ⟨[.int .i64 0]⟩ 46 (0,0)),.obj g (.cells ⟨[.bool false]⟩ 4 (0,0)),.obj f (.cells ⟨[.slice none 0 0]⟩ 50 (0,0))]) (pkL [3,0,0,0] Z)<|VV (Ds:=[s]) (.inl Z) (Fq ac ae af Z Z Z Z Z Z Z Z Z Z) ⟨Z,.none aa⟩
 intro s j q a hj hX;obtain ⟨rfl,x,A,n,c,d,rfl⟩:=hX;exact UP 64<|G.freezeArr 4 ((aX x).map aO) Z Z (jo _) (aw _) fun Cf hf ab=>Un<|VV (Ds:=[s]) (L:=[.obj i (.cells ⟨[.int .i64 0]⟩ 46 (0,0)),.obj g (.cells ⟨[.bool true]⟩ 4 (0,0)),.obj f (.cells ⟨[.slice A n c]⟩ 50 (0,0))]) (.inl Z) (Fq ac ae af Z Z Z Z Z Z Z Z Z Z) ⟨Z,.some x _ d ab⟩
theorem lW :D8 B RO l ↔ ∃ y:Nat->Rat,∀ r∈fq B RO l,Lp.sumN (fun j=>r.f.getD j 0*y j) (bs B*bp B)<=r.b:=by
 have hm:(eX (bs B*bp B) (kX (fq B RO l))).m=(fq B RO l).length:=aw _;refine exists_congr fun y=>⟨fun h r hr=>?_,fun h i a=>?_⟩
 ·obtain ⟨i,a⟩:=RP hr;obtain ⟨h1,h2⟩:=aF.1 a;have h3:=h i (by rw [hm];exact h1);have e:(kX (fq B RO l)).getD i ([],0)=(r.f,r.b):=by rw [tM h1,h2]
  have h4:Lp.sumN (fun j=>((kX (fq B RO l)).getD i ([],0)).1.getD j 0*y j) (bs B*bp B)<=((kX (fq B RO l)).getD i ([],0)).2:=h3;rw [e] at h4;exact h4
 rw [hm] at a;have h4:=h _ (Rf a);have e:(kX (fq B RO l)).getD i ([],0)=((fq B RO l)[i].f,(fq B RO l)[i].b):=tM a;show Lp.sumN (fun j=>((kX (fq B RO l)).getD i ([],0)).1.getD j 0*y j) (bs B*bp B)<=((kX (fq B RO l)).getD i ([],0)).2;rw [e];exact h4
theorem BD (h:D8 B RO l):fu B RO l=true:=@QD _ (Classical.propDecidable _) h
theorem GP (h:¬ D8 B RO l):fu B RO l=false:=@QK _ (Classical.propDecidable _) h
theorem qg (h:l[k]?=some x):(l.map aO)[k]?=some (aO x):=by rw [Ql,h];rfl
theorem Ha {a b:List α}(h:k<a.length)(c:k<b.length):(a.drop k=b.drop k ↔ a[k]=b[k]/\a.drop (k+1)=b.drop (k+1)):=by
 rw [QS h,QS c,Sw]
theorem wR (C:Mem)(v w:Value)(a b:List Nat)(d:Sl C 1 v (a.map aO))(f:Sl C 1 w (b.map aO)):Gives cx.P 22 [v,w] C (.bool (decide (a=b))):=by
 obtain ⟨A,c,rfl,u,K,_⟩:=id d;obtain ⟨A2,c2,rfl,_⟩:=id f;have L:maxLen<=9223372036854775807:=by simp [maxLen]
 simp only [aw] at d f u ⊢;refine Uk func22 26 U3 fun w0=>Ua 1 [0,1] Z<|Ua 5 [0,1,10] Z<|Ud (fun g=>?_) fun g=>?_
 ·have r:(a.length:Int)≠b.length:=by simpa using g
  exact Ua 1 [4] Z<|Ui U2<|⟨by rw [QK (fun e=>r (by rw [e]))],Z⟩
 have r:(a.length:Int)=b.length:=by simpa using g
 refine Ua 1 [0,1,5] Z<|G.loop (fun fr C' z B=>∃ (k:Nat),(k<=a.length/\(a=b ↔ a.drop k=b.drop k))/\fr=[(0,[],.slice A a.length c),(1,[],.slice A2 b.length c2),(5,[],.int .i64 k)]/\z=[]/\B=a.length-k) (hn_ [0,1,5] Z) ⟨0,⟨Qn _,Iff.rfl⟩,Z,Z,Z⟩ (fun fr M N m D E=>?_);obtain ⟨k,⟨O,i⟩,rfl,rfl,rfl⟩:=E;refine Ua 4 [0,1,5,14] Z<|Ud (fun j=>?_) fun j=>?_
 ·have l:k<a.length:=by
   have:=aV j;omega
  have s:k<b.length:=by omega
  obtain ⟨x,t⟩:∃ x,a[k]=x:=⟨_,rfl⟩;obtain ⟨y,hy⟩:∃ y,b[k]=y:=⟨_,rfl⟩;have n:=Ha l s;rw [t,hy] at n;have F:a[k]?=some x:=by rw [ak l,t]
  have H:b[k]?=some y:=by rw [ak s,hy]
  refine Uy [0,1,2,3,4,5,6,7,8] [] Z kr_ fun R Q o=>Uh 2 Z<|Us d.m_ U10 om_ (qg F) fl_ fun S I=>Uc I U8<|Uh 2 Z<|Us f.m_ U10 om_ (qg H) fl_ fun T J=>Uc J U8<|C4 1 [0,1,5,25] o Z<|Ud (fun p=>?_) fun p=>?_
  ·have q:x≠y:=fun e=>by subst e;simp at p
   exact Ua 1 [4] Z<|Ui U2<|⟨by rw [QK (fun e=>q (n.1 (i.1 e)).1)],Z⟩
  have q:x=y:=by
   have:(x:Int)=y:=by simpa using p
   omega
  refine Ub 1 Z fun R o=>Ul _ U7<|C4 1 [0,1,5] o Z<|Up (m':=a.length-(k+1)) om_ D (hn_ [0,1,5] Z) ⟨k+1,⟨by omega,i.trans (n.trans ⟨fun h=>h.2,fun h=>⟨q,h⟩⟩)⟩,Z,Z,Z⟩
 have l:k=a.length:=by
  have:=Qm j;omega
 exact Ua 1 [4] Z<|Ui U2<|⟨by rw [QD (i.2 (by rw [RH om_,RH om_]))],Z⟩
theorem Bx (C:Mem)(v w:Value)(a b:List (List Nat))(d:OutsIn C v a)(f:OutsIn C w b)(Y:a.length<=1000):Gives cx.P 17 [v,w] C (.bool (decide (a=b))):=by
 obtain ⟨g,z,d⟩:=d;obtain ⟨i,B,f⟩:=f;obtain ⟨A,c,rfl,J,aa,_⟩:=id d;obtain ⟨A2,c2,rfl,_⟩:=id f;have ab:maxLen<=9223372036854775807:=by simp [maxLen]
 have K:=z.1;have L:=B.1;simp only [aw,K,L] at d f J ⊢;refine Uk func17 27 U3 fun w0=>Ua 1 [0,1] Z<|Ua 5 [0,1,10] Z<|Ud (fun j=>?_) fun j=>?_
 ·have D:(a.length:Int)≠b.length:=by simpa using j
  exact Ua 1 [4] Z<|Ui U2<|⟨by rw [QK (fun e=>D (by rw [e]))],Z⟩
 have D:(a.length:Int)=b.length:=by simpa using j
 refine Ua 1 [0,1,5] Z<|G.loop (fun fr C' M N=>∃ (k:Nat),(k<=a.length/\(a=b ↔ a.drop k=b.drop k))/\fr=[(0,[],.slice A a.length c),(1,[],.slice A2 b.length c2),(5,[],.int .i64 k)]/\M=[]/\N=a.length-k) (hn_ [0,1,5] Z) ⟨0,⟨Qn _,Iff.rfl⟩,Z,Z,Z⟩ (fun fr ac ad m O Q=>?_);obtain ⟨k,⟨hk,l⟩,rfl,rfl,rfl⟩:=Q;refine Ua 4 [0,1,5,14] Z<|Ud (fun n=>?_) fun n=>?_
 ·have o:k<a.length:=by
   have:=aV n;omega
  have E:k<b.length:=by omega
  obtain ⟨x,F⟩:∃ x,a[k]=x:=⟨_,rfl⟩;obtain ⟨y,hy⟩:∃ y,b[k]=y:=⟨_,rfl⟩;have r:=Ha o E;rw [F,hy] at r;obtain ⟨p,H⟩:∃ p,g[k]?=some p:=⟨g[k]'om_,ak om_⟩;obtain ⟨q,I⟩:∃ q,i[k]?=some q:=⟨i[k]'om_,ak om_⟩;have S:(g.map fun x=>[x])[k]?=some [p]:=by rw [Ql,H];rfl
  have T:(i.map fun x=>[x])[k]?=some [q]:=by rw [Ql,I];rfl
  have U:=z.2 k p x H (by rw [ak o,F]);have V:=B.2 k q y I (by rw [ak E,hy]);refine Uy [0,1,2,3,4,5,6,7,8,9] [(8,1)] Z kr_ fun R hB s=>Uh 2 Z<|Us d.m_ U10 om_ S fl_ fun ae W=>Uc W U8<|Uh 2 Z<|Us f.m_ U10 om_ T fl_ fun af X=>Uc X U8<|UJ (fun _=>(wR _ _ _ x y U.m_ V.m_)) U9<|C4 1 [0,1,5,26] s Z<|Ud (fun t=>?_) fun t=>?_
  ·have u:x≠y:=by simpa using t
   exact Ua 1 [4] Z<|Ui U2<|⟨by rw [QK (fun e=>u (r.1 (l.1 e)).1)],Z⟩
  have u:x=y:=by simpa using t
  refine Ub 1 Z fun R s=>Ul _ U7<|C4 1 [0,1,5] s Z<|Up (m':=a.length-(k+1)) om_ O (hn_ [0,1,5] Z) ⟨k+1,⟨by omega,l.trans (r.trans ⟨fun h=>h.2,fun h=>⟨u,h⟩⟩)⟩,Z,Z,Z⟩
 have o:k=a.length:=by
  have:=Qm n;omega
 exact Ua 1 [4] Z<|Ui U2<|⟨by rw [QD (l.2 (by rw [RH om_,RH om_]))],Z⟩
def pO1:Obs:=⟨2,[120],qtx 1,qtx 0,[49],[66],[65],[],[],[]⟩
def pO2:Obs:=⟨2,[121],qtx 1,qtx 0,[50],[66],[65],[],[],[]⟩
def pB:Bk:=⟨[(0,0),(2,0),(0,2)],[(0,1,2)],[[57],[57],[57]],[⟨[65],0,none⟩,⟨[66],0,none⟩],[pO1,pO2]⟩
theorem zS (C:Mem)(b:Tabs C)(x y:Int)(c:x.natAbs<1000000000)(d:y.natAbs<1000000000):Gives cx.P 19 [.int .i64 x,.int .i64 y] C (ptV (((x:Int):Rat),((y:Int):Rat))):=by
 refine Uk func19 10 U3 fun w0=>Uf fun R a=>Uv U5 fun e=>Ug [0,1,4] a Z<|Ub 1 Z fun R a=>Ur (li _ b.m_ x om_) U7 fl_<|Ue U6<|Ur (li _ b.m_ y om_) U7 fl_<|Uu [ah (qtx x),ah (qtx y)] U8<|Um (j:=0) U12<|Ug [4] a Z<|Un (UU af U4 ?_);exact ⟨Z,Z⟩
def nJ (nm d:Str):List Value:=[.int .i64 2,ah nm,ah (qtx ((1:Int):Rat)),ah (qtx ((0:Int):Rat)),ah d,ah [66],ah [65],ah [],ah [],ah []]
theorem K6 (C:Mem)(c:Tabs C)(a d:Str):Gives cx.P 44 [ah a,ah d] C (.agg ⟨nJ a d⟩):=by
 refine Uk func44 9 U3 fun w0=>Uf fun R b=>Uv U5 fun e=>Ug [0,1,4] b Z<|Ub 1 Z fun R b=>Ur (zS _ c.m_ 1 0 dc_ dc_) U7 fl_<|Ue U6<|Uu (nJ a d) U8<|Um (j:=0) U12<|Ug [4] b Z<|Un (UU af U4 ?_);exact ⟨Z,Z⟩
theorem Dh:pB.col.map yT=[[ah [65],ah [48],ah []],[ah [66],ah [48],ah []]]:=by
 show [[ah [65],ah (qtx 0),ah []],[ah [66],ah (qtx 0),ah []]]=_;rw [Py]
theorem MM (C:Mem)(o:Tabs C):Pur cx.P 18 [] C fun u D=>BookIn D u pB:=by
 refine Uk func18 21 U3 fun w0=>Uf fun R a=>Uv U5 fun y=>Ug [0] a Z<|Uf fun R a=>Ur (zS _ o.m_ 0 0 dc_ dc_) U7 fl_<|Ur (zS _ o.m_ 2 0 dc_ dc_) U7 fl_<|Ur (zS _ o.m_ 0 2 dc_ dc_) U7 fl_<|UO [gp (((0:Int):Rat),((0:Int):Rat)),gp (((2:Int):Rat),((0:Int):Rat)),gp (((0:Int):Rat),((2:Int):Rat))] U12 fl_ fun i _ _ m=>Uu ([.int .i64 0,.int .i64 1,.int .i64 2]) U8<|UO [[.int .i64 0,.int .i64 1,.int .i64 2]] U12 fl_ fun k _ _ n=>Uu [.slice (some ⟨i,0,none⟩) 3 3,.slice (some ⟨k,0,none⟩) 1 1] U8<|Uv U5 fun H=>Um (j:=0) U12<|Ug [0,1] a Z<|Ua 1 [0,1,2] Z<|G.freeze 0 Z fun _ _ z=>G.cut (fun fr C' A B=>∃ (s t v w x:Value),(BookIn C' (.agg ⟨[s,t,v,w,x]⟩) pB)/\fr=[(0,[],.pointer (some ⟨y,0,none⟩))]/\A=[.obj y (.cells ⟨[s,t,v,w,x]⟩ 42 (0,0))]) ?_ (fun fr I J B K E=>?_)
 ·refine UW (.cut [0,2,3,5,6,7,8] (.alt 1 (.cut [] (.alt 4 (.fin [9,10,11]) (.alt 9 (.fin [4,10,11]) .stop))) (.alt 4 (.cut [] (.alt 1 (.fin [9,10,11]) (.alt 9 (.fin [1,10,11]) .stop))) (.alt 9 (.cut [] (.alt 1 (.fin [4,10,11]) (.alt 4 (.fin [1,10,11]) .stop))) .stop)))) [(6,1),(8,1),(0,0)] Z Z kr_ fun R l a b=>Vc (fun _=>((bkT z 2).mono l)) U9<|Uu ([ah [65],ah [48],ah []]) U8<|Uu ([ah [66],ah [48],ah []]) U8<|Ue U6<|UJ (fun _=>(K6 _ o.m_ [120] [49])) U9<|Ue U6<|UJ (fun _=>(K6 _ o.m_ [121] [50])) U9<|UL b Z ⟨?_, ?_, ?_,trivial⟩
  ·refine UO [[ah [57]],[ah [57]],[ah [57]]] U12 fl_ fun c p _ d=>UL b Z ⟨?_, ?_,trivial⟩
   ·refine UO [[ah [65],ah [48],ah []],[ah [66],ah [48],ah []]] U12 fl_ fun e q _ f=>UO [nJ [120] [49],nJ [121] [50]] U12 fl_ fun g r _ h=>Uu [.slice (some ⟨i,0,none⟩) 3 3,.slice (some ⟨k,0,none⟩) 1 1,.slice (some ⟨c,0,none⟩) 3 3,.slice (some ⟨e,0,none⟩) 2 2,.slice (some ⟨g,0,none⟩) 2 2] U8<|Um (j:=0) U12<|Ug [0] a Z ?_;clear a l b R;exact Uq 0 mup (hn_ [0] Z) ⟨_,_,_,_,_,⟨_,_,_,_,_,Z,m.mono mup,n.mono mup,d.mono mup,(by rw [Dh];exact f.mono mup),h.mono mup⟩,Z,Z⟩
   refine UO [nJ [120] [49],nJ [121] [50]] U12 fl_ fun g r _ h=>UO [[ah [65],ah [48],ah []],[ah [66],ah [48],ah []]] U12 fl_ fun e q _ f=>Uu [.slice (some ⟨i,0,none⟩) 3 3,.slice (some ⟨k,0,none⟩) 1 1,.slice (some ⟨c,0,none⟩) 3 3,.slice (some ⟨e,0,none⟩) 2 2,.slice (some ⟨g,0,none⟩) 2 2] U8<|Um (j:=0) U12<|Ug [0] a Z ?_;clear a l b R;exact Uq 0 mup (hn_ [0] Z) ⟨_,_,_,_,_,⟨_,_,_,_,_,Z,m.mono mup,n.mono mup,d.mono mup,(by rw [Dh];exact f.mono mup),h.mono mup⟩,Z,Z⟩
  ·refine UO [[ah [65],ah [48],ah []],[ah [66],ah [48],ah []]] U12 fl_ fun e q _ f=>UL b Z ⟨?_, ?_,trivial⟩
   ·refine UO [[ah [57]],[ah [57]],[ah [57]]] U12 fl_ fun c p _ d=>UO [nJ [120] [49],nJ [121] [50]] U12 fl_ fun g r _ h=>Uu [.slice (some ⟨i,0,none⟩) 3 3,.slice (some ⟨k,0,none⟩) 1 1,.slice (some ⟨c,0,none⟩) 3 3,.slice (some ⟨e,0,none⟩) 2 2,.slice (some ⟨g,0,none⟩) 2 2] U8<|Um (j:=0) U12<|Ug [0] a Z ?_;clear a l b R;exact Uq 0 mup (hn_ [0] Z) ⟨_,_,_,_,_,⟨_,_,_,_,_,Z,m.mono mup,n.mono mup,d.mono mup,(by rw [Dh];exact f.mono mup),h.mono mup⟩,Z,Z⟩
   refine UO [nJ [120] [49],nJ [121] [50]] U12 fl_ fun g r _ h=>UO [[ah [57]],[ah [57]],[ah [57]]] U12 fl_ fun c p _ d=>Uu [.slice (some ⟨i,0,none⟩) 3 3,.slice (some ⟨k,0,none⟩) 1 1,.slice (some ⟨c,0,none⟩) 3 3,.slice (some ⟨e,0,none⟩) 2 2,.slice (some ⟨g,0,none⟩) 2 2] U8<|Um (j:=0) U12<|Ug [0] a Z ?_;clear a l b R;exact Uq 0 mup (hn_ [0] Z) ⟨_,_,_,_,_,⟨_,_,_,_,_,Z,m.mono mup,n.mono mup,d.mono mup,(by rw [Dh];exact f.mono mup),h.mono mup⟩,Z,Z⟩
  refine UO [nJ [120] [49],nJ [121] [50]] U12 fl_ fun g r _ h=>UL b Z ⟨?_, ?_,trivial⟩
  ·refine UO [[ah [57]],[ah [57]],[ah [57]]] U12 fl_ fun c p _ d=>UO [[ah [65],ah [48],ah []],[ah [66],ah [48],ah []]] U12 fl_ fun e q _ f=>Uu [.slice (some ⟨i,0,none⟩) 3 3,.slice (some ⟨k,0,none⟩) 1 1,.slice (some ⟨c,0,none⟩) 3 3,.slice (some ⟨e,0,none⟩) 2 2,.slice (some ⟨g,0,none⟩) 2 2] U8<|Um (j:=0) U12<|Ug [0] a Z ?_;clear a l b R;exact Uq 0 mup (hn_ [0] Z) ⟨_,_,_,_,_,⟨_,_,_,_,_,Z,m.mono mup,n.mono mup,d.mono mup,(by rw [Dh];exact f.mono mup),h.mono mup⟩,Z,Z⟩
  refine UO [[ah [65],ah [48],ah []],[ah [66],ah [48],ah []]] U12 fl_ fun e q _ f=>UO [[ah [57]],[ah [57]],[ah [57]]] U12 fl_ fun c p _ d=>Uu [.slice (some ⟨i,0,none⟩) 3 3,.slice (some ⟨k,0,none⟩) 1 1,.slice (some ⟨c,0,none⟩) 3 3,.slice (some ⟨e,0,none⟩) 2 2,.slice (some ⟨g,0,none⟩) 2 2] U8<|Um (j:=0) U12<|Ug [0] a Z ?_;clear a l b R;exact Uq 0 mup (hn_ [0] Z) ⟨_,_,_,_,_,⟨_,_,_,_,_,Z,m.mono mup,n.mono mup,d.mono mup,(by rw [Dh];exact f.mono mup),h.mono mup⟩,Z,Z⟩
 obtain ⟨s,t,v,w,x,F,rfl,rfl⟩:=E;refine Un (UU af U4 ?_);exact ⟨Z,F⟩
theorem Mw (h:q.den=1):q=(q.num:Rat):=Rat.ext rfl h
def wlB (D:Int)(q:Rat):Bool:=decide ((q*(D:Rat)).den=1) && decide ((q*(D:Rat)).num.natAbs<=999999999)
theorem KY {D:Int}(h:wlB D q=true):Wl D q:=by
 unfold wlB at h;simp only [Qu,Qs] at h;exact ⟨_,Mw h.1,h.2⟩
theorem I2 {r:RowQ}(D:Int)(a:D≠0)(c:D.natAbs<=999999999)(h:(r.f.all (wlB D) && wlB D r.b)=true):RowI r:=by
 simp only [Qu,Qx] at h;exact ⟨D,a,c,fun q d=>KY (h.1 q d),KY h.2⟩
theorem tV:qtx 1=[49]:=tW (z:=1) aq
theorem I8:qtx 9=[57]:=tW (z:=9) aq
theorem ro1:dx [49]=1:=yt 1 tV aq
theorem PP:dx [50]=2:=yt 2 Mx aq
theorem ri:pO1=⟨2,[120],[49],[48],[49],[66],[65],[],[],[]⟩:=by rw [pO1,tV,qtx_zero]
theorem rh:pO2=⟨2,[121],[49],[48],[50],[66],[65],[],[],[]⟩:=by rw [pO2,tV,qtx_zero]
theorem OR:Good pB.pts pB.tris:=(GU aq dc_ dc_ dc_).1
theorem FU:lP pB.pts pB.tris (1,0)=[0]:=by decide +kernel
theorem PU:ptO pO1=(1,0):=by rw [ri];unfold ptO;rw [ro1,ro0]
theorem PT:ptO pO2=(1,0):=by rw [rh];unfold ptO;rw [ro1,ro0]
theorem PS:dO pO1=0:=by rw [ri];decide +kernel
theorem PR:dO pO2=0:=by rw [rh];decide +kernel
theorem PW:gC pB.pts pB.tris pB.col pO1=0:=by
 unfold gC;rw [aA (by rw [PS];decide),aA (by unfold Ib;rw [PU,FU];decide),aA (by rw [ri];decide +kernel),aA (by rw [ri];decide +kernel),aA (by rw [ri];unfold Ki;rw [ro1];decide +kernel),aA (by rw [ri];decide +kernel)]
theorem PV:gC pB.pts pB.tris pB.col pO2=0:=by
 unfold gC;rw [aA (by rw [PR];decide),aA (by unfold Ib;rw [PT,FU];decide),aA (by rw [rh];decide +kernel),aA (by rw [rh];decide +kernel),aA (by rw [rh];unfold Ki;rw [PP];decide +kernel),aA (by rw [rh];decide +kernel)]
def pFs:List Rat:=[9,9,9]
theorem OO:Terr pB pFs:=⟨by simp [pB,pFs,I8],rfl,by decide +kernel⟩
theorem p_on:onQ pB.pts pFs (0,1,2) (1,0)=9:=by decide +kernel
theorem ON:EE pB.pts pB.tris pFs (1,0)=.tuple #[ah (qtx 9),.int .i64 0]:=by
 unfold EE;rw [FU];show Dm (onQ pB.pts pFs (0,1,2) (1,0))=_;rw [p_on];unfold Dm;rw [aH (bP aq)]
theorem p_w:∀ j,QB 22 (wgt pB.pts (0,1,2) (1,0) j):=by
 intro j;rw [LS];rcases (by omega:j % 3=0∨j % 3=1∨j % 3=2) with h | h | h <;> rw [h] <;> decide +kernel
theorem p_sl:∀ j,QP 22 (slf pB.pts (0,1,2) j):=by
 intro j;unfold slf;rw [Iq];rcases (by omega:min j 2=0∨min j 2=1∨min j 2=2) with h | h | h <;> rw [h] <;> decide +kernel
def pR (z:Rat):List RowQ:=[⟨[1/2,1/2,0],z⟩,⟨[-1/2, -1/2,0], -z⟩]
theorem p_rows1:rowsO pB pO1 (1,0) (0,1,2) 9=pR 8:=by
 unfold rowsO kA;rw [ri,ro1];decide +kernel
theorem p_rows2:rowsO pB pO2 (1,0) (0,1,2) 9=pR 7:=by
 unfold rowsO kA;rw [rh,PP];decide +kernel
theorem PX:∀ o∈pB.obs,ObsR o:=by
 intro o a;simp only [pB,Qw,Rk,SI] at a;rcases a with rfl | rfl
 ·rw [ri];exact ⟨by decide,by decide,by decide,by decide,by decide,by decide,by decide,by decide,by decide⟩
 rw [rh];exact ⟨by decide,by decide,by decide,by decide,by decide,by decide,by decide,by decide,by decide⟩
theorem p_br:BookR pB:=by
 refine ⟨by decide, ?_,by decide,PX⟩;intro x a;simp only [pB,Qw,Rk,SI] at a;rcases a with rfl | rfl
 ·exact ⟨by decide +kernel,fun q h=>by simp at h,by decide⟩
 exact ⟨by decide +kernel,fun q h=>by simp at h,by decide⟩
theorem p_bz:ix pB=0:=by
 have h1:qV pB 1=0:=by
  have h0:qV pB 0=0:=rfl;show (if qV pB 0≠0 then qV pB 0 else obZ pB (pB.obs.take 0) (pB.obs.getD 0 JA))=0;rw [aA (by rw [h0];decide)];show obZ pB [] pO1=0;unfold obZ;rw [aA (by rw [PW];decide),aA dc_]
 have h2:qV pB 2=0:=by
  show (if qV pB 1≠0 then qV pB 1 else obZ pB (pB.obs.take 1) (pB.obs.getD 1 JA))=0;rw [aA (by rw [h1];decide)];show obZ pB [pO1] pO2=0;unfold obZ;rw [aA (by rw [PV];decide),aA dc_]
 unfold ix;rw [aA aq,aA aq,aA dc_];exact h2
def pRO (i:Nat):List RowQ:=if i=0 then pR 8 else pR 7
theorem MP:Fine pB pFs pO1 (1,0) 0 (0,1,2) 9 :=
 ⟨⟨rfl,rfl,by decide +kernel,⟨bP aq,bP aq⟩,fun _=>by decide +kernel⟩,⟨[],FU⟩,rfl,ON,by decide +kernel,by unfold kA;rw [ri,ro1];decide +kernel,p_w,by rw [ri];decide +kernel,p_sl,fun _ h=>absurd rfl h,by
  rw [p_rows1];unfold N5;decide +kernel⟩
theorem MO:Fine pB pFs pO2 (1,0) 0 (0,1,2) 9 :=
 ⟨⟨rfl,rfl,by decide +kernel,⟨bP aq,bP aq⟩,fun _=>by decide +kernel⟩,⟨[],FU⟩,rfl,ON,by decide +kernel,by unfold kA;rw [rh,PP];decide +kernel,p_w,by rw [rh];decide +kernel,p_sl,fun _ h=>absurd rfl h,by
  rw [p_rows2];unfold N5;decide +kernel⟩
theorem OP:Rich pB pFs pRO:=by
 refine ⟨OR,p_br,p_bz,OO,by decide,fun i o a=>?_⟩;rcases (by have h:=(aF.1 a).1;have h2:pB.obs.length=2:=rfl;omega:i=0∨i=1) with rfl | rfl
 ·simp only [pB,List.getElem?_cons_zero,QR] at a;subst a;exact ⟨_,_,_,_,MP,p_rows1.symm⟩
 simp only [pB,Sp,List.getElem?_cons_zero,QR] at a;subst a;exact ⟨_,_,_,_,MO,p_rows2.symm⟩
theorem pR_I:∀ r∈pR 8++pR 7,RowI r:=by
 intro r hr;simp only [pR,RZ,R7,Qw,Rk,SI] at hr;rcases hr with rfl | rfl | rfl | rfl <;> exact I2 2 dc_ dc_ aq
theorem p_th:bI pB=[]:=rfl
theorem Bg:Calm pB pFs pRO:=by
 refine ⟨OP,by decide,fun r hr=>(by rw [p_th] at hr;cases hr),fun i _ r hr=>?_,by decide,fun i _=>?_,by decide⟩
 ·refine pR_I r ?_;unfold pRO at hr;split at hr
  ·exact RN _ hr
  exact Sc _ hr
 unfold pRO;split <;> decide
theorem FW (y:Rat)(h:∀ r∈fq pB pRO l,Lp.sumN (fun j=>r.f.getD j 0*y) 3<=r.b):fu pB pRO l=true:=BD (lW.2 ⟨fun _=>y,h⟩)
theorem uf :fq pB pRO l=l.flatMap pRO:=by rw [lE,p_th];rfl
theorem p_h0:fu pB pRO []=true:=FW 0 (by rw [uf];decide)
theorem p_h1:fu pB pRO [0]=true:=FW 8 (by rw [uf];decide +kernel)
theorem p_h2:fu pB pRO [1]=true:=FW 7 (by rw [uf];decide +kernel)
theorem p_h3:fu pB pRO [0,1]=false:=by
 refine GP fun h=>?_;obtain ⟨y,hy⟩:=lW.1 h;rw [uf] at hy;have h1:=hy ⟨[-1/2, -1/2,0], -8⟩ aq;have h2:=hy ⟨[1/2,1/2,0],7⟩ aq;have e:bs pB*bp pB=3:=rfl;rw [e] at h1 h2;simp only [Lp.sumN,al,List.getElem?_cons_zero,Sp,Rx] at h1 h2;grind
theorem p_hS:hS pB pRO 0=true/\hS pB pRO 1=true/\hS pB pRO 2=true/\hS pB pRO 3=false:=⟨p_h0,p_h1,p_h2,p_h3⟩
theorem Oz:bH 2=[0,1,2,3]:=by decide +kernel
theorem MQ:cZ (hS pB pRO) (bH 2)=[3]:=by
 obtain ⟨h0,h1,h2,h3⟩:=p_hS;rw [Oz];simp only [cZ,RI,List.foldl_nil,fP,h0,h1,h2,h3,List.any_nil,Bool.or_true,Bool.or_false,R9,Q9,RF,R7]
theorem OQ:(iV (hC pB pRO) (bH 2)).map aX=[[0],[1]]:=by
 obtain ⟨h0,h1,h2,h3⟩:=p_hS;have a:hC pB pRO 0=false:=h3;have b:hC pB pRO 1=true:=h2;have c:hC pB pRO 2=true:=h1;have d:hC pB pRO 3=true:=h0;rw [Oz];simp only [iV,RI,List.foldl_nil,mE,a,b,c,d];decide +kernel
theorem Qe:AscIn 2 [0,1]:=⟨by decide,by decide⟩
theorem asc1:AscIn 2 [1]:=⟨by decide,by decide⟩
theorem Dj {D:Mem}{a b:Value}{p q:List Nat}(c:Sl D 1 a (p.map aO))(d:Sl D 1 b (q.map aO))(e:Sl D 1 v [[a],[b]]):OutsIn D v [p,q] :=
 ⟨[a,b],(OutL.nil D).snoc c |>.snoc d,e⟩
theorem yk {D:Mem}{u:Value}(h:SmallO [x] D u):∃ v,u=.tuple #[v,.bool true,.int .i64 0]/\Sl D 1 v ((aX x).map aO):=by
 cases h with
 | none h=>cases h
 | some y v h1 h2 =>
  cases h1
  exact ⟨v,Z,h2⟩
theorem Gu (C:Mem)(b:Tabs C):Gives cx.P 11 [] C (.bool true):=by
 refine Uk func11 71 U3 fun w0=>Ub 1 Z fun R a=>Vf [] trivial (a _ _ _ Z ?_);refine Uf fun R a=>UM (MM _ b.m_) U7 (fun y _ _ c=>?_);obtain ⟨w1,z,A,B,D,rfl,g,h,i,k,l⟩:=id c.ex;obtain ⟨E,F,rfl,_⟩:=id g;obtain ⟨A2,c2,rfl,_⟩:=id h;obtain ⟨H,I,rfl,_⟩:=id i;obtain ⟨J,K,rfl,_⟩:=id k;obtain ⟨L,M,rfl,_⟩:=id l;refine Uv U5 fun N=>Um (j:=0) U12<|Ug [1] a Z<|G.freeze 0 Z fun _ _ e=>Uf fun R a=>Uc (bkT e 5) U8<|Ux [[.int .i64 0],[.int .i64 1]] U12 fun O _ _ m=>Uo (oq _ b.m_ _ _ pB pFs pRO [0,1] c.m_ Bg Qe m.m_) U7<|C4 5 [1,2,3] a Z<|Uf fun R a=>Uc (bkT e 5) U8<|Ux [[.int .i64 1]] U12 fun Q _ _ n=>Uo (oq _ b.m_ _ _ pB pFs pRO [1] c.m_ Bg asc1 n.m_) U7<|C4 5 [1,2,3,4,5] a Z<|Uf fun R a=>Uc (bkT e 5) U8<|UH (zq _ b.m_ _ pB pFs pRO c.m_ Bg dc_) U7 fl_ (fun S _ _ o=>?_);have p:=MQ ▸ o;obtain ⟨T,rfl,q⟩:=yk p;refine C4 7 [1,2,3,4,5,6,7,8] a Z<|Uf fun R a=>Uc (bkT e 5) U8<|UH (ta _ b.m_ _ pB pFs pRO c.m_ Bg dc_) U7 fl_ (fun U _ _ r=>?_);obtain ⟨V,rfl,f⟩:=r;rw [show pB.obs.length=2 from rfl,OQ] at f;exact C4 5 [2,3,4,5,6,7,8,9,10] a Z<|Ub 5 Z fun R a=>UD U8<|Uh 2 Z<|UD U8<|Uh 3 Z<|UD U8<|Uh 2 Z<|Vr [[.int .i64 0],[.int .i64 1]] U12 fl_ U2 fun W _ _ s=>Uz (fun d=>wR _ _ _ [0,1] [0,1] q.m_ ((s (by exact d)).mono mup)) U9<|UD U8<|Uh 2 Z<|UD U8<|Uh 3 Z<|UD U8<|Uh 2 Z<|Vr [[.int .i64 0]] U12 fl_ U2 fun t _ _ u=>Vr [[.int .i64 1]] U12 fl_ U2 fun v _ _ w=>Vr [[.slice (some ⟨t,0,none⟩) 1 1],[.slice (some ⟨v,0,none⟩) 1 1]] U12 fl_ U2 fun X _ _ x=>Uz (fun d=>Bx _ _ _ [[0],[1]] [[0],[1]] f.m_ (Dj ((u (by exact d)).mono mup) ((w (by exact d)).mono mup) ((x (by exact d)).mono mup)) dc_) U9<|UD U8<|Uh 3 Z<|UD U8<|C4 1 [0] a Z<|Ui U2<|⟨by rw [p_h3,p_h2];rfl,Z⟩
def gz (a b:List Nat):Bool:=a.all fun x=>b.any fun y=>x == y
theorem KN {b:List Nat}{y:Nat}{p:Nat->Bool}(h:b[k]?=some y):(b.take (k+1)).any p=((b.take k).any p || p y):=by
 rw [QJ,h,List.any_append];simp
theorem M3 (x y:Nat):((x:Int) == (y:Int))=(x == y):=by
 by_cases h:x=y
 ·subst h;simp
 rw [Rt.2 h,Rt.2 (fun e=>h (Int.ofNat_inj.1 e))]
theorem By (C:Mem)(v w:Value)(a b:List Nat)(f:Sl C 1 v (a.map aO))(g:Sl C 1 w (b.map aO)):Gives cx.P 15 [v,w] C (.bool (gz a b)):=by
 obtain ⟨A,c,rfl,B,J,_⟩:=id f;obtain ⟨A2,c2,rfl,D,K,_⟩:=id g;have L:maxLen<=9223372036854775807:=by simp [maxLen]
 simp only [aw] at f g B D ⊢;refine Uk func15 32 U3 fun w0=>Ua 1 [0,1] Z<|Ua 3 [1,10,11,12] Z<|G.loop (fun fr C' h j=>∃ (i:Nat),(i<=a.length/\(a.take i).all (fun x=>b.any fun y=>x == y)=true)/\fr=[(1,[],.slice A2 b.length c2),(10,[],.slice A a.length c),(11,[],.int .i64 a.length),(12,[],.int .i64 i)]/\h=[]/\j=a.length-i) (hn_ [1,10,11,12] Z) ⟨0,⟨Qn _,Z⟩,Z,Z,Z⟩ (fun fr M N m _ l=>?_);obtain ⟨i,⟨O,n⟩,rfl,rfl,rfl⟩:=l;refine Ua 1 [1,10,11,12,13] Z<|Ud (fun o=>?_) fun o=>?_
 ·have q:i<a.length:=by
   have:=aV o;omega
  obtain ⟨x,r⟩:∃ x,a[i]?=some x:=⟨a[i],ak q⟩;refine Uf fun R d=>Us f.m_ U10 om_ (qg r) fl_ fun Q E=>Uc E U8<|C4 1 [1,6,10,11,12] d Z<|Ua 1 [1,6,7,10,11,12] Z<|Ua 3 [1,6,7,10,11,12,16,17,18] Z<|G.loop (fun fr C' h j=>∃ (k:Nat),(k<=b.length)/\fr=[(1,[],.slice A2 b.length c2),(6,[],.int .i64 (x:Nat)),(7,[],.bool ((b.take k).any fun y=>x == y)),(10,[],.slice A a.length c),(11,[],.int .i64 a.length),(12,[],.int .i64 i),(16,[],.slice A2 b.length c2),(17,[],.int .i64 b.length),(18,[],.int .i64 k)]/\h=[]/\j=b.length-k) (hn_ [1,6,7,10,11,12,16,17,18] Z) ⟨0,Qn _,Z,Z,Z⟩ (fun fr S T m F l=>?_);obtain ⟨k,U,rfl,rfl,rfl⟩:=l;refine Ua 1 [1,6,7,10,11,12,16,17,18,19] Z<|Ud (fun s=>?_) fun s=>?_
  ·have t:k<b.length:=by
    have:=aV s;omega
   obtain ⟨y,hy⟩:∃ y,b[k]?=some y:=⟨b[k],ak t⟩;have H:=KN (p:=fun y=>x == y) hy;refine Uf fun R d=>Us g.m_ U10 om_ (qg hy) fl_ fun V I=>Uc I U8<|C4 1 [1,6,7,9,10,11,12,16,17,18] d Z<|Ub 5 Z fun R d=>UF U8<|C4 1 [1,6,7,10,11,12,16,17,18] d Z ?_;rw [show (((b.take k).any fun y=>x == y) || ((x:Int) == (y:Int)))=(b.take (k+1)).any fun y=>x == y from by rw [H];congr 1;exact M3 x y];refine Uf fun R d=>Ul _ U7<|C4 1 [1,6,7,10,11,12,16,17,18] d Z<|Up (m':=b.length-(k+1)) om_ F (hn_ [1,6,7,10,11,12,16,17,18] Z) ⟨k+1,om_,Z,Z,Z⟩
  have t:k=b.length:=by
   have:=Qm s;omega
  subst t;rw [Qv];refine Ua 2 [1,10,11,12,30] Z<|Ud (fun u=>?_) fun u=>?_
  ·have z:(b.any fun y=>x == y)=false:=by simpa using u
   refine Ua 1 [4] Z<|Ui U2<|⟨?_,Z⟩;have e:gz a b=false:=by
    unfold gz;exact SC.2 ⟨x,Qi r,by simp only [z];decide⟩
   rw [e]
  have z:(b.any fun y=>x == y)=true:=by simpa using u
  refine Uf fun R d=>Ul _ U7<|C4 1 [1,10,11,12] d Z<|Up (m':=a.length-(i+1)) om_ mup (hn_ [1,10,11,12] Z) ⟨i+1,⟨by omega,by rw [QJ,r,Tm,n];simpa using z⟩,Z,Z,Z⟩
 have q:i=a.length:=by
  have:=Qm o;omega
 refine Ua 1 [4] Z<|Ui U2 ?_;rw [q,Qv] at n;exact ⟨by rw [gz,n],Z⟩
theorem uh (h:OutL C vs outs)(j:Nat):∃ A c,vs.getD j (.slice none 0 0)=.slice A (outs.getD j []).length c/\Sl C 1 (.slice A (outs.getD j []).length c) ((outs.getD j []).map aO):=by
 by_cases a:j<vs.length
 ·have b:j<outs.length:=by rw [<- h.1];exact a
  have h1:vs[j]?=some (vs.getD j (.slice none 0 0)):=by rw [al,ak a];rfl
  have h2:outs[j]?=some (outs.getD j []):=by rw [al,ak b];rfl
  have hs:=h.2 j _ _ h1 h2;obtain ⟨A,c,e,_⟩:=id hs;rw [aw] at e;rw [e] at hs;exact ⟨A,c,e,hs⟩
 have b:¬ j<outs.length:=by rw [<- h.1];exact a
 refine ⟨none,0, ?_, ?_⟩
 ·rw [al,Qr om_,al,Qr om_];rfl
 rw [al,Qr om_];exact Sl.nil _ _
theorem FY {w:Value}(a:k<vs.length)(h:vs.getD k (.slice none 0 0)=w):(vs.map fun x=>[x])[k]?=some [w]:=by
 rw [Ql,ak a];rw [al,ak a] at h;cases h
 rfl
theorem AscIn.erase (h:AscIn n l)(i:Nat):AscIn n (l.eraseIdx i):=⟨fun j a=>h.lt j (List.mem_of_mem_eraseIdx a),h.up.sublist (List.eraseIdx_sublist ..)⟩
theorem sz (l:List Nat):(l.map aO).flatten=(l.map fun n:Nat=>(n:Int)).map fun x=>Value.int .i64 x:=by
 induction l with
 | nil=>rfl
 | cons x l a=>simp only [QU,RM,a];rfl
theorem xq (l:List α)(i:Nat):l.take i++l.drop (i+1)=l.eraseIdx i:=(List.eraseIdx_eq_take_drop_succ l i).symm
theorem Na (C:Mem)(v:Value)(l:List Nat)(i:Nat)(j:i<l.length)(a:Sl C 1 v (l.map aO))(k:l.length<=1000) :
  Pur cx.P 48 [v,.int .i64 i] C fun u D=>Sl D 1 u ((l.eraseIdx i).map aO):=by
 have m:maxLen<=9223372036854775807:=by simp [maxLen]
 refine Uk func48 11 U3 fun w0=>Ua 1 [0,1] Z<|UB [(1,3),(5,3)] Z fun R b=>Ue U6<|D.call (LK _ _ l a.m_ om_) Z (.inr dc_) U6 (Qo _) fl_ (fun o _ p _ c=>?_);obtain ⟨d,e,f,rfl,rfl⟩:=c;refine Uh 2 Z<|UN (((i+1:Nat):Int)) U4 om_ om_ om_ U2<|D.call (xo Tryz.delInt _ (.slice d e f) 3 (l.map fun n:Nat=>(n:Int)) i (i+1) om_ ap ap kr_) Z (.inr dc_) U6 (List.Perm.of_eq (show _=_++([]:List Ent) from by rw [sz,aw])) fl_ (fun q _ r _ g=>?_);subst g;exact C4 1 [4] b Z<|G.freezeArr 0 ((l.eraseIdx i).map aO) Z (by rw [<- SE,<- List.map_drop,<- QX,xq,sz]) (jo _) (by rw [<- SE,<- List.map_drop,<- QX,xq,aw,aw]) fun _ _ h=>Ui U2<|⟨Z,h⟩
noncomputable def JV (B:Bk)(RO:Nat->List RowQ)(l:List Nat):Bool:=!fu B RO l && (List.range l.length).all fun i=>fu B RO (l.eraseIdx i)
theorem O3 (C:Mem)(r:Tabs C)(s t:Value)(B:Bk)(g:List Rat)(b:Nat->List RowQ)(l:List Nat)(c:BookIn C s B)(h:Calm B g b)(j:AscIn B.obs.length l)(d:Sl C 1 t (l.map aO)) :
  Gives cx.P 24 [s,t] C (.tuple #[.bool (JV B b l),.int .i64 0]):=by
 have u:=c;have J:maxLen<=9223372036854775807:=by simp [maxLen]
 have K:l.length<=12:=QE j.set.len h.ob;obtain ⟨L,M,N,O,Q,rfl,_⟩:=id c.ex;obtain ⟨x,y,rfl,z,S,_⟩:=id d;simp only [aw] at d z ⊢;refine Uk func24 44 U3 fun w0=>?_;refine Uf fun R a=>?_;refine Uw U6 (fun A=>?_);refine C4 2 [1,2] a Z ?_;clear a R;refine G.freeze 0 Z (fun _ _ v=>?_);refine Uf fun R a=>?_;refine Uc (bkT v 5) U8 ?_;refine Ue U6 ?_;refine Uo (oq _ r.m_ _ _ B g b l u.m_ h j d.m_) U7 ?_;refine C4 5 [1,2,6,7] a Z ?_;clear a R;refine Ub 4 Z fun R a=>?_;refine UF U8 ?_;refine Ug [1,2,7,21] a Z ?_;clear a R;refine Ud (fun n=>?_) fun n=>?_
 ·refine Ua 3 [4,5] Z ?_;refine Un (G.dropAll (UC U3 ?_));have e:JV B b l=false:=by
   have h2:fu B b l=true:=by simpa using n
   unfold JV;rw [h2];rfl
  exact ⟨by rw [e],Z⟩
 have D:fu B b l=false:=by simpa using n
 refine Ua 3 [1,2,24,25] Z ?_;refine G.loop (fun fr C' E F=>∃ (i:Nat),(i<=l.length/\∀ k,k<i->fu B b (l.eraseIdx k)=true)/\fr=[(1,[],.slice x l.length y),(2,[],.pointer (some ⟨A,0,none⟩)),(24,[],.int .i64 l.length),(25,[],.int .i64 i)]/\E=[]/\F=l.length-i) (hn_ [1,2,24,25] Z) ⟨0,⟨Qn _,fun k o=>by omega⟩,Z,Z,Z⟩ (fun fr T U m _ H=>?_);obtain ⟨i,⟨V,w⟩,rfl,rfl,rfl⟩:=H;refine Ua 1 [1,2,24,25,26] Z ?_;refine Ud (fun p=>?_) fun p=>?_
 ·have f:i<l.length:=by
   have:=aV p;omega
  refine Ua 2 [1,2,8,24,25] Z ?_;refine Uy [0,1,2,3,4,5,6,7,8,9] [(4,1),(0,0)] Z kr_ (fun R c a=>?_);refine Vc (fun _=>((bkT v 5).mono c)) U9 ?_;refine Uh 2 Z ?_;refine UH (Na _ _ l i f d.m_ om_) U7 fl_ (fun W _ _ I=>?_);refine UJ (fun _=>(uz _ r.m_ _ _ B g b (l.eraseIdx i) u.m_ h (j.erase i).set I.m_)) U9 ?_;refine Uh 5 Z ?_;refine Ug [1,2,9,10,24,25] a Z ?_;clear a c R;refine Ub 5 Z fun R a=>?_;refine UF U8 ?_;refine Ug [1,2,10,24,25,41] a Z ?_;clear a R;refine Ud (fun q=>?_) fun q=>?_
  ·refine Ua 3 [4,5] Z ?_;refine Un (G.dropAll (UC U3 ?_));have e:JV B b l=false:=by
    have h2:fu B b (l.eraseIdx i)=false:=by simpa using q
    unfold JV;rw [Ta];exact .inr (SC.2 ⟨i,QA.2 f,by rw [h2];decide⟩)
   exact ⟨by rw [e],Z⟩
  have h2:fu B b (l.eraseIdx i)=true:=by simpa using q
  refine Uf fun R a=>?_;refine Ul _ U7 ?_;refine C4 1 [1,2,24,25] a Z ?_;clear a R;refine Up (m':=l.length-(i+1)) om_ mup (hn_ [1,2,24,25] Z) ⟨i+1,⟨by omega,fun k o=>by
   rcases QQ k i with h1 | h1
   ·exact w k h1
   rw [show k=i by omega];exact h2⟩,rfl,rfl,rfl⟩
 have f:i=l.length:=by
  have:=Qm p;omega
 subst f;refine Ua 2 [4,5] Z ?_;refine Un (G.dropAll (UC U3 ?_));have e:JV B b l=true:=by
  unfold JV;rw [D];exact Qx.2 fun k o=>w k (QA.1 o)
 exact ⟨by rw [e],Z⟩
section
variable {B:Bk} {RO:Nat->List RowQ}
theorem JX {l m:List Nat}(h:∀ x∈m,x∈l)(a:fu B RO l=true):fu B RO m=true:=by
 have h1:D8 B RO l:=@aV _ (Classical.propDecidable _) a;obtain ⟨y,hy⟩:=lW.1 h1;refine BD (lW.2 ⟨y,fun r hr=>hy r ?_⟩);rw [lE] at hr ⊢;rcases Qy.1 hr with hr | hr
 ·exact Qy.2 (.inl hr)
 obtain ⟨i,b,hr⟩:=List.mem_flatMap.1 hr;exact Qy.2 (.inr (List.mem_flatMap.2 ⟨i,h i b,hr⟩))
theorem HO:∀ n<4,∀ s<2 ^ n,∀ x<2 ^ n,x &&& s=x->((aX x).all fun i=>(aX s).contains i)=true:=by decide +kernel
theorem KH {n s x:Nat}(a:n<4)(b:s<2 ^ n)(c:x<2 ^ n)(e:x &&& s=x):∀ i∈aX x,i∈aX s:=fun i d=>SM.1 (Qx.1 (HO n a s b x c e) i d)
theorem Ge {n:Nat}(a:n<4):PD n (hS B RO):=fun _c _d hs b e h=>JX (KH a hs b e) h
theorem JU {n s:Nat}(a:n<4)(b:s<2 ^ n):JV B RO (aX s)=(cZ (hS B RO) (bH n)).contains s:=by
 rw [<- GK a (Ge (B:=B) (RO:=RO) a) b];unfold JV N3;show (!hS B RO s && _)=_;congr 1;rw [S3,Qx,Qx];refine forall_congr' fun i=>forall_congr' fun c=>?_;show _ ↔ fu B RO (aX (Kv ((aX s).eraseIdx i)))=true;rw [(sN n a s b i (QA.1 c)).1]
end
theorem F7 (S:Sht)(l:List Sgt):(qT S l).take 3=qT S (l.take 3):=by
 unfold qT;rw [<- SE,List.take_range,Qz,show min 3 (min l.length 6)=min (min 3 l.length) 6 by omega];refine List.map_congr_left fun i a=>?_;have:=QA.1 a;rw [al,al,QZ,aH om_]
theorem sV (S:Sht)(H:Hts)(l:List Sgt):cm S H (l.take 3)={ cm S H l with obs:=(cm S H l).obs.take 3 }:=by
 unfold cm;simp only [F7]
theorem Cc :(.tuple #[v,.bool (decide ((n:Int)<=4) && true)]:Value)=.tuple #[v,.bool (decide (n<=4))]:=by
 rw [Bool.and_true,show decide ((n:Int)<=4)=decide (n<=4) from Q7.2 om_]
theorem NR (C:Mem)(q:Tabs C)(v:Value)(S:Sht)(H:Hts)(l:List Sgt)(L:Ck C v S H l)(e:PlanR S H l) :
  Pur cx.P 12 [v] C fun u D=>∃ bv,u=.tuple #[bv,.bool (decide ((cD (S.kd % 8) S.a S.b S.h).length<=4))]/\BookIn D bv (cm S H (l.take 3)):=by
 obtain ⟨A,c,rfl,M⟩:=L;have N:=(fA (S.kd % 8) (Q2 _ dc_) S.a S.b S.h).1;refine Uk func12 26 U3 fun w0=>Uf fun R d=>Uw U6 fun T=>Uv U5 fun U=>C4 1 [1,2] d Z<|Uf fun R d=>Uj ae U9<|UM (Gm _ q.m_ S H _ l e.kd e.h M.m_ e.s N) U7 (fun V w _ x=>?_);obtain ⟨W,X,Y,cv,ov,rfl,i,k,n,o,p⟩:=id x;obtain ⟨y,z,rfl,_⟩:=id i;obtain ⟨B,E,rfl,_⟩:=id k;obtain ⟨F,G,rfl,_⟩:=id n;obtain ⟨I,J,rfl,_⟩:=id o;obtain ⟨r,f,rfl,O,aa,_⟩:=id p;simp only [aw] at x i k n o p O ⊢;refine Uv U5 fun b4=>Um (j:=0) U12<|Ug [2,4] d Z<|Ub 1 Z fun R d=>Uj af U9<|C4 2 [2,4,10] d Z<|Ud (fun t=>?_) fun t=>?_
 ·have h3:3<(cm S H l).obs.length:=by
   have:=aV t;omega
  have K:=p.sub (l:=0) (h:=3) (m:=f) (Qn _) (by rw [aw];omega) om_ (Qj _);rw [Ru,<- SE] at K;have g:BookIn w (.agg ⟨[.slice y (cm S H l).pts.length z,.slice B (cm S H l).tris.length E,.slice F (cm S H l).terr.length G,.slice I (cm S H l).col.length J,.slice (if f=0 then r else r.map (·.add (0*11))) (3-0) (f-0)]⟩) (cm S H (l.take 3)):=by
   rw [sV];exact ⟨_,_,_,_,_,Z,i,k,n,o,K⟩
  refine Ub 1 Z fun R d=>Uj af U9<|U0 0 3 f U12 (fun _=>⟨.inl ⟨Z,Z⟩,.inr ⟨_,Z⟩,.inl ⟨Z,Z⟩,by omega,by omega,Qj _⟩) U2<|Ue U6<|Um (j:=0) U12<|Ug [2,4] d Z<|Uy [0,1,2,3,4,5,6,7,8,9,10,11,12] [] Z kr_ fun R Q d=>Uj af U9<|Uh 2 Z<|Uj af U9<|Uh 3 Z<|Uj af U9<|UJ (fun _=>((HM _ q.m_ _ S H (l.take 3) (fun s hs=>e.s s (List.take_subset _ _ hs)) g).ch _ mup)) U9<|Ue U6<|UD U8<|Um (j:=1) U12<|C4 1 [2,3] d Z<|Un (Vm af U5 ?_);exact ⟨Z,_,Cc,g.mono mup⟩
 have h3:¬ 3<(cm S H l).obs.length:=by
  have:=Qm t;omega
 have g:BookIn w (.agg ⟨[.slice y (cm S H l).pts.length z,.slice B (cm S H l).tris.length E,.slice F (cm S H l).terr.length G,.slice I (cm S H l).col.length J,.slice r (cm S H l).obs.length f]⟩) (cm S H (l.take 3)):=by
  rw [sV,Q0 om_];exact ⟨_,_,_,_,_,Z,i,k,n,o,p⟩
 refine Uy [0,1,2,3,4,5,6,7,8,9,10,11,12] [] Z kr_ fun R Q d=>Uj af U9<|Uh 2 Z<|Uj af U9<|Uh 3 Z<|Uj af U9<|UJ (fun _=>((HM _ q.m_ _ S H (l.take 3) (fun s hs=>e.s s (List.take_subset _ _ hs)) g).ch _ mup)) U9<|Ue U6<|UD U8<|Um (j:=1) U12<|C4 1 [2,3] d Z<|Un (Vm af U5 ?_);exact ⟨Z,_,Cc,g.mono mup⟩
theorem CX {o:Obs}{p:Pt}{t:Tri}{z:Rat}(h:(cJ B.col o).length<=2):(rowsO B o p t z).length<=8:=by
 unfold rowsO;split
 ·rw [Qp];split <;> split <;> simp
 split
 ·have:=J7 (c:=2) (f:=fun k=>[1, -1].map (iC (bs B) (bp B) k (atT t (wgt B.pts t p)) (kA o z))) (l:=cJ B.col o) (fun k _=>by simp);omega
 have:=J7 (c:=4) (f:=fun k=>[1, -1].map (iC (bs B) (bp B) k (atT t fun j=>(slf B.pts t j).1) (qj o))++[1, -1].map (iC (bs B) (bp B) k (atT t fun j=>(slf B.pts t j).2) (jb o))) (l:=cJ B.col o) (fun k _=>by simp);omega
theorem D5 (S:Sht)(H:Hts)(l:List Sgt)(c:∀ s∈l,SgtR s)(e:(cD (S.kd % 8) S.a S.b S.h).length<=4):Calm (cm S H l) (fsK (cD (S.kd % 8) S.a S.b S.h).length H) (roK S H l):=by
 have f:(cm S H l).obs.length=min l.length 6:=jI S l;refine ⟨D4 S H l c, ?_,Ae Qb _,fun i g=>?_, ?_,fun i _=>?_,by omega⟩
 ·show 2*(cD (S.kd % 8) S.a S.b S.h).length<=12;omega
 ·have d:i<l.length:=by omega
  refine OC S H l _ i ?_;rw [al,ak d];exact c _ (Rf d)
 ·have h1:=jB (bs (cm S H l)) (bp (cm S H l)) colK 1;have h2:bp (cm S H l)<=4:=e;show (bj (bs (cm S H l)) (bp (cm S H l)) colK 1).length<=24;omega
 refine CX ?_;unfold cJ vQ;refine QE (RE _ _) ?_;rw [Rh];exact Qj 2
end Go.Proofs.YthnpijdjlddpmaaGreatDoor
