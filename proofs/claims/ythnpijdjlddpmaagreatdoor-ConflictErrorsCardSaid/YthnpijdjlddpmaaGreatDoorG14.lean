/- Laws that the proofs of this seat share, part 14. -/
import Derived.Test.YthnpijdjlddpmaaGreatDoorG13
import Derived.Test.YthnpijdjlddpmaaGreatDoorShelf
set_option maxHeartbeats 4000000
namespace Go.Proofs.YthnpijdjlddpmaaGreatDoor
open Go.Proofs.Tryz
open Go Go.Jog
set_option maxRecDepth 100000
variable {B:Bk}{C:Mem}{RO:Nat->List RowQ}{k:Nat}{l:List Nat}{outs:List (List Nat)}{q:Rat}{v vs:List Value}{x:Nat}
theorem nV (C:Mem)(g:Value)(B:Bk)(z:Int)(k:BookZ C g B z)(d:z≠0)(s:bs B*bp B<=60)(t:B.obs.length<=12) :
  Jog.Fn cx.P 37 [g] C [] fun u _ b=>u=.tuple #[.pointer none,.int .i64 z]/\b=[]:=by
 have l:=k;obtain ⟨E,F,H,I,J,rfl,h1,h2,h3,h4,h5⟩:=id k.i.ex;obtain ⟨K,L,rfl,_⟩:=id h1;obtain ⟨A2,c2,rfl,_⟩:=id h2;obtain ⟨M,N,rfl,_⟩:=id h3;obtain ⟨O,Q,rfl,_⟩:=id h4;obtain ⟨S,T,rfl,v,U,_⟩:=id h5;obtain ⟨n,o⟩:∃ n,B.obs.length=n:=⟨_,rfl⟩;have V:maxLen<=9223372036854775807:=by simp [maxLen]
 rw [o] at t;simp only [al,o] at h5 v l ⊢;refine Sc func37 34 U3 fun w0=>R8 fun R a=>So U6 fun w=>C4 2 [1] a Z<|G.freeze 0 Z fun _ _ p=>R4 1 Z fun R a=>R5 (bkT p 1) U8<|R7 U6<|S3 U9 (Oo _) (by show 8*n<=_;omega) (by simp only [maxLen];omega) fl_ fun c=>C4 1 [1,4] a Z<|C6 3 [1,4,12,13] Z<|Sp (L':=[.arr (.slice (some ⟨c,0,none⟩) n n) 3 1 n ((wU 0 n).map aQ).flatten]) (by rw [<- uw];rfl)<|G.loop (fun fr C' b x=>∃ (i:Nat),(i<=n)/\fr=[(1,[],.pointer (some ⟨w,0,none⟩)),(4,[],.slice (some ⟨c,0,none⟩) n n),(12,[],.int .i64 n),(13,[],.int .i64 i)]/\b=[.arr (.slice (some ⟨c,0,none⟩) n n) 3 1 n ((wU i n).map aQ).flatten]/\x=n-i) (hn_ [1,4,12,13] Z) ⟨0,Ow _,Z,Z,Z⟩ (fun fr W X m y A=>?_);obtain ⟨i,Y,rfl,rfl,rfl⟩:=A;refine C6 1 [1,4,12,13,14] Z<|R6 (fun e=>?_) fun e=>?_
 ·have f:i<n:=by
   have:=NM e;omega
  refine C6 2 [1,4,5,12,13] Z<|R4 3 Z fun R a=>SC (i*1) U10 ah U2<|SG (j:=0) U11 (by show i*1+1<=_;rw [bQ lg,mU];omega)<|Sa [1,4,12,13] a Z<|R8 fun R a=>Se _ U7<|C4 1 [1,4,12,13] a Z<|Sp (L':=[.arr (.slice (some ⟨c,0,none⟩) n n) 3 1 n ((wU (i+1) n).map aQ).flatten]) (by rw [<- yN,<- bJ lg _ (by rw [mU];exact f)];rfl)<|Sj (m':=n-(i+1)) om_ y (hn_ [1,4,12,13] Z) ⟨i+1,om_,Z,Z,Z⟩
 have f:i=n:=by
  have:=Ox e;omega
 subst f;rw [ux];refine G.freezeArr 0 ((List.range i).map aQ) Z Z (ph _) am fun _ _ D=>R8 fun R a=>R5 (bkT p 5) U8<|R7 U6<|Sk (tN _ _ _ B z ((List.range i).map fun q:Nat=>(q:Int)) l.m_ s (by rw [Pc];exact D.mono mup) (by simp only [al,Pr];omega) (fun h=>absurd h d)) U7 fl_<|C4 1 [1,4,6] a Z<|C6 2 [1,4,6,25] Z<|R6 (fun r=>?_) fun r=>?_
 ·refine C6 3 [2,3] Z<|Sh (G.dropAll (Sy U3 ?_));exact ⟨by simp [d],Z⟩
 exact absurd r (by simp [d])
theorem ym (C:Mem)(b:Value)(B:Bk)(z:Int)(c:BookZ C b B z)(d:z≠0)(f:bs B*bp B<=60)(g:B.obs.length<=12) :
  Gives cx.P 13 [b] C (.tuple #[.slice none 0 0,.int .i64 z]):=by
 have h:=c;obtain ⟨l,m,n,o,p,rfl,_⟩:=id c.i.ex;refine Sc func13 69 U3 fun w0=>R8 fun R a=>So U6 fun q=>C4 2 [1] a Z<|G.freeze 0 Z fun _ _ j=>Sx [(1,3)] Z fun R a=>R5 (bkT j 5) U8<|D.call (nV _ _ B z h.m_ d f g) Z (.inr dc_) U6 (Ov _) fl_ (fun r _ s _ k=>?_);obtain ⟨rfl,rfl⟩:=k;refine C4 5 [1,4,5] a Z<|C6 2 [1,4,5,19] Z<|R6 (fun e=>?_) fun e=>?_
 ·refine C6 3 [2,3] Z<|Sh (G.dropAll (Sy U3 ?_));exact ⟨Z,Z⟩
 exact absurd e (by simp [d])
theorem Mc (C:Mem)(b:Value)(B:Bk)(z:Int)(c:BookZ C b B z)(d:z≠0)(e:bs B*bp B<=60)(f:B.obs.length<=12) :
  Gives cx.P 20 [b] C (.tuple #[.slice none 0 0,.int .i64 z]):=by
 have g:=c;obtain ⟨n,o,p,q,r,rfl,_⟩:=id c.i.ex;refine Sc func20 33 U3 fun w0=>R8 fun R a=>So U6 fun s=>Sq U5 fun t=>Sq U5 fun u=>Sa [1,2,3] a Z<|G.freeze 2 Z fun _ _ k=>Sx [(1,3)] Z fun R a=>R5 (bkT k 5) U8<|D.call (nV _ _ B z g.m_ d e f) Z (.inr dc_) U6 (Ov _) fl_ (fun v w _ _ l=>?_);obtain ⟨rfl,rfl⟩:=l;refine C4 5 [2,3,4,5] a Z<|C6 2 [2,3,5,15] Z<|G.cond Z (fun _=>?_) (fun m=>absurd m (by simp [d]));exact R4 1 Z fun R a=>Sf (j:=1) U12<|Sf (j:=1) U12<|Sa [2,3] a Z<|Sh (Tc (Jw ae af Z Z Z Z Z Z Z) ⟨Z,Z⟩ ⟨fun _ _ _ h=>h,Z⟩)
theorem wA (C:Mem)(b:Value)(B:Bk)(z:Int)(c:BookZ C b B z)(d:z≠0)(f:bs B*bp B<=60)(g:B.obs.length<=12) :
  Gives cx.P 21 [b] C (.tuple #[.slice none 0 0,.bool false,.int .i64 z]):=by
 have k:=c;obtain ⟨o,p,q,r,s,rfl,_⟩:=id c.i.ex;refine Sc func21 25 U3 fun w0=>R8 fun R a=>So U6 fun t=>Sq U5 fun u=>Sq U5 fun w=>Sq U5 fun x=>Sa [1,2,3,4] a Z<|G.freeze 3 Z fun _ _ l=>Sx [(1,3)] Z fun R a=>R5 (bkT l 5) U8<|D.call (nV _ _ B z k.m_ d f g) Z (.inr dc_) U6 (Ov _) fl_ (fun v y _ _ m=>?_);obtain ⟨rfl,rfl⟩:=m;refine R9 4 Z<|Sf (j:=0) U12<|Sa [2,3,4,5] a Z<|R8 fun R a=>Sd af U9<|C4 1 [2,3,4,14] a Z<|G.cond Z (fun _=>?_) (fun n=>absurd n (by simp [d]));refine SR (.cut [] (.alt 0 (.fin [1,2,3]) (.alt 1 (.cut [] (.alt 0 (.fin [2,3]) (.alt 2 (.fin [0,3]) .stop))) .stop))) [] Z Z kr_ fun R A a e=>SE e Z ⟨?_, ?_,trivial⟩
 ·exact Sd af U9<|Sf (j:=2) U12<|Sf (j:=2) U12<|Sf (j:=2) U12<|Sa [2,3,4] a Z<|Sh (Tc (om ac ae af Z Z Z Z Z Z Z Z Z Z) ⟨Z,Z⟩ ⟨fun _ _ _ h=>h,Z⟩)
 refine Sf (j:=2) U12<|SE e Z ⟨?_, ?_,trivial⟩
 ·exact Sd ae U9<|Sf (j:=2) U12<|Sf (j:=2) U12<|Sa [2,3,4] a Z<|Sh (Tc (om ac ae af Z Z Z Z Z Z Z Z Z Z) ⟨Z,Z⟩ ⟨fun _ _ _ h=>h,Z⟩)
 exact Sf (j:=2) U12<|Sd ac U9<|Sf (j:=2) U12<|Sa [2,3,4] a Z<|Sh (Tc (om ac ae af Z Z Z Z Z Z Z Z Z Z) ⟨Z,Z⟩ ⟨fun _ _ _ h=>h,Z⟩)
section
variable (C:Mem) (bv lv:Value) (w:Int) (hw:w≠0) (hck:∀ D:Mem,C.le D->Gives cx.P 49 [bv,lv] D (.int .i64 w)) (hbv:∃ a b c d e:Value,bv=.agg ⟨[a,b,c,d,e]⟩)
include hw hck hbv
theorem pO:Gives cx.P 25 [bv,lv] C (.tuple #[.bool false,.int .i64 w]):=by
 obtain ⟨d,e,f,g,h,rfl⟩:=hbv;refine Sc func25 18 U3 fun w0=>R8 fun R a=>So U6 fun i=>C4 2 [1,2] a Z<|G.freeze 0 Z fun _ _ c=>R8 fun R a=>R5 (bkT c 5) U8<|R7 U6<|Sg (hck _ mup) U7<|C4 1 [1,2,6] a Z<|C6 2 [1,2,6,11] Z<|R6 (fun b=>?_) fun b=>?_
 ·refine C6 3 [4,5] Z<|Sh (G.dropAll (Sy U3 ?_));exact ⟨Z,Z⟩
 exact absurd b (by simp [hw])
theorem Gs:Gives cx.P 28 [bv,lv] C (.tuple #[.agg ⟨[.slice none 0 0]⟩,.bool false,.int .i64 w]):=by
 obtain ⟨d,e,f,g,h,rfl⟩:=hbv;refine Sc func28 40 U3 fun w0=>R8 fun R a=>So U6 fun i=>Sq U5 fun k=>C4 2 [1,2,4] a Z<|G.freeze 1 Z fun _ _ c=>R8 fun R a=>R5 (bkT c 5) U8<|R7 U6<|Sg (hck _ mup) U7<|C4 1 [1,2,4,7] a Z<|C6 2 [1,2,4,7,16] Z<|R6 (fun b=>?_) fun b=>?_
 ·refine R8 fun R a=>Sn ([.slice none 0 0]) U8<|R7 U6<|Sf (j:=0) U12<|C4 2 [4,5,6] a Z<|Sh (UV af Z Z Z Z Z Z ?_);exact ⟨Z,Z⟩
 exact absurd b (by simp [hw])
theorem pL (c:Value):Gives cx.P 32 [bv,lv,.agg ⟨[c]⟩] C (.int .i64 w):=by
 obtain ⟨e,f,g,h,i,rfl⟩:=hbv;refine Sc func32 25 U3 fun w0=>R8 fun R a=>So U6 fun j=>So U6 fun k=>C4 1 [1,3,5] a Z<|G.freeze 1 Z fun _ _ d=>G.freeze 0 Z fun _ _ l=>R8 fun R a=>R5 (bkT d 5) U8<|R7 U6<|Sg (hck _ mup) U7<|C4 1 [1,3,5,7] a Z<|C6 2 [1,3,5,7,14] Z<|R6 (fun b=>?_) fun b=>?_
 ·exact C6 2 [6] Z<|Sb U2<|⟨Z,Z⟩
 exact absurd b (by simp [hw])
theorem Ja (b:Value):Gives cx.P 30 [bv,lv,.agg ⟨[b]⟩] C (.tuple #[.slice none 0 0,.int .i64 w]):=by
 have d:=fun (D:Mem)(e:C.le D)=>pL D bv lv w hw (fun E f=>hck E (Mem.le.trans e f)) hbv b;obtain ⟨i,j,k,l,m,rfl⟩:=hbv;refine Sc func30 51 U3 fun w0=>R8 fun R a=>So U6 fun n=>So U6 fun o=>C4 2 [1,3,5] a Z<|G.freeze 1 Z fun _ _ g=>G.freeze 0 Z fun _ _ h=>R8 fun R a=>R5 (bkT g 5) U8<|R7 U6<|R5 (bkT h 1) U8<|Sg (d _ mup) U7<|C4 1 [1,3,5,8] a Z<|C6 2 [1,3,5,8,19] Z<|R6 (fun c=>?_) fun c=>?_
 ·refine C6 3 [6,7] Z<|Sh (G.dropAll (Sy U3 ?_));exact ⟨Z,Z⟩
 exact absurd c (by simp [hw])
theorem LW:Gives cx.P 24 [bv,lv] C (.tuple #[.bool false,.int .i64 w]):=by
 have c:=fun (D:Mem)(d:C.le D)=>pO D bv lv w hw (fun E e=>hck E (Mem.le.trans d e)) hbv;obtain ⟨g,h,i,j,k,rfl⟩:=hbv;refine Sc func24 44 U3 fun w0=>R8 fun R a=>So U6 fun l=>C4 2 [1,2] a Z<|G.freeze 0 Z fun _ _ f=>R8 fun R a=>R5 (bkT f 5) U8<|R7 U6<|Sg (c _ mup) U7<|C4 5 [1,2,6,7] a Z<|R4 4 Z fun R a=>SA U8<|Sa [1,2,7,21] a Z<|R6 (fun b=>?_) fun b=>?_
 ·refine C6 3 [4,5] Z<|Sh (G.dropAll (Sy U3 ?_));exact ⟨Z,Z⟩
 exact absurd b (by simp [hw])
theorem CM:Gives cx.P 27 [bv,lv] C (.tuple #[.slice none 0 0,.bool false,.int .i64 w]):=by
 have c:=fun (D:Mem)(d:C.le D)=>pO D bv lv w hw (fun E e=>hck E (Mem.le.trans d e)) hbv;obtain ⟨g,h,i,j,k,rfl⟩:=hbv;refine Sc func27 49 U3 fun w0=>R8 fun R a=>So U6 fun l=>C4 3 [1,2] a Z<|G.freeze 0 Z fun _ _ f=>R8 fun R a=>R5 (bkT f 5) U8<|R7 U6<|Sg (c _ mup) U7<|C4 5 [1,2,6,7] a Z<|R4 4 Z fun R a=>SA U8<|Sa [1,2,6,21] a Z<|R6 (fun b=>?_) fun b=>?_
 ·refine C6 4 [4,5,6] Z<|Sh (G.dropAll (S4 U4 ?_));exact ⟨Z,Z⟩
 exact absurd b (by simp [hw])
end
def OutL (C:Mem)(vs:List Value)(outs:List (List Nat)):Prop:=vs.length=outs.length/\∀ (j:Nat)(v:Value)(o:List Nat),vs[j]?=some v->outs[j]?=some o->Sl C 1 v (o.map aQ)
def OutsIn (C:Mem)(v:Value)(outs:List (List Nat)):Prop:=∃ vs,OutL C vs outs/\Sl C 1 v (vs.map fun x=>[x])
theorem OutL.mono {C D:Mem}{a:List Value}{b:List (List Nat)}(h:OutL C a b)(c:C.le D):OutL D a b:=⟨h.1,fun j v o h1 h2=>(h.2 j v o h1 h2).mono c⟩
theorem OutL.m_ {D:Mem}(h:OutL C vs outs)(a:C.le D:=by exact mup):OutL D vs outs:=OutL.mono h a
theorem OutsIn.mono {C D:Mem}{v:Value}{a:List (List Nat)}(h:OutsIn C v a)(b:C.le D):OutsIn D v a:=by
 obtain ⟨vs,h1,h2⟩:=h;exact ⟨vs,h1.mono b,h2.mono b⟩
theorem OutsIn.m_ {D:Mem}{v:Value}(h:OutsIn C v outs)(a:C.le D:=by exact mup):OutsIn D v outs:=OutsIn.mono h a
theorem OutL.nil (C:Mem):OutL C [] []:=⟨rfl,fun j v o h _=>by simp at h⟩
theorem OutL.snoc {v:Value}{o:List Nat}(h:OutL C vs outs)(b:Sl C 1 v (o.map aQ)):OutL C (vs++[v]) (outs++[o]):=by
 refine ⟨by simp [h.1],fun j w q h1 h2=>?_⟩;rcases Nat.lt_trichotomy j vs.length with a | a | a
 ·rw [Pi a] at h1;rw [Pi (by rw [<- h.1];exact a)] at h2;exact h.2 j w q h1 h2
 ·subst a;rw [OY (Oo _),QK] at h1;rw [h.1,OY (Oo _),QK] at h2;cases h1
  cases h2
  exact b
 rw [OD ap] at h1;cases h1
theorem uq (a:List Value):a=(a.map fun x=>[x]).flatten:=by
 induction a with
 | nil=>rfl
 | cons v a b=>rw [O1,PU,<- b];rfl
theorem uo (a:List Value):∀ r∈a.map (fun x=>[x]),r.length=1:=fun r hr=>by
 obtain ⟨x,_,rfl⟩:=OB.1 hr;rfl
theorem pg (l:List Nat):∀ r∈l.map bZ,r.length=1:=fun r hr=>by
 obtain ⟨x,_,rfl⟩:=OB.1 hr;rfl
theorem IS:∀ n<6,∀ s<2 ^ n,I8 (2 ^ n-1) s<2 ^ n:=by decide +kernel
noncomputable def hC (B:Bk)(RO:Nat->List RowQ)(s:Nat):Bool:=hS B RO (I8 (2 ^ B.obs.length-1) s)
theorem zf (C:Mem)(d:Tabs C)(B:Bk)(a f:Nat)(g:SrchIn C B a f)(h:B.obs.length<6) :
  Jog.Fn cx.P 38 [.pointer (some ⟨a,0,none⟩)] C [] fun u _ i=>∃ A n2 c,u=.slice A n2 c/\i=[.arr u 99 1 (2 ^ B.obs.length) (((cq B.obs.length).map bZ).flatten)]:=by
 obtain ⟨j,k,l,m,o,b,n⟩:=g.ex;obtain ⟨_,_,_,_,_,e,_,_,_,_,h5⟩:=n.ex;cases e
 obtain ⟨A,c,rfl,_⟩:=id h5;rw [al] at b;rw [<- Kg];exact Kv C d a B.obs.length j k l m _ A c b h
theorem CL (C:Mem)(w:Tabs C)(T:Value)(B:Bk)(J:List Rat)(b:Nat->List RowQ)(U:BookIn C T B)(h:Calm B J b)(f:B.obs.length<6) :
  Pur cx.P 13 [T] C fun u D=>∃ v,u=.tuple #[v,.int .i64 0]/\OutsIn D v ((xn (hC B b) (cq B.obs.length)).map cX):=by
 have V:=U;obtain ⟨v1,v2,tv,cv,ov,rfl,_,_,_,_,h5⟩:=id U.ex;obtain ⟨A5,c5,rfl,ao,aC,_⟩:=id h5;obtain ⟨n,k⟩:∃ n,B.obs.length=n:=⟨_,rfl⟩;have aD:maxLen<=9223372036854775807:=by simp [maxLen]
 have ap:=fun (D:Mem)(hD:C.le D)(g c s:Nat)(km:List (Nat × Value))(y:SrchIn D B g c)(hs:s<2 ^ n)=>uP D (w.mono hD) B J b g c s km y h f (k ▸ hs);have W:∀ s,hC B b s=hS B b (I8 (2 ^ n-1) s):=fun s=>by unfold hC;rw [k]
 rw [k] at f;have aE:=xr f;simp only [al,k] at h5 ao V ⊢;have K:=uR n;obtain ⟨F,d⟩:∃ F:Nat->List Nat,∀ i,F i=((cq n).take i).foldl (oo (hC B b)) []:=⟨_,fun _=>rfl⟩;have X:F 0=[]:=by rw [d,List.take_zero];rfl
 have A:∀ {i s},(cq n)[i]?=some s->F (i+1)=oo (hC B b) (F i) s:=fun {i s} hs=>by rw [d,d,vQ hs]
 have aq:∀ i,i<=2 ^ n->(F i).length<=32:=fun i hi=>by
  rw [d];have h1:=zm (h:=hC B b) ((cq n).take i) [];rw [OG] at h1;simp only [O4] at h1;omega
 refine Sc func13 69 U3 fun w0=>R8 fun R a=>So U6 fun b1=>C4 2 [1] a Z<|G.freeze 0 Z fun _ _ Y=>Sx [(1,3)] Z fun R a=>R5 (bkT Y 5) U8<|D.call (zc _ w.m_ _ B J b V.m_ h om_) Z (.inr dc_) U6 (Ov _) fl_ (fun aF _ aG _ ar=>?_);obtain ⟨g,c,rfl,y,rfl⟩:=ar;refine C4 5 [1,4,5] a Z<|C6 2 [1,4,5,19] Z<|R6 (fun aa=>?_) fun aa=>?_
 ·exact absurd aa dc_
 refine R4 1 Z fun R a=>R5 (bkT Y 1) U8<|R7 U6<|TR (n) Z Z Z Z Z Z (by first | exact .inl Z | exact .inr Z) Z om_ Z Z<|D.int (((2 ^ n-1:Nat):Int)) U4 (by rw [show (((2 ^ n:Nat):Int)-1)=((2 ^ n-1:Nat):Int) by have:=Nat.one_le_two_pow (n:=n);omega];exact si om_) U2<|C4 1 [4,6] a Z<|C6 1 [4,6,7] Z<|C6 1 [4,6,7,8] Z<|Sx [(1,3)] Z fun R a=>R7 U6<|D.call (zf _ w.m_ B g c y.m_ om_) Z (.inr dc_) U6 (Ov _) fl_ (fun aH _ aI _ au=>?_);obtain ⟨As,ns,cs,rfl,rfl⟩:=au;rw [k];refine C4 2 [4,6,7,8,27,28,29] a Z<|G.freezeArr 0 ((cq n).map bZ) Z Z (pg _) (by rw [al,K]) (fun _ _ ab=>?_);obtain ⟨_,_,ac,_⟩:=id ab;rw [al,K] at ac;cases ac
 refine G.nilArr 50 1<|G.loop (fun fr C' L μ=>∃ (i:Nat)(z:Int)(km:List (Nat × Value))(vs:List Value)(l:Option Addr)(n1 o:Nat),(i<=2 ^ n/\wG (hS B b) km/\OutL C' vs ((F i).map cX)/\wC (F i) z)/\fr=[(4,[],.pointer (some ⟨g,0,none⟩)),(6,[],.int .u64 ((2 ^ n-1:Nat):Int)),(7,[],.slice l n1 o),(8,[],.int .i64 z),(27,[],.slice As (2 ^ n) cs),(28,[],.int .i64 ((2 ^ n:Nat):Int)),(29,[],.int .i64 i)]/\L=[.arr (.slice l n1 o) 50 1 vs.length vs,.obj c (aN keyU.enc km)]/\μ=2 ^ n-i) (hn_ [4,6,7,8,27,28,29] Z) ⟨0, -1,[],[],none,0,0,⟨Ow _,vG _,by rw [X];exact OutL.nil _,.inl ⟨X,Z⟩⟩,Z,Z,Z⟩ (fun fr aJ aK m _ hI=>?_);obtain ⟨i,z,km,vs,l,n1,o,⟨hi,av,p,q⟩,rfl,rfl,rfl⟩:=hI;refine C6 1 [4,6,7,8,27,28,29,30] Z<|R6 (fun M=>?_) fun M=>?_
 ·have ad:i<2 ^ n:=by
   have:=NM M;omega
  obtain ⟨s,hs⟩:∃ s,(cq n)[i]?=some s:=⟨(cq n)[i]'om_,ak om_⟩;have ax:s<2 ^ n:=gv (Oq hs);have N:s<32:=by omega
  have aL:vs.length=(F i).length:=by rw [p.1,al]
  have aM:=aq i om_;refine R8 fun R a=>Sm ab.m_ U10 om_ (fM hs) fl_ fun aO ay=>R5 ay U8<|C4 1 [4,6,7,8,10,27,28,29] a Z<|R4 4 Z fun R a=>SF (fun _=>(sP _ s N)) U9<|R9 2 Z<|Sv U8<|Sa [4,6,7,8,10,27,28,29,40] a Z<|R6 (fun O=>?_) fun O=>?_
  ·have r:0<=z/\z<(ie s:Int):=by
    simp only [OC,Oz] at O;omega
   refine C6 3 [2,3] Z<|G.freezeArr 0 (vs.map fun x=>[x]) Z (uq vs) (uo vs) (al _) fun C8 _ Q=>Sh (G.dropAll (Sy U3 ?_));refine ⟨Z,_,Z,vs, ?_,Q⟩;rw [D9 f hs (by rw [<- d];exact q) r,<- d];exact p.mono mup
  have r:¬ (0<=z/\z<(ie s:Int)):=by
   simp only [RC,OL] at O;omega
  refine Sx [(4,3)] Z fun R a=>R9 3 Z<|Ur (2 ^ n-1) (s) Z Z Z Z Z Z Z Z om_ om_ Z Z<|D.call (ap _ mup g c (I8 (2 ^ n-1) s) km y.m_ (IS n f s ax) av) Z (.inr dc_) U6 (List.Perm.swap _ _ _) fl_ (fun aP _ aR _ az=>?_);obtain ⟨rfl,E,af,rfl⟩:=az;refine C4 5 [4,6,7,8,10,11,12,27,28,29] a Z<|C6 3 [4,6,7,8,10,11,12,27,28,29,49] Z<|R6 (fun ag=>?_) fun ag=>?_
  ·exact absurd ag dc_
  refine C6 3 [4,6,7,8,10,27,28,29,53] Z<|R6 (fun S=>?_) fun S=>?_
  ·have t:hC B b s=false:=by rw [W];simpa using S
   refine R8 fun R a=>Se _ U7<|C4 1 [4,6,7,8,27,28,29] a Z<|G.perm (L':=[.arr (.slice l n1 o) 50 1 vs.length vs,.obj c (aN keyU.enc E)]) (List.Perm.swap _ _ _)<|Sj (m':=2 ^ n-(i+1)) om_ mup (hn_ [4,6,7,8,27,28,29] Z) ⟨i+1,z,E,vs,l,n1,o,⟨by omega,af,by rw [A hs,vg t];exact p.mono mup,by rw [A hs,vg t];exact q⟩,Z,Z,Z⟩
  have t:hC B b s=true:=by rw [W];simpa using S
  refine Ud ae (fun _ _ aA _=>?_);cases aA
  refine C6 4 [4,6,7,10,27,28,29,56] Z<|R6 (fun ah=>?_) fun ah=>?_
  ·exact absurd (by simpa using ah) (show ¬ ((vs.length:Int)=200) by omega)
  refine R4 1 Z fun R a=>Sg (sP _ s N) U7<|C4 1 [4,6,7,8,10,27,28,29] a Z<|R4 2 Z fun R a=>SI (ni _ w.m_ s N) U7 (fun aS _ _ ai=>?_);obtain ⟨H,I,rfl,_⟩:=id ai;refine Sr [[.slice H ((cX s).map aQ).length I]] U12 fun aT _ _ aB=>SB (j:=1) U11 aB Z aw (by show (vs.length+1)*24<=_;omega) fl_ fun aj am an=>C4 1 [4,6,7,8,27,28,29] a Z<|R8 fun R a=>Se _ U7<|C4 1 [4,6,7,8,27,28,29] a Z<|Sp (L':=[.arr (.slice aj am an) 50 1 (vs++[Value.slice H ((cX s).map aQ).length I]).length (vs++[Value.slice H ((cX s).map aQ).length I]),.obj c (aN keyU.enc E)]) (by rw [Oy];rfl)<|Sj (m':=2 ^ n-(i+1)) om_ mup (hn_ [4,6,7,8,27,28,29] Z) ⟨i+1,ie s,E,vs++[Value.slice H ((cX s).map aQ).length I],aj,am,an,⟨by omega,af,by rw [A hs,zp q r t,O7];exact p.m_.snoc ai.m_,by rw [A hs,zp q r t];exact Br q (by rw [d];exact MR f hs) r⟩,Z,Z,Z⟩
 have ad:i=2 ^ n:=by
  have:=Ox M;omega
 refine C6 3 [2,3] Z<|G.freezeArr 0 (vs.map fun x=>[x]) Z (uq vs) (uo vs) (al _) fun C8 _ Q=>Sh (G.dropAll (Sy U3 ?_));refine ⟨Z,_,Z,vs, ?_,Q⟩;have e:xn (hC B b) (cq n)=F i:=by rw [d,ad,<- K,OH];rfl
 rw [e];exact p.mono mup
theorem Du (C:Mem)(v:Value)(l:List Nat)(g:Nat)(d:List Value)(a:Nat->Bool)(e:Sl C 1 v (l.map bZ))(_A:Jog.Enters cx.P g=true)
  (n:∀ x∈l,∀ D:Mem,C.le D->Gives cx.P g (.int .u64 (x:Nat)::d) D (.bool (a x))) :
  Gives cx.P 124 [v,.func (.func g) #[] ⟨d⟩] C (.int .i64 (GG a l 0)):=by
 obtain ⟨o,c0,rfl,p,B,_⟩:=id e;have E:maxLen<=9223372036854775807:=by simp [maxLen]
 simp only [al] at e p ⊢;refine Sc func124 19 U3 fun w0=>C6 1 [0,1] Z<|C6 3 [0,1,7,8] Z<|G.loop (fun fr C' q r=>∃ (i:Nat),(i<=l.length/\∀ y∈l.take i,a y=false)/\fr=[(0,[],.slice o l.length c0),(1,[],.func (.func g) #[] ⟨d⟩),(7,[],.int .i64 l.length),(8,[],.int .i64 i)]/\q=[]/\r=l.length-i) (hn_ [0,1,7,8] Z) ⟨0,⟨Ow _,by simp⟩,Z,Z,Z⟩ (fun fr F H m s t=>?_);obtain ⟨i,⟨I,b⟩,rfl,rfl,rfl⟩:=t;refine C6 1 [0,1,7,8,9] Z<|R6 (fun f=>?_) fun f=>?_
 ·have h:i<l.length:=by simpa using f
  obtain ⟨x,c⟩:∃ x,l[i]?=some x:=⟨l[i],ak h⟩;refine C6 2 [0,1,5,7,8] Z<|R4 3 Z fun R j=>Sm e.m_ U10 om_ (fM c) fl_ fun J u=>R5 u U8<|Sg (n x (Oq c) _ mup) U7<|Sa [0,1,5,7,8,16] j Z<|R6 (fun k=>?_) fun k=>?_
  ·have w:a x=true:=k;exact C6 2 [4] Z<|Sb U2<|⟨by rw [nf c w b,PJ],Z⟩
  have z:a x=false:=k;refine R8 fun R j=>Se _ U7<|C4 1 [0,1,7,8] j Z<|Sj (m':=l.length-(i+1)) om_ s (hn_ [0,1,7,8] Z) ⟨i+1,⟨by omega,fun y hy=>by
   rw [OS,c] at hy;rcases OJ.1 hy with hy | hy
   ·exact b y hy
   simp only [PF,OP] at hy;subst hy;exact z⟩,Z,Z,Z⟩
 have h:i=l.length:=by
  have:¬ i<l.length:=by simpa using f
  omega
 exact C6 1 [4] Z<|Sb U2<|⟨by rw [h,OH] at b;rw [kM b],Z⟩
theorem Kf (C:Mem)(v:Value)(l:List Nat)(g:Nat)(b:List Value)(a:Nat->Bool)(c:Sl C 1 v (l.map bZ))(d:Jog.Enters cx.P g=true)
  (e:∀ x∈l,∀ D:Mem,C.le D->Gives cx.P g (.int .u64 (x:Nat)::b) D (.bool (a x))) :
  Gives cx.P 80 [v,.func (.func g) #[] ⟨b⟩] C (.bool (l.any a)):=by
 refine Sc func80 9 U3 fun w0=>C6 1 [0,1] Z<|R4 2 Z fun R f=>Sg (Du _ v l g b a c.m_ d (fun x h D j=>e x h D (Mem.le.trans mup j))) U7<|C4 2 [4] f Z<|Sb U2<|⟨?_,Z⟩;congr 1;rcases qS a l with ⟨h1,h2⟩ | ⟨i,x,h1,h2,h3,_⟩
 ·rw [h1,List.any_eq_false.2 (fun y hy=>by rw [h2 y hy];decide)];rfl
 rw [h1,QT.2 ⟨x,Oq h2,h3⟩];exact OK om_
theorem GY (C:Mem)(v:Value)(l:List Nat)(g:Nat)(c:List Value)(b:Nat->Bool)(d:Jog.Enters cx.P g=true)(e:∀ x∈l,∀ D:Mem,C.le D->Gives cx.P g (.int .u64 (x:Nat)::c) D (.bool (b x))) :
  Jog.Fn cx.P 80 [v,.func (.func g) #[] ⟨c⟩] C [.arr v 99 1 l.length (l.map bZ).flatten] fun u _ a=>u=.bool (l.any b)/\a=[.arr v 99 1 l.length (l.map bZ).flatten] :=
 Fn.mono (Tq (L:=[]) (post:=fun u a=>u=.bool (l.any b)/\a=[]) kr_ (pg l) (al _) fun C' hC hs=>Fn.mono (Kf C' v l g c b hs d fun x f D i=>e x f D (hC.trans i)) fun u _ a _ h=>⟨h.1,h.2⟩) fun u _ j _ ⟨a,h1,h2,h3⟩=>⟨h2,by rw [h1,h3]⟩
theorem KW (C:Mem)(a s x:Nat)(f:s<18446744073709551616)(g:x<18446744073709551616)(b:C a=some (.cells ⟨[.int .u64 (s:Nat)]⟩ 99 (0,0))) :
  Gives cx.P 81 [.int .u64 (x:Nat),.pointer (some ⟨a,0,none⟩)] C (.bool (x &&& s == x)):=by
 refine Sc func81 9 U3 fun w0=>C6 1 [0,1] Z<|R4 1 Z fun R c=>R5 (bkT b 1) U8<|Tf (x) (s) U8 om_ om_ U2<|C4 3 [3] c Z<|Sb U2<|⟨?_,Z⟩;congr 1;by_cases e:x &&& s=x
 ·rw [e];simp
 have d:¬ (((x &&& s:Nat):Int)=x):=fun h=>e (Int.ofNat_inj.1 h);rw [PN.2 d,PN.2 e]
def GQ (l:List Nat):List (List Value):=l.map fun s=>[.int .u64 (s:Nat),.int .i64 0]
theorem BV (C:Mem)(V:Tabs C)(B:Bk)(W:List Rat)(c:Nat->List RowQ)(o d:Nat)(Y:SrchIn C B o d)(h:Calm B W c)(u:B.obs.length<6) :
  IterM cx.P 46 #[.pointer (some ⟨o,0,none⟩)] #[] C [.obj d (aN keyU.enc [])] (GQ (iT (hS B c) (cq B.obs.length))):=by
 have aD:maxLen<=9223372036854775807:=by simp [maxLen]
 obtain ⟨n,hn⟩:∃ n,B.obs.length=n:=⟨_,rfl⟩;have aj:=fun (D:Mem)(f:C.le D)(s:Nat)(km:List (Nat × Value))(hs:s<2 ^ n)=>uP D (V.mono f) B W c o d s km (Y.mono f) h u (hn ▸ hs);have aa:=fun (D:Mem)(f:C.le D)=>zf D (V.mono f) B o d (Y.mono f) u;rw [hn] at u aa ⊢;have aE:=xr u;have A:=uR n;obtain ⟨F,g⟩:∃ F:Nat->List Nat,∀ i,F i=((cq n).take i).foldl (ir (hS B c)) []:=⟨_,fun _=>rfl⟩;have ab:F 0=[]:=by rw [g,List.take_zero];rfl
 have am:∀ {i s},(cq n)[i]?=some s->F (i+1)=ir (hS B c) (F i) s:=fun {i s} hs=>by rw [g,g,vQ hs]
 have an:F (2 ^ n)=iT (hS B c) (cq n):=by rw [g,<- A,OH];rfl
 have ao:∀ i,∃ t,iT (hS B c) (cq n)=F i++t:=fun i=>by
  unfold iT;rw [g]
  conv=>enter [1,t,1];rw [<- Pq i (cq n),List.foldl_append]
  exact wa _ _ _
 have ap:∀ i,∀ x∈F i,x<2 ^ n:=fun i x v=>by
  rw [g] at v;rcases pp _ _ v with h | h
  ·cases h
  exact gv (Pw h)
 have aq:∀ i,i<=2 ^ n->(F i).length<=32:=fun i hi=>by
  rw [g];have h1:=wb (h:=hS B c) ((cq n).take i) [];rw [OG] at h1;simp only [O4] at h1;omega
 refine IterM.intro (fb:=[.pointer (some ⟨o,0,none⟩)]) (lb:=[]) kr_ func46 Z 44 Z Z fun l I X L hY h0 w0=>?_;refine C6 1 [0,1,4] Z ?_;refine Sx [(1,3)] Z (fun R a=>?_);refine R7 U6 ?_;refine D.call (aa _ mup) Z (.inr dc_) U6 (Ov _) fl_ (fun aG _ aH _ ar=>?_);obtain ⟨As,ns,cs,rfl,rfl⟩:=ar;refine C4 2 [0,1,4,10,11,12] a Z ?_;clear a R;refine G.freezeArr 0 ((cq n).map bZ) Z Z (pg _) (by rw [al,A]) (fun _ _ ac=>?_);obtain ⟨_,_,ad,_⟩:=id ac;rw [al,A] at ad;cases ad
 refine G.nilArr 99 1 ?_;refine G.loop (fun fr C' L' μ=>∃ (i:Nat)(km:List (Nat × Value))(k:List Ent)(p:Option Addr)(n1 q:Nat),(i<=2 ^ n/\wG (hS B c) km/\I (F i).length k)/\fr=[(0,[],.pointer (some ⟨o,0,none⟩)),(1,[],.func (.yield l) #[] #[]),(4,[],.slice p n1 q),(10,[],.slice As (2 ^ n) cs),(11,[],.int .i64 ((2 ^ n:Nat):Int)),(12,[],.int .i64 i)]/\L'=.arr (.slice p n1 q) 99 1 (F i).length ((F i).map bZ).flatten::.obj d (aN keyU.enc km)::k/\μ=2 ^ n-i) (hn_ [0,1,4,10,11,12] Z) ⟨0,[],L,none,0,0,⟨Ow _,vG _,by rw [ab];exact h0⟩,Z,by rw [ab];rfl,Z⟩ (fun fr aI aJ m _ hI=>?_);obtain ⟨i,km,k,p,n1,q,⟨hi,ae,w⟩,rfl,rfl,rfl⟩:=hI;refine C6 1 [0,1,4,10,11,12,13] Z ?_;refine R6 (fun E=>?_) fun E=>?_
 ·have ag:i<2 ^ n:=by
   have:=NM E;omega
  obtain ⟨s,hs⟩:∃ s,(cq n)[i]?=some s:=⟨(cq n)[i]'om_,ak om_⟩;have au:s<2 ^ n:=gv (Oq hs);have aK:=aq i hi;have H:=am hs;refine Ud af (fun _ _ av _=>?_);cases av
  refine R8 fun R a=>?_;refine Sm ac.m_ U10 om_ (fM hs) fl_ (fun aL ax=>?_);refine R5 ax U8 ?_;refine Sq U5 (fun b6=>?_);refine Sf (j:=0) U12 ?_;refine Sa [0,1,4,6,10,11,12] a Z ?_;clear a R;refine G.freeze 0 Z (fun _ _ y=>?_);refine Sx [(2,3)] Z (fun R a=>?_);refine R9 2 Z ?_;refine D.call (GY _ _ (F i) 81 [.pointer (some ⟨b6,0,none⟩)] (fun x=>x &&& s == x) kr_ (fun x v D f=>KW D b6 s x om_ (by have:=ap i x v;omega) (f _ _ (Mem.get y mup)))) Z (.inr dc_) U6 (Ov (_::_)) fl_ (fun aM _ aO _ ay=>?_);obtain ⟨rfl,rfl⟩:=ay;refine Sa [0,1,4,6,10,11,12,18] a Z ?_;clear a R;refine R6 (fun J=>?_) fun J=>?_
  ·have r:F (i+1)=F i:=by
    rw [H];unfold ir;rw [show ((F i).any fun x=>x &&& s == x)=true from J];rfl
   refine R8 fun R a=>?_;refine Se _ U7 ?_;refine C4 1 [0,1,4,10,11,12] a Z ?_;clear a R;refine Sj (m':=2 ^ n-(i+1)) om_ mup (hn_ [0,1,4,10,11,12] Z) ⟨i+1,km,k,p,_,q,⟨by omega,ae,by rw [r];exact w⟩,Z,by rw [r];rfl,Z⟩
  refine Sx [(2,3)] Z (fun R a=>?_);refine R7 U6 ?_;refine R5 (bkT y 1) U8 ?_;refine D.call (aj _ mup s km au ae) Z (.inr dc_) U6 (List.Perm.swap _ _ _) fl_ (fun aP _ aQ _ az=>?_);obtain ⟨rfl,z,ah,rfl⟩:=az;refine C4 5 [0,1,4,6,7,8,10,11,12] a Z ?_;clear a R;refine R4 4 Z fun R a=>?_;refine Sv U8 ?_;refine Sa [0,1,4,6,8,10,11,12,29] a Z ?_;clear a R;refine R6 (fun K=>?_) fun K=>?_
  ·have M:hS B c s=true:=by simpa using K
   have r:F (i+1)=F i:=by
    rw [H];unfold ir;rw [M,Bool.or_true];rfl
   refine R8 fun R a=>?_;refine Se _ U7 ?_;refine C4 1 [0,1,4,10,11,12] a Z ?_;clear a R;refine G.perm _ (List.Perm.swap _ _ _) ?_;refine Sj (m':=2 ^ n-(i+1)) om_ mup (hn_ [0,1,4,10,11,12] Z) ⟨i+1,z,k,p,_,q,⟨by omega,ah,by rw [r];exact w⟩,Z,by rw [r],Z⟩
  have M:hS B c s=false:=by simpa using K
  have N:F (i+1)=F i++[s]:=by
   rw [H];unfold ir;rw [M,Bool.or_false,show ((F i).any fun x=>x &&& s == x)=false from J];rfl
  obtain ⟨tl,ai⟩:=ao (i+1);rw [N] at ai;have hv:(GQ (iT (hS B c) (cq n)))[(F i).length]?=some [.int .u64 (s:Nat),.int .i64 0]:=by
   rw [ai];unfold GQ;rw [Ou,OU,OY (Oo _),QK];rfl
  refine R4 1 Z fun R a=>?_;refine R5 (bkT y 1) U8 ?_;refine Sr [bZ s] U12 (fun aR _ _ aA=>?_);refine SB (j:=1) U11 aA Z aw (by show ((F i).length+1)*8<=_;omega) fl_ (fun O Q S=>?_);refine C4 1 [0,1,4,6,8,10,11,12] a Z ?_;clear a R;refine Sp (L':=.arr (.slice O Q S) 99 1 (F i++[s]).length ((F i++[s]).map bZ).flatten::.obj d (aN keyU.enc z)::k) (by rw [O7,Pg,Oy];rfl) ?_;refine Va 3 [0,1,2] [4,5,6,7,8] [] (YW.plain _) Z Z Z Z Z Z (fun R T hy=>?_);refine R7 U6 ?_;refine R5 (bkT y 1) U8 ?_;refine R7 U6 ?_;refine hy (hY _ _ _ hv w) mup Z Z Z Z (Lo:=[.arr (.slice O Q S) 99 1 (F i++[s]).length ((F i++[s]).map bZ).flatten,.obj d (aN keyU.enc z)]) (O2 (l₁:=[_,_])) fl_ (fun b L2 hb R T a=>?_);rcases hb with ⟨rfl,aB⟩ | ⟨rfl,aC⟩
  ·refine R9 4 Z ?_;refine SA U8 ?_;refine Sa [0,1,4,10,11,12,42] a Z ?_;clear a T R;refine G.cond Z (fun U=>absurd U dc_) (fun _=>?_);refine R8 fun R a=>?_;refine Se _ U7 ?_;refine C4 1 [0,1,4,10,11,12] a Z ?_;clear a R;refine G.perm _ (O2 (l₂:=[_,_])) ?_;refine Sj (m':=2 ^ n-(i+1)) om_ mup (hn_ [0,1,4,10,11,12] Z) ⟨i+1,z,L2,O,Q,S,⟨by omega,ah,by rw [N,Oy];exact aB⟩,Z,by rw [N];rfl,Z⟩
  refine R9 4 Z ?_;refine SA U8 ?_;refine Sa [0,1,4,10,11,12,42] a Z ?_;clear a T R;refine G.cond Z (fun _=>?_) (fun U=>absurd U dc_);refine G.perm _ (O2 (l₂:=[_,_])) ?_;refine Sh (TJ Z ?_);exact ⟨[_,_],L2,Z,.inr ⟨_,(aF.1 hv).1,aC⟩⟩
 have ag:i=2 ^ n:=by
  have:=Ox E;omega
 refine Td Z ?_;refine ⟨[_,_],k,Z,.inl ?_⟩;have e:(GQ (iT (hS B c) (cq n))).length=(F i).length:=by rw [ag,an,GQ,al]
 rw [e];exact w
inductive SmallO (l:List Nat) (D:Mem):Value->Prop where
 | none:l=[]->SmallO l D (.tuple #[.slice none 0 0,.bool false,.int .i64 0])
 | some (x:Nat) (v:Value):l.head?=some x->Sl D 1 v ((cX x).map aQ)->SmallO l D (.tuple #[v,.bool true,.int .i64 0])
theorem Kc {j:Nat}(h:(GQ l)[j]?=some v):∃ x,l[j]?=some x/\v=[.int .u64 (x:Nat),.int .i64 0]:=by
 unfold GQ at h;rw [Ou] at h;cases a:l[j]? with
 | none=>rw [a] at h;cases h
 | some x=>rw [a] at h;exact ⟨x,rfl,(PS h).symm⟩
theorem yJ (h:v∈GQ l):∃ x,x∈l/\v=[.int .u64 (x:Nat),.int .i64 0]:=by
 obtain ⟨x,a,rfl⟩:=OB.1 h;exact ⟨x,a,Z⟩
theorem IQ {h:Nat->Bool}{n:Nat}(a:x∈iT h (cq n)):x<2 ^ n:=by
 rcases pp _ _ a with h | h
 ·cases h
 exact gv h
theorem yl (C:Mem)(t:Tabs C)(w:Value)(B:Bk)(y:List Rat)(l:Nat->List RowQ)(E:BookIn C w B)(h:Calm B y l)(F:B.obs.length<6) :
  Pur cx.P 21 [w] C fun u D=>SmallO (iT (hS B l) (cq B.obs.length)) D u:=by
 have ad:maxLen<=9223372036854775807:=by simp [maxLen]
 have ag:=xr F;have K:=E;obtain ⟨cs,H⟩:∃ cs,iT (hS B l) (cq B.obs.length)=cs:=⟨_,rfl⟩;have M:∀ x∈cs,x<32:=fun x d=>by have:=IQ (H ▸ d);omega
 have N:=fun (D:Mem)(m:C.le D)=>zc D (t.mono m) w B y l (K.mono m) h om_;have I:=fun (D:Mem)(m:C.le D)(o p:Nat)(z:SrchIn D B o p)=>BV D (t.mono m) B y l o p z h F;simp only [H] at I ⊢;obtain ⟨v1,v2,tv,cv,ov,rfl,_⟩:=id E.ex;refine Tp kr_ func21 Z 25 Z Z fun w0=>R8 fun R b=>So U6 fun b1=>Sq U5 fun f=>Sq U5 fun g=>Sq U5 fun i=>Sa [1,2,3,4] b Z<|G.freeze 3 Z fun _ _ O=>Sx [(1,3)] Z fun R b=>R5 (bkT O 5) U8<|D.call (N _ mup) Z (.inr dc_) U6 (Ov _) fl_ (fun ah _ ai _ Q=>?_);obtain ⟨o,p,rfl,z,rfl⟩:=Q;refine R9 4 Z<|Sf (j:=1) U12<|Sa [2,3,4,5] b Z<|R8 fun R b=>Sd af U9<|C4 1 [2,3,4,5,14] b Z<|G.cond Z (fun S=>absurd S dc_) fun _=>C6 2 [2,3,4,17] Z ?_;have T:=I _ mup o p z;refine Vc (ps:=[18,19]) (Lr:=[.obj i (.cells ⟨[.int .i64 0]⟩ 46 (0,0)),.obj g (.cells ⟨[.bool false]⟩ 4 (0,0)),.obj f (.cells ⟨[.slice none 0 0]⟩ 50 (0,0))]) Z Z kr_ T (List.Perm.swap _ _ _) (fun v k=>?_)
  (fun j a=>j=0/\a=[.obj i (.cells ⟨[.int .i64 0]⟩ 46 (0,0)),.obj g (.cells ⟨[.bool false]⟩ 4 (0,0)),.obj f (.cells ⟨[.slice none 0 0]⟩ 50 (0,0))])
  (fun q j a=>q=.ret/\∃ (x:Nat)(A:Option Addr)(n c:Nat),cs.head?=some x/\a=[.obj i (.cells ⟨[.int .i64 0]⟩ 46 (0,0)),.obj g (.cells ⟨[.bool true]⟩ 4 (0,0)),.obj f (.cells ⟨[.slice A n c]⟩ 50 (0,0)),.arr (.slice A n c) 3 1 (cX x).length ((cX x).map aQ).flatten])
  ⟨rfl,rfl⟩ (fun v k=>?_)
  (fun j a J LA=>j=0/\∃ x,cs[0]?=some x/\J=[(2,[],.pointer (some ⟨f,0,none⟩)),(3,[],.pointer (some ⟨g,0,none⟩)),(4,[],.pointer (some ⟨i,0,none⟩)),(6,[],.int .u64 (x:Nat)),(7,[],.int .i64 0)]/\LA=[.obj i (.cells ⟨[.int .i64 0]⟩ 46 (0,0)),.obj g (.cells ⟨[.bool false]⟩ 4 (0,0)),.obj f (.cells ⟨[.slice none 0 0]⟩ 50 (0,0))])
  ?_ ?_ ?_ ?_
 ·obtain ⟨x,_,rfl⟩:=yJ k;rfl
 ·obtain ⟨x,_,rfl⟩:=yJ k;rfl
 ·intro l2 j v a W1 r k;obtain ⟨rfl,rfl⟩:=r;obtain ⟨x,d,rfl⟩:=Kc k;exact C6 1 [2,3,4,6,19] Z<|C6 1 [2,3,4,6,7] Z<|UX [(2,[],_),(3,[],_),(4,[],_),(6,[],_),(7,[],_)] ⟨Z,Z,Z,Z,Z,trivial⟩ ⟨Z,x,d,Z,Z⟩
 ·intro l2 j v a J LA W1 r k U;obtain ⟨rfl,x,d,rfl,rfl⟩:=U;have V:=M x (Oq d);refine C6 2 [2,3,4,6,21] Z<|G.cond Z (fun W=>absurd W dc_) fun _=>Sx [(1,3)] Z fun R b=>R7 U6<|D.call (E1 _ t.m_ x V) Z (.inr dc_) U6 (Ov _) fl_ (fun aj _ ak _ Y=>?_);obtain ⟨A,n,c,rfl,rfl⟩:=Y;refine Sf (j:=3) U12<|Sf (j:=3) U12<|Sf (j:=3) U12<|Sa [2,3,4] b Z<|Sh (Vf (e:=.ret) (c:=.ret) (X:=fun q a=>q=.ret/\_) Z ⟨Z,x,A,n,c,by rw [List.head?_eq_getElem?];exact d, ?_⟩);rfl
 ·intro s a r;obtain ⟨h0,rfl⟩:=r;have aa:cs=[]:=by
   unfold GQ at h0;rw [al] at h0;exact O6 h0
  exact R8 fun R b=>Sf (j:=3) U12<|Sf (j:=3) U12<|Sf (j:=3) U12<|Sa [2,3,4] b Z<|Sh<|G.perm (L':=[s].map qu++[.obj i (.cells ⟨[.int .i64 0]⟩ 46 (0,0)),.obj g (.cells ⟨[.bool false]⟩ 4 (0,0)),.obj f (.cells ⟨[.slice none 0 0]⟩ 50 (0,0))]) (pkL [3,0,0,0] Z)<|Ue (Ds:=[s]) (.inl Z) (om ac ae af Z Z Z Z Z Z Z Z Z Z) ⟨Z,.none aa⟩
 intro s j q a hj hX;obtain ⟨rfl,x,A,n,c,d,rfl⟩:=hX;exact SK 64<|G.freezeArr 4 ((cX x).map aQ) Z Z (ph _) (al _) fun Cf hf ab=>Sh<|Ue (Ds:=[s]) (L:=[.obj i (.cells ⟨[.int .i64 0]⟩ 46 (0,0)),.obj g (.cells ⟨[.bool true]⟩ 4 (0,0)),.obj f (.cells ⟨[.slice A n c]⟩ 50 (0,0))]) (.inl Z) (om ac ae af Z Z Z Z Z Z Z Z Z Z) ⟨Z,.some x _ d ab⟩
theorem vL :Gu B RO l ↔ ∃ y:Nat->Rat,∀ r∈eP B RO l,Lp.sumN (fun j=>r.f.getD j 0*y j) (bs B*bp B)<=r.b:=by
 have hm:(dt (bs B*bp B) (ku (eP B RO l))).m=(eP B RO l).length:=al _;refine exists_congr fun y=>⟨fun h r hr=>?_,fun h i a=>?_⟩
 ·obtain ⟨i,a⟩:=PQ hr;obtain ⟨h1,h2⟩:=aF.1 a;have h3:=h i (by rw [hm];exact h1);have e:(ku (eP B RO l)).getD i ([],0)=(r.f,r.b):=by rw [sx h1,h2]
  have h4:Lp.sumN (fun j=>((ku (eP B RO l)).getD i ([],0)).1.getD j 0*y j) (bs B*bp B)<=((ku (eP B RO l)).getD i ([],0)).2:=h3;rw [e] at h4;exact h4
 rw [hm] at a;have h4:=h _ (Pn a);have e:(ku (eP B RO l)).getD i ([],0)=((eP B RO l)[i].f,(eP B RO l)[i].b):=sx a;show Lp.sumN (fun j=>((ku (eP B RO l)).getD i ([],0)).1.getD j 0*y j) (bs B*bp B)<=((ku (eP B RO l)).getD i ([],0)).2;rw [e];exact h4
theorem Il (h:Gu B RO l):ma B RO l=true:=@OK _ (Classical.propDecidable _) h
theorem Fi (h:¬ Gu B RO l):ma B RO l=false:=@OV _ (Classical.propDecidable _) h
theorem FE (h:l[k]?=some x):(l.map aQ)[k]?=some (aQ x):=by rw [Ou,h];rfl
theorem FH {c:Type}{a b:List c}(h:k<a.length)(d:k<b.length):(a.drop k=b.drop k ↔ a[k]=b[k]/\a.drop (k+1)=b.drop (k+1)):=by
 rw [OW h,OW d,Ql]
theorem vC (C:Mem)(v w:Value)(a b:List Nat)(d:Sl C 1 v (a.map aQ))(f:Sl C 1 w (b.map aQ)):Gives cx.P 22 [v,w] C (.bool (decide (a=b))):=by
 obtain ⟨A,c,rfl,u,K,_⟩:=id d;obtain ⟨A2,c2,rfl,_⟩:=id f;have L:maxLen<=9223372036854775807:=by simp [maxLen]
 simp only [al] at d f u ⊢;refine Sc func22 26 U3 fun w0=>C6 1 [0,1] Z<|C6 5 [0,1,10] Z<|R6 (fun g=>?_) fun g=>?_
 ·have r:(a.length:Int)≠b.length:=by simpa using g
  exact C6 1 [4] Z<|Sb U2<|⟨by rw [OV (fun e=>r (by rw [e]))],Z⟩
 have r:(a.length:Int)=b.length:=by simpa using g
 refine C6 1 [0,1,5] Z<|G.loop (fun fr C' z B=>∃ (k:Nat),(k<=a.length/\(a=b ↔ a.drop k=b.drop k))/\fr=[(0,[],.slice A a.length c),(1,[],.slice A2 b.length c2),(5,[],.int .i64 k)]/\z=[]/\B=a.length-k) (hn_ [0,1,5] Z) ⟨0,⟨Ow _,Iff.rfl⟩,Z,Z,Z⟩ (fun fr M N m D E=>?_);obtain ⟨k,⟨O,i⟩,rfl,rfl,rfl⟩:=E;refine C6 4 [0,1,5,14] Z<|R6 (fun j=>?_) fun j=>?_
 ·have l:k<a.length:=by
   have:=NM j;omega
  have s:k<b.length:=by omega
  obtain ⟨x,t⟩:∃ x,a[k]=x:=⟨_,rfl⟩;obtain ⟨y,hy⟩:∃ y,b[k]=y:=⟨_,rfl⟩;have n:=FH l s;rw [t,hy] at n;have F:a[k]?=some x:=by rw [ak l,t]
  have H:b[k]?=some y:=by rw [ak s,hy]
  refine Ss [0,1,2,3,4,5,6,7,8] [] Z kr_ fun R Q o=>R9 2 Z<|Sm d.m_ U10 om_ (FE F) fl_ fun S I=>R5 I U8<|R9 2 Z<|Sm f.m_ U10 om_ (FE H) fl_ fun T J=>R5 J U8<|C4 1 [0,1,5,25] o Z<|R6 (fun p=>?_) fun p=>?_
  ·have q:x≠y:=fun e=>by subst e;simp at p
   exact C6 1 [4] Z<|Sb U2<|⟨by rw [OV (fun e=>q (n.1 (i.1 e)).1)],Z⟩
  have q:x=y:=by
   have:(x:Int)=y:=by simpa using p
   omega
  refine R4 1 Z fun R o=>Se _ U7<|C4 1 [0,1,5] o Z<|Sj (m':=a.length-(k+1)) om_ D (hn_ [0,1,5] Z) ⟨k+1,⟨by omega,i.trans (n.trans ⟨fun h=>h.2,fun h=>⟨q,h⟩⟩)⟩,Z,Z,Z⟩
 have l:k=a.length:=by
  have:=Ox j;omega
 exact C6 1 [4] Z<|Sb U2<|⟨by rw [OK (i.2 (by rw [PI om_,PI om_]))],Z⟩
theorem H9 (C:Mem)(v w:Value)(a b:List (List Nat))(d:OutsIn C v a)(f:OutsIn C w b)(Y:a.length<=1000):Gives cx.P 17 [v,w] C (.bool (decide (a=b))):=by
 obtain ⟨g,z,d⟩:=d;obtain ⟨i,B,f⟩:=f;obtain ⟨A,c,rfl,J,aa,_⟩:=id d;obtain ⟨A2,c2,rfl,_⟩:=id f;have ab:maxLen<=9223372036854775807:=by simp [maxLen]
 have K:=z.1;have L:=B.1;simp only [al,K,L] at d f J ⊢;refine Sc func17 27 U3 fun w0=>C6 1 [0,1] Z<|C6 5 [0,1,10] Z<|R6 (fun j=>?_) fun j=>?_
 ·have D:(a.length:Int)≠b.length:=by simpa using j
  exact C6 1 [4] Z<|Sb U2<|⟨by rw [OV (fun e=>D (by rw [e]))],Z⟩
 have D:(a.length:Int)=b.length:=by simpa using j
 refine C6 1 [0,1,5] Z<|G.loop (fun fr C' M N=>∃ (k:Nat),(k<=a.length/\(a=b ↔ a.drop k=b.drop k))/\fr=[(0,[],.slice A a.length c),(1,[],.slice A2 b.length c2),(5,[],.int .i64 k)]/\M=[]/\N=a.length-k) (hn_ [0,1,5] Z) ⟨0,⟨Ow _,Iff.rfl⟩,Z,Z,Z⟩ (fun fr ac ad m O Q=>?_);obtain ⟨k,⟨hk,l⟩,rfl,rfl,rfl⟩:=Q;refine C6 4 [0,1,5,14] Z<|R6 (fun n=>?_) fun n=>?_
 ·have o:k<a.length:=by
   have:=NM n;omega
  have E:k<b.length:=by omega
  obtain ⟨x,F⟩:∃ x,a[k]=x:=⟨_,rfl⟩;obtain ⟨y,hy⟩:∃ y,b[k]=y:=⟨_,rfl⟩;have r:=FH o E;rw [F,hy] at r;obtain ⟨p,H⟩:∃ p,g[k]?=some p:=⟨g[k]'om_,ak om_⟩;obtain ⟨q,I⟩:∃ q,i[k]?=some q:=⟨i[k]'om_,ak om_⟩;have S:(g.map fun x=>[x])[k]?=some [p]:=by rw [Ou,H];rfl
  have T:(i.map fun x=>[x])[k]?=some [q]:=by rw [Ou,I];rfl
  have U:=z.2 k p x H (by rw [ak o,F]);have V:=B.2 k q y I (by rw [ak E,hy]);refine Ss [0,1,2,3,4,5,6,7,8,9] [(8,1)] Z kr_ fun R hB s=>R9 2 Z<|Sm d.m_ U10 om_ S fl_ fun ae W=>R5 W U8<|R9 2 Z<|Sm f.m_ U10 om_ T fl_ fun af X=>R5 X U8<|SF (fun _=>(vC _ _ _ x y U.m_ V.m_)) U9<|C4 1 [0,1,5,26] s Z<|R6 (fun t=>?_) fun t=>?_
  ·have u:x≠y:=by simpa using t
   exact C6 1 [4] Z<|Sb U2<|⟨by rw [OV (fun e=>u (r.1 (l.1 e)).1)],Z⟩
  have u:x=y:=by simpa using t
  refine R4 1 Z fun R s=>Se _ U7<|C4 1 [0,1,5] s Z<|Sj (m':=a.length-(k+1)) om_ O (hn_ [0,1,5] Z) ⟨k+1,⟨by omega,l.trans (r.trans ⟨fun h=>h.2,fun h=>⟨u,h⟩⟩)⟩,Z,Z,Z⟩
 have o:k=a.length:=by
  have:=Ox n;omega
 exact C6 1 [4] Z<|Sb U2<|⟨by rw [OK (l.2 (by rw [PI om_,PI om_]))],Z⟩
def pO1:Obs:=⟨2,[120],qtx 1,qtx 0,[49],[66],[65],[],[],[]⟩
def pO2:Obs:=⟨2,[121],qtx 1,qtx 0,[50],[66],[65],[],[],[]⟩
def pB:Bk:=⟨[(0,0),(2,0),(0,2)],[(0,1,2)],[[57],[57],[57]],[⟨[65],0,none⟩,⟨[66],0,none⟩],[pO1,pO2]⟩
theorem yK (C:Mem)(b:Tabs C)(x y:Int)(c:x.natAbs<1000000000)(d:y.natAbs<1000000000):Gives cx.P 19 [.int .i64 x,.int .i64 y] C (ptV (((x:Int):Rat),((y:Int):Rat))):=by
 refine Sc func19 10 U3 fun w0=>R8 fun R a=>Sq U5 fun e=>Sa [0,1,4] a Z<|R4 1 Z fun R a=>Sk (kC _ b.m_ x om_) U7 fl_<|R7 U6<|Sk (kC _ b.m_ y om_) U7 fl_<|Sn [ai (qtx x),ai (qtx y)] U8<|Sf (j:=0) U12<|Sa [4] a Z<|Sh (SV af U4 ?_);exact ⟨Z,Z⟩
def mO (nm d:Str):List Value:=[.int .i64 2,ai nm,ai (qtx ((1:Int):Rat)),ai (qtx ((0:Int):Rat)),ai d,ai [66],ai [65],ai [],ai [],ai []]
theorem Jt (C:Mem)(c:Tabs C)(a d:Str):Gives cx.P 44 [ai a,ai d] C (.agg ⟨mO a d⟩):=by
 refine Sc func44 9 U3 fun w0=>R8 fun R b=>Sq U5 fun e=>Sa [0,1,4] b Z<|R4 1 Z fun R b=>Sk (yK _ c.m_ 1 0 dc_ dc_) U7 fl_<|R7 U6<|Sn (mO a d) U8<|Sf (j:=0) U12<|Sa [4] b Z<|Sh (SV af U4 ?_);exact ⟨Z,Z⟩
theorem BJ:pB.col.map xR=[[ai [65],ai [48],ai []],[ai [66],ai [48],ai []]]:=by
 show [[ai [65],ai (qtx 0),ai []],[ai [66],ai (qtx 0),ai []]]=_;rw [NE]
theorem KX (C:Mem)(o:Tabs C):Pur cx.P 18 [] C fun u D=>BookIn D u pB:=by
 refine Sc func18 21 U3 fun w0=>R8 fun R a=>Sq U5 fun y=>Sa [0] a Z<|R8 fun R a=>Sk (yK _ o.m_ 0 0 dc_ dc_) U7 fl_<|Sk (yK _ o.m_ 2 0 dc_ dc_) U7 fl_<|Sk (yK _ o.m_ 0 2 dc_ dc_) U7 fl_<|SJ [fR (((0:Int):Rat),((0:Int):Rat)),fR (((2:Int):Rat),((0:Int):Rat)),fR (((0:Int):Rat),((2:Int):Rat))] U12 fl_ fun i _ _ m=>Sn ([.int .i64 0,.int .i64 1,.int .i64 2]) U8<|SJ [[.int .i64 0,.int .i64 1,.int .i64 2]] U12 fl_ fun k _ _ n=>Sn [.slice (some ⟨i,0,none⟩) 3 3,.slice (some ⟨k,0,none⟩) 1 1] U8<|Sq U5 fun H=>Sf (j:=0) U12<|Sa [0,1] a Z<|C6 1 [0,1,2] Z<|G.freeze 0 Z fun _ _ z=>G.cut (fun fr C' A B=>∃ (s t v w x:Value),(BookIn C' (.agg ⟨[s,t,v,w,x]⟩) pB)/\fr=[(0,[],.pointer (some ⟨y,0,none⟩))]/\A=[.obj y (.cells ⟨[s,t,v,w,x]⟩ 42 (0,0))]) ?_ (fun fr I J B K E=>?_)
 ·refine SR (.cut [0,2,3,5,6,7,8] (.alt 1 (.cut [] (.alt 4 (.fin [9,10,11]) (.alt 9 (.fin [4,10,11]) .stop))) (.alt 4 (.cut [] (.alt 1 (.fin [9,10,11]) (.alt 9 (.fin [1,10,11]) .stop))) (.alt 9 (.cut [] (.alt 1 (.fin [4,10,11]) (.alt 4 (.fin [1,10,11]) .stop))) .stop)))) [(6,1),(8,1),(0,0)] Z Z kr_ fun R l a b=>S6 (fun _=>((bkT z 2).mono l)) U9<|Sn ([ai [65],ai [48],ai []]) U8<|Sn ([ai [66],ai [48],ai []]) U8<|R7 U6<|SF (fun _=>(Jt _ o.m_ [120] [49])) U9<|R7 U6<|SF (fun _=>(Jt _ o.m_ [121] [50])) U9<|SE b Z ⟨?_, ?_, ?_,trivial⟩
  ·refine SJ [[ai [57]],[ai [57]],[ai [57]]] U12 fl_ fun c p _ d=>SE b Z ⟨?_, ?_,trivial⟩
   ·refine SJ [[ai [65],ai [48],ai []],[ai [66],ai [48],ai []]] U12 fl_ fun e q _ f=>SJ [mO [120] [49],mO [121] [50]] U12 fl_ fun g r _ h=>Sn [.slice (some ⟨i,0,none⟩) 3 3,.slice (some ⟨k,0,none⟩) 1 1,.slice (some ⟨c,0,none⟩) 3 3,.slice (some ⟨e,0,none⟩) 2 2,.slice (some ⟨g,0,none⟩) 2 2] U8<|Sf (j:=0) U12<|Sa [0] a Z ?_;clear a l b R;exact Si 0 mup (hn_ [0] Z) ⟨_,_,_,_,_,⟨_,_,_,_,_,Z,m.mono mup,n.mono mup,d.mono mup,(by rw [BJ];exact f.mono mup),h.mono mup⟩,Z,Z⟩
   refine SJ [mO [120] [49],mO [121] [50]] U12 fl_ fun g r _ h=>SJ [[ai [65],ai [48],ai []],[ai [66],ai [48],ai []]] U12 fl_ fun e q _ f=>Sn [.slice (some ⟨i,0,none⟩) 3 3,.slice (some ⟨k,0,none⟩) 1 1,.slice (some ⟨c,0,none⟩) 3 3,.slice (some ⟨e,0,none⟩) 2 2,.slice (some ⟨g,0,none⟩) 2 2] U8<|Sf (j:=0) U12<|Sa [0] a Z ?_;clear a l b R;exact Si 0 mup (hn_ [0] Z) ⟨_,_,_,_,_,⟨_,_,_,_,_,Z,m.mono mup,n.mono mup,d.mono mup,(by rw [BJ];exact f.mono mup),h.mono mup⟩,Z,Z⟩
  ·refine SJ [[ai [65],ai [48],ai []],[ai [66],ai [48],ai []]] U12 fl_ fun e q _ f=>SE b Z ⟨?_, ?_,trivial⟩
   ·refine SJ [[ai [57]],[ai [57]],[ai [57]]] U12 fl_ fun c p _ d=>SJ [mO [120] [49],mO [121] [50]] U12 fl_ fun g r _ h=>Sn [.slice (some ⟨i,0,none⟩) 3 3,.slice (some ⟨k,0,none⟩) 1 1,.slice (some ⟨c,0,none⟩) 3 3,.slice (some ⟨e,0,none⟩) 2 2,.slice (some ⟨g,0,none⟩) 2 2] U8<|Sf (j:=0) U12<|Sa [0] a Z ?_;clear a l b R;exact Si 0 mup (hn_ [0] Z) ⟨_,_,_,_,_,⟨_,_,_,_,_,Z,m.mono mup,n.mono mup,d.mono mup,(by rw [BJ];exact f.mono mup),h.mono mup⟩,Z,Z⟩
   refine SJ [mO [120] [49],mO [121] [50]] U12 fl_ fun g r _ h=>SJ [[ai [57]],[ai [57]],[ai [57]]] U12 fl_ fun c p _ d=>Sn [.slice (some ⟨i,0,none⟩) 3 3,.slice (some ⟨k,0,none⟩) 1 1,.slice (some ⟨c,0,none⟩) 3 3,.slice (some ⟨e,0,none⟩) 2 2,.slice (some ⟨g,0,none⟩) 2 2] U8<|Sf (j:=0) U12<|Sa [0] a Z ?_;clear a l b R;exact Si 0 mup (hn_ [0] Z) ⟨_,_,_,_,_,⟨_,_,_,_,_,Z,m.mono mup,n.mono mup,d.mono mup,(by rw [BJ];exact f.mono mup),h.mono mup⟩,Z,Z⟩
  refine SJ [mO [120] [49],mO [121] [50]] U12 fl_ fun g r _ h=>SE b Z ⟨?_, ?_,trivial⟩
  ·refine SJ [[ai [57]],[ai [57]],[ai [57]]] U12 fl_ fun c p _ d=>SJ [[ai [65],ai [48],ai []],[ai [66],ai [48],ai []]] U12 fl_ fun e q _ f=>Sn [.slice (some ⟨i,0,none⟩) 3 3,.slice (some ⟨k,0,none⟩) 1 1,.slice (some ⟨c,0,none⟩) 3 3,.slice (some ⟨e,0,none⟩) 2 2,.slice (some ⟨g,0,none⟩) 2 2] U8<|Sf (j:=0) U12<|Sa [0] a Z ?_;clear a l b R;exact Si 0 mup (hn_ [0] Z) ⟨_,_,_,_,_,⟨_,_,_,_,_,Z,m.mono mup,n.mono mup,d.mono mup,(by rw [BJ];exact f.mono mup),h.mono mup⟩,Z,Z⟩
  refine SJ [[ai [65],ai [48],ai []],[ai [66],ai [48],ai []]] U12 fl_ fun e q _ f=>SJ [[ai [57]],[ai [57]],[ai [57]]] U12 fl_ fun c p _ d=>Sn [.slice (some ⟨i,0,none⟩) 3 3,.slice (some ⟨k,0,none⟩) 1 1,.slice (some ⟨c,0,none⟩) 3 3,.slice (some ⟨e,0,none⟩) 2 2,.slice (some ⟨g,0,none⟩) 2 2] U8<|Sf (j:=0) U12<|Sa [0] a Z ?_;clear a l b R;exact Si 0 mup (hn_ [0] Z) ⟨_,_,_,_,_,⟨_,_,_,_,_,Z,m.mono mup,n.mono mup,d.mono mup,(by rw [BJ];exact f.mono mup),h.mono mup⟩,Z,Z⟩
 obtain ⟨s,t,v,w,x,F,rfl,rfl⟩:=E;refine Sh (SV af U4 ?_);exact ⟨Z,F⟩
theorem KD (h:q.den=1):q=(q.num:Rat):=Rat.ext rfl h
def wlB (D:Int)(q:Rat):Bool:=decide ((q*(D:Rat)).den=1) && decide ((q*(D:Rat)).num.natAbs<=999999999)
theorem Jl {D:Int}(h:wlB D q=true):Wl D q:=by
 unfold wlB at h;simp only [OC,Oz] at h;exact ⟨_,KD h.1,h.2⟩
theorem Hw {r:RowQ}(D:Int)(a:D≠0)(c:D.natAbs<=999999999)(h:(r.f.all (wlB D) && wlB D r.b)=true):RowI r:=by
 simp only [OC,OM] at h;exact ⟨D,a,c,fun q d=>Jl (h.1 q d),Jl h.2⟩
theorem sE:qtx 1=[49]:=sG (z:=1) aq
theorem HB:qtx 9=[57]:=sG (z:=9) aq
theorem ro1:dO [49]=1:=xp 1 sE aq
theorem NV:dO [50]=2:=xp 2 KE aq
theorem qg:pO1=⟨2,[120],[49],[48],[49],[66],[65],[],[],[]⟩:=by rw [pO1,sE,qtx_zero]
theorem qe:pO2=⟨2,[121],[49],[48],[50],[66],[65],[],[],[]⟩:=by rw [pO2,sE,qtx_zero]
theorem MW:Good pB.pts pB.tris:=(Fm aq dc_ dc_ dc_).1
theorem Ey:oP pB.pts pB.tris (1,0)=[0]:=by decide +kernel
theorem N1:ptO pO1=(1,0):=by rw [qg];unfold ptO;rw [ro1,ro0]
theorem N0:ptO pO2=(1,0):=by rw [qe];unfold ptO;rw [ro1,ro0]
theorem NZ:eK pO1=0:=by rw [qg];decide +kernel
theorem NY:eK pO2=0:=by rw [qe];decide +kernel
theorem N3:iq pB.pts pB.tris pB.col pO1=0:=by
 unfold iq;rw [aA (by rw [NZ];decide),aA (by unfold J0;rw [N1,Ey];decide),aA (by rw [qg];decide +kernel),aA (by rw [qg];decide +kernel),aA (by rw [qg];unfold Mf;rw [ro1];decide +kernel),aA (by rw [qg];decide +kernel)]
theorem N2:iq pB.pts pB.tris pB.col pO2=0:=by
 unfold iq;rw [aA (by rw [NY];decide),aA (by unfold J0;rw [N0,Ey];decide),aA (by rw [qe];decide +kernel),aA (by rw [qe];decide +kernel),aA (by rw [qe];unfold Mf;rw [NV];decide +kernel),aA (by rw [qe];decide +kernel)]
def pFs:List Rat:=[9,9,9]
theorem MT:Terr pB pFs:=⟨by simp [pB,pFs,HB],rfl,by decide +kernel⟩
theorem p_on:onQ pB.pts pFs (0,1,2) (1,0)=9:=by decide +kernel
theorem MS:GS pB.pts pB.tris pFs (1,0)=.tuple #[ai (qtx 9),.int .i64 0]:=by
 unfold GS;rw [Ey];show EK (onQ pB.pts pFs (0,1,2) (1,0))=_;rw [p_on];unfold EK;rw [aI (bM aq)]
theorem p_w:∀ j,QB 22 (wgt pB.pts (0,1,2) (1,0) j):=by
 intro j;rw [Ka];rcases (by omega:j % 3=0∨j % 3=1∨j % 3=2) with h | h | h <;> rw [h] <;> decide +kernel
theorem p_sl:∀ j,QP 22 (slf pB.pts (0,1,2) j):=by
 intro j;unfold slf;rw [GZ];rcases (by omega:min j 2=0∨min j 2=1∨min j 2=2) with h | h | h <;> rw [h] <;> decide +kernel
def pR (z:Rat):List RowQ:=[⟨[1/2,1/2,0],z⟩,⟨[-1/2, -1/2,0], -z⟩]
theorem p_rows1:rowsO pB pO1 (1,0) (0,1,2) 9=pR 8:=by
 unfold rowsO mH;rw [qg,ro1];decide +kernel
theorem p_rows2:rowsO pB pO2 (1,0) (0,1,2) 9=pR 7:=by
 unfold rowsO mH;rw [qe,NV];decide +kernel
theorem N4:∀ o∈pB.obs,ObsR o:=by
 intro o a;simp only [pB,OE,PL,QW] at a;rcases a with rfl | rfl
 ·rw [qg];exact ⟨by decide,by decide,by decide,by decide,by decide,by decide,by decide,by decide,by decide⟩
 rw [qe];exact ⟨by decide,by decide,by decide,by decide,by decide,by decide,by decide,by decide,by decide⟩
theorem p_br:BookR pB:=by
 refine ⟨by decide, ?_,by decide,N4⟩;intro x a;simp only [pB,OE,PL,QW] at a;rcases a with rfl | rfl
 ·exact ⟨by decide +kernel,fun q h=>by simp at h,by decide⟩
 exact ⟨by decide +kernel,fun q h=>by simp at h,by decide⟩
theorem p_bz:iU pB=0:=by
 have h1:qj pB 1=0:=by
  have h0:qj pB 0=0:=rfl;show (if qj pB 0≠0 then qj pB 0 else obZ pB (pB.obs.take 0) (pB.obs.getD 0 H2))=0;rw [aA (by rw [h0];decide)];show obZ pB [] pO1=0;unfold obZ;rw [aA (by rw [N3];decide),aA dc_]
 have h2:qj pB 2=0:=by
  show (if qj pB 1≠0 then qj pB 1 else obZ pB (pB.obs.take 1) (pB.obs.getD 1 H2))=0;rw [aA (by rw [h1];decide)];show obZ pB [pO1] pO2=0;unfold obZ;rw [aA (by rw [N2];decide),aA dc_]
 unfold iU;rw [aA aq,aA aq,aA dc_];exact h2
def pRO (i:Nat):List RowQ:=if i=0 then pR 8 else pR 7
theorem K0:Fine pB pFs pO1 (1,0) 0 (0,1,2) 9 :=
 ⟨⟨rfl,rfl,by decide +kernel,⟨bM aq,bM aq⟩,fun _=>by decide +kernel⟩,⟨[],Ey⟩,rfl,MS,by decide +kernel,by unfold mH;rw [qg,ro1];decide +kernel,p_w,by rw [qg];decide +kernel,p_sl,fun _ h=>absurd rfl h,by
  rw [p_rows1];unfold NJ;decide +kernel⟩
theorem KZ:Fine pB pFs pO2 (1,0) 0 (0,1,2) 9 :=
 ⟨⟨rfl,rfl,by decide +kernel,⟨bM aq,bM aq⟩,fun _=>by decide +kernel⟩,⟨[],Ey⟩,rfl,MS,by decide +kernel,by unfold mH;rw [qe,NV];decide +kernel,p_w,by rw [qe];decide +kernel,p_sl,fun _ h=>absurd rfl h,by
  rw [p_rows2];unfold NJ;decide +kernel⟩
theorem MU:Rich pB pFs pRO:=by
 refine ⟨MW,p_br,p_bz,MT,by decide,fun i o a=>?_⟩;rcases (by have h:=(aF.1 a).1;have h2:pB.obs.length=2:=rfl;omega:i=0∨i=1) with rfl | rfl
 ·simp only [pB,List.getElem?_cons_zero,O0] at a;subst a;exact ⟨_,_,_,_,K0,p_rows1.symm⟩
 simp only [pB,Qq,List.getElem?_cons_zero,O0] at a;subst a;exact ⟨_,_,_,_,KZ,p_rows2.symm⟩
theorem pR_I:∀ r∈pR 8++pR 7,RowI r:=by
 intro r hr;simp only [pR,PZ,P7,OE,PL,QW] at hr;rcases hr with rfl | rfl | rfl | rfl <;> exact Hw 2 dc_ dc_ aq
theorem p_th:bG pB=[]:=rfl
theorem zG:Calm pB pFs pRO:=by
 refine ⟨MU,by decide,fun r hr=>(by rw [p_th] at hr;cases hr),fun i _ r hr=>?_,by decide,fun i _=>?_,by decide⟩
 ·refine pR_I r ?_;unfold pRO at hr;split at hr
  ·exact PP _ hr
  exact Qb _ hr
 unfold pRO;split <;> decide
theorem Ez (y:Rat)(h:∀ r∈eP pB pRO l,Lp.sumN (fun j=>r.f.getD j 0*y) 3<=r.b):ma pB pRO l=true:=Il (vL.2 ⟨fun _=>y,h⟩)
theorem sM :eP pB pRO l=l.flatMap pRO:=by rw [mZ,p_th];rfl
theorem p_h0:ma pB pRO []=true:=Ez 0 (by rw [sM];decide)
theorem p_h1:ma pB pRO [0]=true:=Ez 8 (by rw [sM];decide +kernel)
theorem p_h2:ma pB pRO [1]=true:=Ez 7 (by rw [sM];decide +kernel)
theorem p_h3:ma pB pRO [0,1]=false:=by
 refine Fi fun h=>?_;obtain ⟨y,hy⟩:=vL.1 h;rw [sM] at hy;have h1:=hy ⟨[-1/2, -1/2,0], -8⟩ aq;have h2:=hy ⟨[1/2,1/2,0],7⟩ aq;have e:bs pB*bp pB=3:=rfl;rw [e] at h1 h2;simp only [Lp.sumN,ax,List.getElem?_cons_zero,Qq,Pu] at h1 h2;grind
theorem p_hS:hS pB pRO 0=true/\hS pB pRO 1=true/\hS pB pRO 2=true/\hS pB pRO 3=false:=⟨p_h0,p_h1,p_h2,p_h3⟩
theorem MG:cq 2=[0,1,2,3]:=by decide +kernel
theorem K1:iT (hS pB pRO) (cq 2)=[3]:=by
 obtain ⟨h0,h1,h2,h3⟩:=p_hS;rw [MG];simp only [iT,Qc,List.foldl_nil,ir,h0,h1,h2,h3,List.any_nil,Bool.or_true,Bool.or_false,Qa,Pf,PG,P7]
theorem MV:(xn (hC pB pRO) (cq 2)).map cX=[[0],[1]]:=by
 obtain ⟨h0,h1,h2,h3⟩:=p_hS;have a:hC pB pRO 0=false:=h3;have b:hC pB pRO 1=true:=h2;have c:hC pB pRO 2=true:=h1;have d:hC pB pRO 3=true:=h0;rw [MG];simp only [xn,Qc,List.foldl_nil,oo,a,b,c,d];decide +kernel
theorem Oj:AscIn 2 [0,1]:=⟨by decide,by decide⟩
theorem asc1:AscIn 2 [1]:=⟨by decide,by decide⟩
theorem BL {D:Mem}{v a b:Value}{p q:List Nat}(c:Sl D 1 a (p.map aQ))(d:Sl D 1 b (q.map aQ))(e:Sl D 1 v [[a],[b]]):OutsIn D v [p,q] :=
 ⟨[a,b],(OutL.nil D).snoc c |>.snoc d,e⟩
theorem xf {D:Mem}{u:Value}(h:SmallO [x] D u):∃ v,u=.tuple #[v,.bool true,.int .i64 0]/\Sl D 1 v ((cX x).map aQ):=by
 cases h with
 | none h=>cases h
 | some y v h1 h2 =>
  cases h1
  exact ⟨v,Z,h2⟩
theorem vA (C:Mem)(b:Tabs C):Gives cx.P 11 [] C (.bool true):=by
 refine Sc func11 71 U3 fun w0=>R4 1 Z fun R a=>Ta [] trivial (a _ _ _ Z ?_);refine R8 fun R a=>SI (KX _ b.m_) U7 (fun y _ _ c=>?_);obtain ⟨z,A,B,D,E,rfl,g,h,i,k,l⟩:=id c.ex;obtain ⟨F,H,rfl,_⟩:=id g;obtain ⟨A2,c2,rfl,_⟩:=id h;obtain ⟨I,J,rfl,_⟩:=id i;obtain ⟨K,L,rfl,_⟩:=id k;obtain ⟨M,N,rfl,_⟩:=id l;refine Sq U5 fun O=>Sf (j:=0) U12<|Sa [1] a Z<|G.freeze 0 Z fun _ _ e=>R8 fun R a=>R5 (bkT e 5) U8<|Sr [[.int .i64 0],[.int .i64 1]] U12 fun Q _ _ m=>Sg (AU _ b.m_ _ _ pB pFs pRO [0,1] c.m_ zG Oj m.m_) U7<|C4 5 [1,2,3] a Z<|R8 fun R a=>R5 (bkT e 5) U8<|Sr [[.int .i64 1]] U12 fun S _ _ n=>Sg (AU _ b.m_ _ _ pB pFs pRO [1] c.m_ zG asc1 n.m_) U7<|C4 5 [1,2,3,4,5] a Z<|R8 fun R a=>R5 (bkT e 5) U8<|SD (yl _ b.m_ _ pB pFs pRO c.m_ zG dc_) U7 fl_ (fun T _ _ o=>?_);have p:=K1 ▸ o;obtain ⟨U,rfl,q⟩:=xf p;refine C4 7 [1,2,3,4,5,6,7,8] a Z<|R8 fun R a=>R5 (bkT e 5) U8<|SD (CL _ b.m_ _ pB pFs pRO c.m_ zG dc_) U7 fl_ (fun V _ _ r=>?_);obtain ⟨W,rfl,f⟩:=r;rw [show pB.obs.length=2 from rfl,MV] at f;exact C4 5 [2,3,4,5,6,7,8,9,10] a Z<|R4 5 Z fun R a=>Sv U8<|R9 2 Z<|Sv U8<|R9 3 Z<|Sv U8<|R9 2 Z<|Tt [[.int .i64 0],[.int .i64 1]] U12 fl_ U2 fun X _ _ s=>Su (fun d=>vC _ _ _ [0,1] [0,1] q.m_ ((s (by exact d)).mono mup)) U9<|Sv U8<|R9 2 Z<|Sv U8<|R9 3 Z<|Sv U8<|R9 2 Z<|Tt [[.int .i64 0]] U12 fl_ U2 fun t _ _ u=>Tt [[.int .i64 1]] U12 fl_ U2 fun v _ _ w=>Tt [[.slice (some ⟨t,0,none⟩) 1 1],[.slice (some ⟨v,0,none⟩) 1 1]] U12 fl_ U2 fun Y _ _ x=>Su (fun d=>H9 _ _ _ [[0],[1]] [[0],[1]] f.m_ (BL ((u (by exact d)).mono mup) ((w (by exact d)).mono mup) ((x (by exact d)).mono mup)) dc_) U9<|Sv U8<|R9 3 Z<|Sv U8<|C4 1 [0] a Z<|Sb U2<|⟨by rw [p_h3,p_h2];rfl,Z⟩
end Go.Proofs.YthnpijdjlddpmaaGreatDoor
