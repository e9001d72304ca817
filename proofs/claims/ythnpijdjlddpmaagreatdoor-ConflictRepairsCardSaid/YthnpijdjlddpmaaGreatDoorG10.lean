/- Laws that the proofs of this seat share, part 10. -/
import Derived.Test.YthnpijdjlddpmaaGreatDoorG9
import Derived.Test.YthnpijdjlddpmaaGreatDoorShelf
set_option maxHeartbeats 4000000
namespace Go.Proofs.YthnpijdjlddpmaaGreatDoor
open Go.Proofs.Tryz
open Go Go.Jog
set_option maxRecDepth 100000
variable {B:Bk}{C:Mem}{RO:Nat->List RowQ}{err:Nat->Int}{fs:List Rat}{i:Nat}{n:Int}{o:Obs}{p:Pt}{r:RowQ}{t:Tri}{v:Value}{vs:List Value}{z:Rat}
theorem qB (C:Mem)(v:Value)(l:List Rat)(b:Sl C 1 v (l.map fe))(t:l.length<=1000000):Jog.Fn cx.P 173 [v] C [] fun u _w e=>∃ A n c,u=.slice A n c/\e=[.arr (.slice A n c) 56 1 l.length (l.map fe).flatten]:=by
 obtain ⟨f,c0,rfl,m,x,y,o⟩:=id b;have z:maxLen<=9223372036854775807:=by simp [maxLen]
 simp only [al] at b m ⊢;refine Ud func173 8 U3 fun w0=>TT 1 [0] Z<|TU 1 Z fun R d=>VK U9<|TZ [0,4] d Z<|TW (fun h4=>?_) fun h4=>?_
 ·have p:f=none:=by
   cases f with
   | none=>rfl
   | some a=>cases h4
  have s:l=[]:=by
   cases l with
   | nil=>rfl
   | cons q r =>
    obtain ⟨a,g,_⟩:=o 0 (fe q) rfl;rw [p] at g;cases g
  refine TT 1 [2] Z<|G.nilArr 56 1<|Ui (UK Z Z ?_);exact ⟨none,0,0,Z,by rw [s];rfl⟩
 refine TY fun R d=>Va [] U12 fl_ fun B=>TX U6<|Uy (j:=0) U11 b.m_ (by simp [fe,mD,ah]) (by simp only [al,Qu,maxLen];omega) (by simp only [al,Qu];omega) fl_ fun h i k=>C4 1 [2] d Z<|Um (L':=[.arr (.slice h i k) 56 1 l.length (l.map fe).flatten]) am<|Ui (UK Z Z ?_);exact ⟨h,i,k,Z,Z⟩
def NY (r:RowQ):Prop:=(∀ q∈r.f,QB 22 q)/\QB 22 r.b
theorem kF {a:List RowQ}{w:Value}(c:vs[i]?=some w)(d:a[i]?=some r):(aS vs a)[i]?=some [w,ah (qtx r.b)]:=by
 unfold aS;rw [List.getElem?_zipWith,c,d]
theorem DX (C:Mem)(hT:Tabs C)(v:Value)(a:List RowQ)(hv:RowsIn C v a)(e:∀ r∈a,NY r)(ac:∀ r∈a,r.f.length<=1000)(ao:a.length<=100000) :
  Gives cx.P 200 [v] C (.tuple #[v,.int .i64 0]):=by
 obtain ⟨vs,z,A⟩:=hv;obtain ⟨l,c0,rfl,ad,ap,_⟩:=id A;have aq:maxLen<=9223372036854775807:=by simp [maxLen]
 simp only [dv z.1] at A ad ⊢;refine Ud func200 32 U3 fun w0=>TT 2 [0] Z<|TT 3 [0,8,9,10] Z<|G.loop (fun fr C' n o=>∃ (i:Nat),(i<=a.length)/\fr=[(0,[],.slice l a.length c0),(8,[],.slice l a.length c0),(9,[],.int .i64 a.length),(10,[],.int .i64 i)]/\n=[]/\o=a.length-i) (hn_ [0,8,9,10] Z) ⟨0,Qf _,Z,Z,Z⟩ (fun fr ar au m _ p=>?_);obtain ⟨i,hi,rfl,rfl,rfl⟩:=p;refine TT 1 [0,8,9,10,11] Z<|TW (fun H=>?_) fun H=>?_
 ·have I:i<a.length:=by simpa using H
  obtain ⟨r,B⟩:∃ r,a[i]?=some r:=⟨a[i],aj I⟩;obtain ⟨w,J⟩:∃ w,vs[i]?=some w:=⟨vs[i]'(by rw [z.1];exact I),aj _⟩;have K:=Qc B;obtain ⟨ae,af⟩:=e r K;have av:=ac r K;have aw:(r.f++[r.b]).length<=1001:=by simp;omega
  have x:=z.2 i w r J B;obtain ⟨Aw,cw,rfl,_⟩:=id x;refine TY fun R c=>Ul A.m_ U10 om_ (kF J B) fl_ fun ay ag=>TV ag U8<|Uo U5 fun b5=>Uf (j:=0) U12<|TZ [0,5,8,9,10] c Z<|G.freeze 0 Z fun _ _ E=>G.cut (fun fr C' n o=>∃ (g:Option Addr)(k:Nat),(Sl C' 1 (.slice g (r.f++[r.b]).length k) ((r.f++[r.b]).map fe))/\fr=[(0,[],.slice l a.length c0),(8,[],.slice l a.length c0),(9,[],.int .i64 a.length),(10,[],.int .i64 i),(20,[],.slice g (r.f++[r.b]).length k),(21,[],.int .i64 (r.f++[r.b]).length),(22,[],.int .i64 0)]/\n=[]) ?_ (fun fr az aA o aB p=>?_)
  ·refine UP (.cut [0,1,3,8] (.alt 2 (.fin [4,5,6,7]) (.alt 4 (.cut [] (.alt 2 (.fin [5,6,7]) (.alt 5 (.fin [2,6,7]) .stop))) .stop))) [(2,3)] Z Z kr_ fun R hB c L=>TX U6<|TV (bkT E 1) U8<|Ua 2 Z<|UE L Z ⟨?_, ?_,trivial⟩
   ·refine D.call (qB _ _ r.f x.m_ om_) Z (.inr dc_) U6 (Qh _) fl_ fun M N O _ s=>TV (bkT E 1) U8<|Uq [fe r.b] U12 (fun Q S _ t=>?_);obtain ⟨T,U,cc,rfl,rfl⟩:=s;refine Uy (j:=0) U11 t.m_ (by simp [fe,mD,ah]) ax (by simp only [aI];omega) fl_ fun g V k=>C4 1 [0,8,9,10,20,21,22] c Z<|G.freezeArr 0 ((r.f++[r.b]).map fe) rfl am (by intro r e;obtain ⟨y,_,rfl⟩:=Qk.1 e;rfl) am (fun W X d=>?_);obtain ⟨Y,cz,u,_⟩:=id d;cases u
    simp only [al] at d ⊢;exact G.dropAll<|Uj 0 mup (hn_ [0,8,9,10,20,21,22] Z) ⟨_,_,d,Z,Z⟩
   refine TV (bkT E 1) U8<|UE L Z ⟨?_, ?_,trivial⟩
   ·refine D.call (qB _ _ r.f x.m_ om_) Z (.inr dc_) U6 (Qh _) fl_ fun M N O _ s=>Uq [fe r.b] U12 (fun Q S _ t=>?_);obtain ⟨T,U,cc,rfl,rfl⟩:=s;refine Uy (j:=0) U11 t.m_ (by simp [fe,mD,ah]) ax (by simp only [aI];omega) fl_ fun g V k=>C4 1 [0,8,9,10,20,21,22] c Z<|G.freezeArr 0 ((r.f++[r.b]).map fe) rfl am (by intro r e;obtain ⟨y,_,rfl⟩:=Qk.1 e;rfl) am (fun W X d=>?_);obtain ⟨Y,cz,u,_⟩:=id d;cases u
    simp only [al] at d ⊢;exact G.dropAll<|Uj 0 mup (hn_ [0,8,9,10,20,21,22] Z) ⟨_,_,d,Z,Z⟩
   refine Uq [fe r.b] U12 fun Q S _ t=>D.call (qB _ _ r.f x.m_ om_) Z (.inr dc_) U6 (Qh _) fl_ (fun M N O _ s=>?_);obtain ⟨T,U,cc,rfl,rfl⟩:=s;refine Uy (j:=0) U11 t.m_ (by simp [fe,mD,ah]) ax (by simp only [aI];omega) fl_ fun g V k=>C4 1 [0,8,9,10,20,21,22] c Z<|G.freezeArr 0 ((r.f++[r.b]).map fe) rfl am (by intro r e;obtain ⟨y,_,rfl⟩:=Qk.1 e;rfl) am (fun W X d=>?_);obtain ⟨Y,cz,u,_⟩:=id d;cases u
   simp only [al] at d ⊢;exact G.dropAll<|Uj 0 mup (hn_ [0,8,9,10,20,21,22] Z) ⟨_,_,d,Z,Z⟩
  obtain ⟨g,k,ai,rfl,rfl⟩:=p;refine G.loop (fun fr C' n o=>∃ (j:Nat),(j<=(r.f++[r.b]).length)/\fr=[(0,[],.slice l a.length c0),(8,[],.slice l a.length c0),(9,[],.int .i64 a.length),(10,[],.int .i64 i),(20,[],.slice g (r.f++[r.b]).length k),(21,[],.int .i64 (r.f++[r.b]).length),(22,[],.int .i64 j)]/\n=[]/\o=(r.f++[r.b]).length-j) (hn_ [0,8,9,10,20,21,22] Z) ⟨0,Qf _,Z,Z,Z⟩ (fun fr aC aD m _ p=>?_);obtain ⟨j,hj,rfl,rfl,rfl⟩:=p;refine TT 1 [0,8,9,10,20,21,22,23] Z<|TW (fun aa=>?_) fun aa=>?_
  ·have ak:j<(r.f++[r.b]).length:=by
    have:=aJ aa;omega
   obtain ⟨q,hq⟩:∃ q,(r.f++[r.b])[j]?=some q:=⟨(r.f++[r.b])[j],aj ak⟩;have ab:QB 22 q:=by
    rcases Qt.1 (Qc hq) with h | h
    ·exact ae q h
    rw [Qx.1 h];exact af
   refine TY fun R c=>Ul ai.m_ U10 om_ (bX hq) fl_ fun aE an=>TV an U8<|C4 1 [0,7,8,9,10,20,21,22] c Z<|TU 1 Z fun R c=>Uh (dV _ hT.m_ _ (tP ab)) U7<|C4 1 [0,8,9,10,20,21,22,28] c Z<|TW (fun F=>?_) fun F=>?_
   ·exfalso;rw [xq ab] at F;exact absurd F dc_
   refine TY fun R c=>Ue _ U7<|C4 1 [0,8,9,10,20,21,22] c Z<|Ug (m':=(r.f++[r.b]).length-(j+1)) om_ mup (hn_ [0,8,9,10,20,21,22] Z) ⟨j+1,om_,Z,Z,Z⟩
  refine TY fun R c=>Ue _ U7<|C4 1 [0,8,9,10] c Z<|Ug (m':=a.length-(i+1)) om_ mup (hn_ [0,8,9,10] Z) ⟨i+1,om_,Z,Z,Z⟩
 refine TT 3 [2,3] Z<|Ui (G.dropAll (Uw U3 ?_));exact ⟨Z,Z⟩
def iz (s p k:Nat)(fm:List (Nat × Rat))(b sg:Rat):RowQ:=⟨I2 s p k fm sg,sg*b⟩
theorem jn (C:Mem)(N:Tabs C)(s p d b g v:Nat)(c:List (Nat × Rat))(e:Rat)(a:List Rat)(H w:Value)(n:List Value)(f:List RowQ)(ai:s*p<=60)(O:d<s)(Q:C v=some (.cells ⟨[.int .i64 (s:Nat),.int .i64 (p:Nat)]⟩ 142 (0,0)))(S:C b=some (aP keyZ.enc (eG c)))(T:(c.map (·.1)).Nodup)(U:∀ x∈c,x.1<p)(V:∀ x∈c,QB 23 x.2)(W:QB 23 e)
  (y:Sl C 1 H (a.map fe)) (X:∀ q∈a,QB 1 q) (ak:a.length<=2) (Y:RowsOk C n f) (an:f.length<=10000) :
  Jog.Fn cx.P 195 [.int .i64 d,.map (some b),ah (qtx e),H,.pointer (some ⟨g,0,none⟩),.pointer (some ⟨v,0,none⟩)] C [.obj g (.cells ⟨[w]⟩ 78 (0,0)),.arr w 123 2 f.length (aS n f).flatten]
   fun u C' k=>∃ I w',u=.tuple #[]/\k=[.obj g (.cells ⟨[w']⟩ 78 (0,0)),.arr w' 123 2 (f++a.map (iz s p d c e)).length (aS I (f++a.map (iz s p d c e))).flatten]/\RowsOk C' I (f++a.map (iz s p d c e)):=by
 obtain ⟨A0,c0,rfl,aa,ao,_⟩:=id y;have ap:maxLen<=9223372036854775807:=by simp [maxLen]
 simp only [al] at y aa ⊢;refine Ud func195 28 U3 fun w0=>TT 3 [0,1,2,4,5,12,13,14] Z<|Um (L':=[.obj g (.cells ⟨[w]⟩ 78 (0,0)),.arr w 123 2 (f++(a.take 0).map (iz s p d c e)).length (aS n (f++(a.take 0).map (iz s p d c e))).flatten]) am<|G.loop (fun fr C' k μ=>∃ (i:Nat)(h:List Value)(o:Value),(i<=a.length/\RowsOk C' h (f++(a.take i).map (iz s p d c e)))/\fr=[(0,[],.int .i64 d),(1,[],.map (some b)),(2,[],ah (qtx e)),(4,[],.pointer (some ⟨g,0,none⟩)),(5,[],.pointer (some ⟨v,0,none⟩)),(12,[],.slice A0 a.length c0),(13,[],.int .i64 a.length),(14,[],.int .i64 i)]/\k=[.obj g (.cells ⟨[o]⟩ 78 (0,0)),.arr o 123 2 (f++(a.take i).map (iz s p d c e)).length (aS h (f++(a.take i).map (iz s p d c e))).flatten]/\μ=a.length-i) (hn_ [0,1,2,4,5,12,13,14] Z) ⟨0,n,w,⟨Qf _,by simpa using Y⟩,Z,Z,Z⟩ (fun fr aq ar m _ hI=>?_);obtain ⟨i,h,o,⟨hi,t⟩,rfl,rfl,rfl⟩:=hI;refine TT 1 [0,1,2,4,5,12,13,14,15] Z<|TW (fun z=>?_) fun z=>?_
 ·have A:i<a.length:=by simpa using z
  obtain ⟨sg,B⟩:∃ sg,a[i]?=some sg:=⟨a[i],aj A⟩;have ab:=X sg (Qc B);have au:(f++(a.take i).map (iz s p d c e)).length<=10002:=by
   rw [Qi,al,Qq];omega
  have J:f++(a.take (i+1)).map (iz s p d c e)=f++(a.take i).map (iz s p d c e)++[iz s p d c e sg]:=by
   rw [QF,B];simp
  refine TY fun R l=>Ul y.m_ U10 om_ (bX B) fl_ fun av ac=>TV ac U8<|C4 1 [0,1,2,4,5,11,12,13,14] l Z<|Ur [0,1,2,3,4,5,6,7,8,9] [] Z kr_ fun R hB l=>Uc af U9<|TV (bkT Q 2) U8<|Ua 4 Z<|Uz (Ov _ N.m_ s p d b c sg e 23 dc_ dc_ om_ O (Mem.get S mup) T U V (ab.le dc_) W) U7 fl_ (fun aw _ _ ad=>?_);obtain ⟨fv,rfl,D⟩:=ad;obtain ⟨E,F,rfl,_⟩:=id D;simp only [al] at D ⊢;refine Uq [[.slice E (I2 s p d c sg).length F,ah (qtx (sg*e))]] U12 fun ay _ _ ae=>Uy (j:=1) U11 ae.m_ Z ax (by simp only [aI];omega) fl_ fun K L M=>Uf (j:=1) U12<|TZ [0,1,2,4,5,12,13,14] l Z<|TY fun R l=>Ue _ U7<|C4 1 [0,1,2,4,5,12,13,14] l Z ?_;have ag:=RowsOk.snoc (r:=iz s p d c e sg) t.m_ D;refine Um (L':=[.obj g (.cells ⟨[.slice K L M]⟩ 78 (0,0)),.arr (.slice K L M) 123 2 (f++(a.take (i+1)).map (iz s p d c e)).length (aS (h++[.slice E (I2 s p d c sg).length F]) (f++(a.take (i+1)).map (iz s p d c e))).flatten]) (by rw [J,fj t.1];simp [iz,aD];omega)<|Ug (m':=a.length-(i+1)) om_ mup (hn_ [0,1,2,4,5,12,13,14] Z) ⟨i+1,h++[.slice E (I2 s p d c sg).length F],_,⟨by omega,by rw [J];exact ag.mono mup⟩,Z,Z,Z⟩
 have A:i=a.length:=by
  have:¬ i<a.length:=by simpa using z
  omega
 rw [A,Qo] at t ⊢;exact Vh Z<|⟨h,o,Z,Z,t.mono mup⟩
noncomputable def qi (o:Obs):Rat:=-dw o.nx / dw o.nz
noncomputable def iX (o:Obs):Rat:=-dw o.ny / dw o.nz
def upN (B:Bk)(o:Obs):Nat:=(kb (isU o.upper) B.col 0).toNat
noncomputable def rowsO (B:Bk)(o:Obs)(p:Pt)(t:Tri)(z:Rat):List RowQ :=
 if o.kind=1 then (if 0<upN B o then [iz (bs B) (bp B) (upN B o-1) (atT t (wgt B.pts t p)) (kw o z) 1] else [])++(if upN B o<bs B then [iz (bs B) (bp B) (upN B o) (atT t (wgt B.pts t p)) (kw o z) (-1)] else [])
 else if o.kind=2 then (cH B.col o).flatMap fun k=>[1, -1].map (iz (bs B) (bp B) k (atT t (wgt B.pts t p)) (kw o z))
 else (cH B.col o).flatMap fun k=>[1, -1].map (iz (bs B) (bp B) k (atT t fun j=>(slf B.pts t j).1) (qi o))++[1, -1].map (iz (bs B) (bp B) k (atT t fun j=>(slf B.pts t j).2) (iX o))
structure Fine (B:Bk)(fs:List Rat)(o:Obs)(p:Pt)(ti:Nat)(t:Tri)(z:Rat):Prop where
 place:ObsAt o p
 loc:∃ r,lM B.pts B.tris p=ti::r
 tri:B.tris[ti]?=some t
 val:Ez B.pts B.tris fs p=.tuple #[ah (qtx z),.int .i64 0]
 qz:QB 22 z
 qh:QB 22 (kw o z)
 w:∀ j,QB 22 (wgt B.pts t p j)
 up:0<=kb (isU o.upper) B.col 0
 sl:∀ j,QP 22 (slf B.pts t j)
 nr:o.kind≠1->o.kind≠2->(aZ o.nx=true/\aZ o.ny=true/\aZ o.nz=true)/\QB 11 (dw o.nx)/\QB 11 (dw o.ny)/\QB 11 (dw o.nz)/\dw o.nz≠0
 rows:∀ r∈rowsO B o p t z,NY r
theorem Ol (h:Sl C 1 v [[ah [49]]]):Sl C 1 v (([1]:List Rat).map fe):=by rw [<- dx] at h;exact h
theorem Om (h:Sl C 1 v [[ah [45,49]]]):Sl C 1 v (([-1]:List Rat).map fe):=by rw [<- cV] at h;exact h
theorem E6 (h:Sl C 1 v [[ah [49]],[ah [45,49]]]):Sl C 1 v (([1, -1]:List Rat).map fe):=by rw [<- cV,<- dx] at h;exact h
theorem Oe:∀ q∈([1]:List Rat),QB 1 q:=by simp;exact QB_one
theorem Of:∀ q∈([-1]:List Rat),QB 1 q:=by simp;exact mT
theorem rD:∀ q∈([1, -1]:List Rat),QB 1 q:=by
 intro q a;simp only [Qp,Rb,SA] at a;rcases a with rfl | rfl
 ·exact QB_one
 exact mT
theorem gg {f:Nat->Rat}{P:Nat × Rat->Prop}(b:P (t.1,f 0))(c:P (t.2.1,f 1))(d:P (t.2.2,f 2)):∀ x∈atT t f,P x:=by
 intro x a;simp only [atT,Qp,Rb,SA] at a;rcases a with rfl | rfl | rfl <;> assumption
theorem Iy {a b:Int}{n k:Nat}(h:k∈vK a b n):k<n:=by
 unfold vK at h;rw [Sf,Qw] at h;exact h.1
theorem ji {a b:Type}(f:a->List b){l:List a}{j:Nat}{x:a}(h:l[j]?=some x):(l.take (j+1)).flatMap f=(l.take j).flatMap f++f x:=by
 rw [QF,h,List.flatMap_append];simp
theorem fH {a b:Type}{f:a->List b}{c:Nat}(h:∀ x,(f x).length=c):∀ l:List a,(l.flatMap f).length=c*l.length
 | []=>by simp
 | x::l=>by rw [List.flatMap_cons,Qi,h,fH h l,Qs,Nat.mul_succ,SD]
theorem AJ :∀ r∈rowsO B o p t z,r.f.length=bs B*bp B:=by
 have a:∀ k d b sg,(iz (bs B) (bp B) k d b sg).f.length=bs B*bp B:=fun k d b sg=>jB _ _;intro r hr;unfold rowsO at hr;split at hr
 ·rcases Qt.1 hr with h | h
  ·split at h
   ·rw [Qx.1 h];exact a _ _ _ _
   cases h
  split at h
  ·rw [Qx.1 h];exact a _ _ _ _
  cases h
 split at hr
 ·obtain ⟨k,_,c⟩:=List.mem_flatMap.1 hr;obtain ⟨sg,_,rfl⟩:=Qk.1 c;exact a _ _ _ _
 obtain ⟨k,_,c⟩:=List.mem_flatMap.1 hr;rcases Qt.1 c with h | h
 ·obtain ⟨sg,_,rfl⟩:=Qk.1 h;exact a _ _ _ _
 obtain ⟨sg,_,rfl⟩:=Qk.1 h;exact a _ _ _ _
theorem wa (h:(cH B.col o).length<=60):(rowsO B o p t z).length<=240:=by
 unfold rowsO;split
 ·rw [Qi];have h1:∀ (c:Prop)[Decidable c] (r:RowQ),(if c then [r] else []).length<=1:=fun c _ r=>by split <;> simp
  have:=h1 (0<upN B o) (iz (bs B) (bp B) (upN B o-1) (atT t (wgt B.pts t p)) (kw o z) 1);have:=h1 (upN B o<bs B) (iz (bs B) (bp B) (upN B o) (atT t (wgt B.pts t p)) (kw o z) (-1));omega
 split
 ·rw [fH (c:=2) (fun k=>by simp)];omega
 rw [fH (c:=4) (fun k=>by simp)];omega
theorem Mr (C:Mem)(d:Tabs C)(bv:Value)(B:Bk)(fs:List Rat)(i:Nat)(o:Obs)(p:Pt)(ti:Nat)(t:Tri)(z:Rat)(L:BookIn C bv B)(Q:Good B.pts B.tris)(am:BookR B)(aL:iu B=0)(hF:Terr B fs)(U:B.obs[i]?=some o)(b:Fine B fs o p ti t z)(S:bs B*bp B<=60)(a4:sJ B.col=0)(bS:bs B+1=B.col.length)(bT:B.col.length<=60) :
  Pur cx.P 128 [gr (bs B) (bp B),bv,.int .i64 i] C fun u D=>∃ v,u=.tuple #[v,.int .i64 0]/\RowsIn D v (rowsO B o p t z):=by
 have an:=L;have hM:=Q.ok;obtain ⟨r,a5⟩:=b.loc;have aM:=Qc b.tri;have l:=hM.ins t aM;have ao:=tC hM aM;have bU:=(aF.1 U).1;have V:=b.place;obtain ⟨u,W⟩:∃ u:Nat,kb (isU o.upper) B.col 0=(u:Nat):=⟨_,(Int.toNat_of_nonneg b.up).symm⟩;have a6:upN B o=u:=by unfold upN;rw [W];rfl
 have bV:u<B.col.length:=by
  rcases mW (isU o.upper) B.col with ⟨h,_⟩ | ⟨k,x,h,h2,_⟩
  ·rw [W] at h;omega
  have:=(aF.1 h2).1;rw [W] at h;omega
 have ap:=qH (wgt B.pts t p) ao;have aq:∀ x∈atT t (wgt B.pts t p),x.1<bp B:=gg (P:=fun x=>x.1<bp B) l.1 l.2.1 l.2.2;have ar:∀ x∈atT t (wgt B.pts t p),QB 23 x.2:=gg (P:=fun x=>QB 23 x.2) ((b.w 0).le dc_) ((b.w 1).le dc_) ((b.w 2).le dc_);have au:QB 23 (kw o z):=b.qh.le dc_;have a7:(cH B.col o).length<=bs B:=by
  unfold cH vK;refine Qy (Rw _ _) ?_;rw [Q5];unfold bs;omega
 have aN:∀ k∈cH B.col o,k<bs B:=fun k hk=>Iy hk;obtain ⟨v1,v2,tv,cv,ov,rfl,h1,h2,h3,h4,h5⟩:=id L.ex;have aO:MeshIn C (.agg ⟨[v1,v2]⟩) B.pts B.tris:=⟨v1,v2,rfl,h1,h2⟩;obtain ⟨A5,c5,rfl,a8,bW,_⟩:=id h5;have bY:maxLen<=9223372036854775807:=by simp [maxLen]
 simp only [al] at h5 a8 an ⊢;refine Ud func128 172 U3 fun w0=>?_;refine TY fun R a=>?_;refine Up U6 (fun n=>?_);refine Up U6 (fun b4=>?_);refine C4 2 [2,3,4] a Z ?_;clear a R;refine G.freeze 1 Z (fun _ _ M=>?_);refine G.freeze 0 Z (fun _ _ N=>?_);refine TU 1 Z fun R a=>?_;refine TV (bkT N 1) U8 ?_;refine TX U6 ?_;refine Ul h5.m_ U10 om_ (bX U) fl_ (fun bZ a9=>?_);refine TV a9 U8 ?_;refine Uo U5 (fun b8=>?_);refine Uf (j:=0) U12 ?_;refine TZ [2,3,4,8] a Z ?_;clear a R;refine G.freeze 0 Z (fun C8 _ E=>?_);refine TU 1 Z fun R a=>?_;refine TV (bkT N 2) U8 ?_;refine TX U6 ?_;refine TV (bkT E 2) U8 ?_;refine Uz (by have h:=DV C8 d.m_ _ B.pts B.tris p ti r t aO.m_ Q V.q V.r a5 b.tri b.w;rw [<- wA V] at h;exact h) U7 fl_ (fun b0 _ _ ba=>?_);obtain ⟨T,rfl,av⟩:=ba;refine C4 7 [2,3,4,8,9,10,11] a Z ?_;clear a R;refine TT 2 [2,3,4,8,9,10,11,45] Z ?_;refine TW (fun aP=>?_) fun aP=>?_
 ·exact absurd aP dc_
 refine TY fun R a=>?_;refine TV (bkT N 5) U8 ?_;refine TX U6 ?_;refine Uh (Dx _ d.m_ _ B fs i o p z an.m_ Q am aL hF U V b.val b.qz b.qh) U7 ?_;refine C4 5 [2,3,4,8,9,10,11,12] a Z ?_;clear a R;refine TT 2 [2,3,4,8,9,10,11,12,54] Z ?_;refine TW (fun aQ=>?_) fun aQ=>?_
 ·exact absurd aQ dc_
 refine TY fun R a=>?_;refine TV (bkT N 5) U8 ?_;refine TX U6 ?_;refine UF (vJ _ d.m_ _ B i o an.m_ Q am aL U) U7 (fun b1 _ _ bb=>?_);obtain ⟨lv,rfl,aw⟩:=bb;obtain ⟨Al,cl,aR,_⟩:=id aw;rw [al] at aR;subst aR;refine C4 5 [3,4,8,9,10,11,12,13] a Z ?_;clear a R;refine TT 2 [3,4,8,9,10,11,12,13,63] Z ?_;refine TW (fun aT=>?_) fun aT=>?_
 ·exact absurd aT dc_
 refine TY fun R a=>?_;refine Uo U5 (fun c=>?_);refine TZ [3,4,8,9,10,12,13,14] a Z ?_;clear a R;refine G.nilArr 123 2 (G.perm (L':=[.obj c (.cells ⟨[.slice none 0 0]⟩ 78 (0,0)),.arr (.slice none 0 0) 123 2 0 []]) (List.Perm.swap _ _ _) ?_);refine TT 2 [3,4,8,9,10,12,13,14,15] Z ?_;refine TU 1 Z fun R a=>?_;refine TV (bkT E 1) U8 ?_;refine TZ [3,4,8,9,10,12,13,14,15,67] a Z ?_;clear a R;refine TT 2 [3,4,8,9,10,12,13,14,15,67,120] Z ?_;refine G.cut (fun fr C' y F=>∃ (vs:List Value)(w:Value),(RowsOk C' vs (rowsO B o p t z))/\fr=[(14,[],.pointer (some ⟨c,0,none⟩))]/\y=[.obj c (.cells ⟨[w]⟩ 78 (0,0)),.arr w 123 2 (rowsO B o p t z).length (aS vs (rowsO B o p t z)).flatten]) ?_ (fun fr _ b2 F _ H=>?_)
 ·refine TW (fun X=>?_) fun X=>?_
  ·have hk:o.kind=1:=dS X;obtain ⟨s,O⟩:∃ s,(if 0<u then [iz (bs B) (bp B) (u-1) (atT t (wgt B.pts t p)) (kw o z) 1] else [])=s:=⟨_,rfl⟩;have A:rowsO B o p t z=s++(if u<bs B then [iz (bs B) (bp B) u (atT t (wgt B.pts t p)) (kw o z) (-1)] else []):=by unfold rowsO;rw [aU hk,a6,O]
   refine TU 1 Z fun R a=>?_;refine TV (bkT N 1) U8 ?_;refine TX U6 ?_;refine TV (bkT E 1) U8 ?_;refine Uh (ze _ d.m_ _ B.col o.upper h4.m_ am.col a4 u W) U7 ?_;refine C4 7 [3,9,12,14,15,16,18] a Z ?_;clear a R;refine TT 2 [3,9,12,14,15,16,18,132] Z ?_;refine TW (fun aV=>?_) fun aV=>?_
   ·exact absurd aV dc_
   refine TT 2 [3,9,12,14,15,16,135] Z ?_;refine G.cut (fun fr C' y F=>∃ (vs:List Value)(w:Value),(RowsOk C' vs s)/\fr=[(3,[],.pointer (some ⟨n,0,none⟩)),(9,[],.map (some T)),(12,[],ah (qtx (kw o z))),(14,[],.pointer (some ⟨c,0,none⟩)),(15,[],.func (.func 195) #[] #[.pointer (some ⟨c,0,none⟩),.pointer (some ⟨n,0,none⟩)]),(16,[],.int .i64 u)]/\y=[.obj c (.cells ⟨[w]⟩ 78 (0,0)),.arr w 123 2 s.length (aS vs s).flatten]) ?_ (fun fr _ b5 F _ H=>?_)
   ·refine TW (fun ax=>?_) fun ax=>?_
    ·have ay:0<u:=by
      have:=aJ ax;omega
     rw [aU ay] at O;subst O;refine Uv [(6,3)] Z (fun R a=>?_);refine Ua 2 Z ?_;refine UG (((u-1:Nat):Int)) U4 om_ om_ om_ U2 ?_;refine Ua 2 Z ?_;refine Uq [[ah [49]]] U12 (fun b6 _ _ bc=>?_);refine D.call (jn _ d.m_ (bs B) (bp B) (u-1) T c n (atT t (wgt B.pts t p)) (kw o z) [1] _ (.slice none 0 0) [] [] S om_ (Mem.get M mup) (Mem.get av mup) ap aq ar au ((Ol bc).mono mup) Oe dc_ (RowsOk.nil _) dc_) Z (.inr dc_) U6 (Qh _) fl_ (fun b7 _ b9 _ bd=>?_);refine TZ [3,9,12,14,15,16] a Z ?_;clear a R;obtain ⟨bf,w1,rfl,rfl,bg⟩:=bd;refine Uj 0 mup (hn_ [3,9,12,14,15,16] Z) ⟨bf,w1,bg,Z,Z⟩
    have ay:¬ 0<u:=by
     have:=Qe ax;omega
    rw [az ay] at O;subst O;refine Uj 0 (Mem.le.refl _) (hn_ [3,9,12,14,15,16] Z) ⟨[],.slice none 0 0,RowsOk.nil _,Z,Z⟩
   obtain ⟨vs ,w,aA,rfl,rfl⟩:=H;refine TU 2 Z fun R a=>?_;refine TV (bkT M 1) U8 ?_;refine C4 1 [9,12,14,15,16,146] a Z ?_;clear a R;refine TW (fun aB=>?_) fun aB=>?_
   ·have Y:u<bs B:=by
     have:=aJ aB;omega
    rw [aU Y] at A;have ca:s.length<=1:=by rw [<- O];split <;> simp
    refine Uv [(5,3)] Z (fun R a=>?_);refine Ua 4 Z ?_;refine Uq [[ah [45,49]]] U12 (fun cb _ _ bh=>?_);refine D.call (jn _ d.m_ (bs B) (bp B) u T c n (atT t (wgt B.pts t p)) (kw o z) [-1] _ w vs s S Y (Mem.get M mup) (Mem.get av mup) ap aq ar au ((Om bh).mono mup) Of dc_ aA.m_ om_) Z (.inr dc_) U6 (Qh _) fl_ (fun cc _ cd _ bi=>?_);refine TZ [14] a Z ?_;clear a R;obtain ⟨bj,w2,rfl,rfl,aW⟩:=bi;rw [show s++([-1]:List Rat).map (iz (bs B) (bp B) u (atT t (wgt B.pts t p)) (kw o z))=rowsO B o p t z from A.symm] at aW ⊢;refine Uj 0 mup (hn_ [14] Z) ⟨bj,w2,aW,Z,Z⟩
   have Y:¬ u<bs B:=by
    have:=Qe aB;omega
   rw [az Y,QA] at A;rw [<- A] at aA ⊢;refine Uj 0 mup (hn_ [14] Z) ⟨vs,w,aA.mono mup,Z,Z⟩
  have aC:¬ o.kind=1:=by
   intro e;rw [show ((o.kind == 1)=true) by rw [e];rfl] at X;cases X
  refine TT 2 [4,8,9,10,12,13,14,15,153] Z ?_;refine TW (fun aa=>?_) fun aa=>?_
  ·have ab:o.kind=2:=dS aa;obtain ⟨f,aD⟩:∃ f,(fun k=>([1, -1]:List Rat).map (iz (bs B) (bp B) k (atT t (wgt B.pts t p)) (kw o z)))=f:=⟨_,rfl⟩;have A:rowsO B o p t z=(cH B.col o).flatMap f:=by unfold rowsO;rw [az aC,aU ab,<- aD]
   have bk:∀ k,(f k).length=2:=fun k=>by rw [<- aD];rfl
   refine TT 3 [9,12,14,15,155,156,157] Z ?_;refine G.loop (fun fr C' y F=>∃ (j:Nat)(vs:List Value)(w:Value),(j<=(cH B.col o).length/\RowsOk C' vs (((cH B.col o).take j).flatMap f))/\fr=[(9,[],.map (some T)),(12,[],ah (qtx (kw o z))),(14,[],.pointer (some ⟨c,0,none⟩)),(15,[],.func (.func 195) #[] #[.pointer (some ⟨c,0,none⟩),.pointer (some ⟨n,0,none⟩)]),(155,[],.slice Al (cH B.col o).length cl),(156,[],.int .i64 (cH B.col o).length),(157,[],.int .i64 j)]/\y=[.obj c (.cells ⟨[w]⟩ 78 (0,0)),.arr w 123 2 (((cH B.col o).take j).flatMap f).length (aS vs (((cH B.col o).take j).flatMap f)).flatten]/\F=(cH B.col o).length-j) (hn_ [9,12,14,15,155,156,157] Z) ⟨0,[],.slice none 0 0,⟨Qf _,RowsOk.nil _⟩,Z,Z,Z⟩ (fun fr ce cf m _ H=>?_);obtain ⟨j,vs,w,⟨hj,I⟩,rfl,rfl,rfl⟩:=H;refine TT 1 [9,12,14,15,155,156,157,158] Z ?_;refine TW (fun aE=>?_) fun aE=>?_
   ·have J:j<(cH B.col o).length:=by
     have:=aJ aE;omega
    obtain ⟨k,K⟩:∃ k,(cH B.col o)[j]?=some k:=⟨(cH B.col o)[j],aj J⟩;have ac:=aN k (Qc K);have ad:=fH bk ((cH B.col o).take j);rw [Qq] at ad;have aG:=ji f K;refine TY fun R a=>?_;refine Ul aw.m_ U10 om_ (bX K) fl_ (fun cg bl=>?_);refine TV bl U8 ?_;refine C4 1 [9,12,14,15,20,155,156,157] a Z ?_;clear a R;refine Uv [(5,3)] Z (fun R a=>?_);refine Ua 4 Z ?_;refine Uq [[ah [49]],[ah [45,49]]] U12 (fun ch _ _ bm=>?_);refine D.call (jn _ d.m_ (bs B) (bp B) k T c n (atT t (wgt B.pts t p)) (kw o z) [1, -1] _ w vs _ S ac (Mem.get M mup) (Mem.get av mup) ap aq ar au ((E6 bm).mono mup) rD dc_ I.m_ om_) Z (.inr dc_) U6 (Qh _) fl_ (fun ci _ cj _ bo=>?_);refine TZ [9,12,14,15,155,156,157] a Z ?_;clear a R;refine TY fun R a=>?_;refine Ue _ U7 ?_;refine C4 1 [9,12,14,15,155,156,157] a Z ?_;clear a R;obtain ⟨aH,w3,rfl,rfl,ae⟩:=bo;rw [show ((cH B.col o).take j).flatMap f++([1, -1]:List Rat).map (iz (bs B) (bp B) k (atT t (wgt B.pts t p)) (kw o z))=((cH B.col o).take (j+1)).flatMap f by rw [aG,<- aD]] at ae ⊢;refine Ug (m':=(cH B.col o).length-(j+1)) om_ mup (hn_ [9,12,14,15,155,156,157] Z) ⟨j+1,aH,w3,⟨by omega,ae⟩,Z,Z,Z⟩
   have J:j=(cH B.col o).length:=by
    have:=Qe aE;omega
   rw [J,Qo,<- A] at I ⊢;refine Uj 0 mup (hn_ [14] Z) ⟨vs,w,I.mono mup,Z,Z⟩
  have ab:¬ o.kind=2:=by
   intro e;rw [show ((o.kind == 2)=true) by rw [e];rfl] at aa;cases aa
  obtain ⟨⟨bq,br,bt⟩,aX,aY,ag,ai⟩:=b.nr aC ab;obtain ⟨e1,q1⟩:=dI bq;obtain ⟨e2,q2⟩:=dI br;obtain ⟨e3,q3⟩:=dI bt;have aZ:(qtx (dw o.nx)).length<=1000000:=Qy (bJ q1 dc_) dc_;have bu:(qtx (dw o.ny)).length<=1000000:=Qy (bJ q2 dc_) dc_;have bx:QB 23 (qi o):=(jp (eW aX) ag ai).le dc_;have bz:QB 23 (iX o):=(jp (eW aY) ag ai).le dc_;obtain ⟨g,aI⟩:∃ g,(fun k=>([1, -1]:List Rat).map (iz (bs B) (bp B) k (atT t fun j=>(slf B.pts t j).1) (qi o))++([1, -1]:List Rat).map (iz (bs B) (bp B) k (atT t fun j=>(slf B.pts t j).2) (iX o)))=g:=⟨_,rfl⟩;have A:rowsO B o p t z=(cH B.col o).flatMap g:=by unfold rowsO;rw [az aC,az ab,<- aI]
  have bA:∀ k,(g k).length=4:=fun k=>by rw [<- aI];rfl
  have bB:=qH (fun j=>(slf B.pts t j).1) ao;have bC:=qH (fun j=>(slf B.pts t j).2) ao;have bD:∀ x∈atT t (fun j=>(slf B.pts t j).1),x.1<bp B:=gg (P:=fun x=>x.1<bp B) l.1 l.2.1 l.2.2;have bE:∀ x∈atT t (fun j=>(slf B.pts t j).2),x.1<bp B:=gg (P:=fun x=>x.1<bp B) l.1 l.2.1 l.2.2;have bF:∀ x∈atT t (fun j=>(slf B.pts t j).1),QB 23 x.2:=gg (P:=fun x=>QB 23 x.2) ((b.sl 0).1.le dc_) ((b.sl 1).1.le dc_) ((b.sl 2).1.le dc_);have bG:∀ x∈atT t (fun j=>(slf B.pts t j).2),QB 23 x.2:=gg (P:=fun x=>QB 23 x.2) ((b.sl 0).2.le dc_) ((b.sl 1).2.le dc_) ((b.sl 2).2.le dc_);refine TU 1 Z fun R a=>?_;refine TV (bkT N 2) U8 ?_;refine TX U6 ?_;refine UF (DO _ d.m_ _ B.pts B.tris ti t aO.m_ Q b.tri b.sl) U7 (fun ck ak _ bH=>?_);obtain ⟨be,bn,rfl,bI,bK⟩:=bH;refine C4 7 [8,13,14,15,21,22,23] a Z ?_;clear a R;refine TT 2 [8,13,14,15,21,22,23,77] Z ?_;refine TW (fun a0=>?_) fun a0=>?_
  ·exact absurd a0 dc_
  refine Ur [0,1,2,3,4,5,6,7,8,9,10,11,12] [(3,1),(7,1)] Z kr_ (fun R L a=>?_);refine Ua 2 Z ?_;refine TV (bkT E 1) U8 ?_;refine Us (fun _=>(by have h:=eL ak (dw o.nx) aZ;rw [<- e1] at h;exact h)) U9 ?_;refine Ua 2 Z ?_;refine TV (bkT E 1) U8 ?_;refine Us (fun _=>(by have h:=gQ ak d.m_ (-dw o.nx) (dw o.nz) 11 dc_ dc_ (eW aX) ag ai;rw [<- e3] at h;exact h)) U9 ?_;refine Ua 5 Z ?_;refine TZ [8,13,14,15,21,22,24] a Z ?_;clear a L R;refine Ur [0,1,2,3,4,5,6,7,8,9,10,11,12] [(3,1),(7,1)] Z kr_ (fun R L a=>?_);refine Ua 2 Z ?_;refine TV (bkT E 1) U8 ?_;refine Us (fun _=>(by have h:=eL ak (dw o.ny) bu;rw [<- e2] at h;exact h)) U9 ?_;refine Ua 2 Z ?_;refine TV (bkT E 1) U8 ?_;refine Us (fun _=>(by have h:=gQ ak d.m_ (-dw o.ny) (dw o.nz) 11 dc_ dc_ (eW aY) ag ai;rw [<- e3] at h;exact h)) U9 ?_;refine Ua 5 Z ?_;refine TZ [13,14,15,21,22,24,26] a Z ?_;clear a L R;refine TT 3 [14,15,21,22,24,26,101,102,103] Z ?_;refine G.loop (fun fr C' y F=>∃ (j:Nat)(vs:List Value)(w:Value),(j<=(cH B.col o).length/\RowsOk C' vs (((cH B.col o).take j).flatMap g))/\fr=[(14,[],.pointer (some ⟨c,0,none⟩)),(15,[],.func (.func 195) #[] #[.pointer (some ⟨c,0,none⟩),.pointer (some ⟨n,0,none⟩)]),(21,[],.map (some be)),(22,[],.map (some bn)),(24,[],ah (qtx (qi o))),(26,[],ah (qtx (iX o))),(101,[],.slice Al (cH B.col o).length cl),(102,[],.int .i64 (cH B.col o).length),(103,[],.int .i64 j)]/\y=[.obj c (.cells ⟨[w]⟩ 78 (0,0)),.arr w 123 2 (((cH B.col o).take j).flatMap g).length (aS vs (((cH B.col o).take j).flatMap g)).flatten]/\F=(cH B.col o).length-j) (hn_ [14,15,21,22,24,26,101,102,103] Z) ⟨0,[],.slice none 0 0,⟨Qf _,RowsOk.nil _⟩,Z,Z,Z⟩ (fun fr cm cn m aZ H=>?_);obtain ⟨j,vs,w,⟨hj,I⟩,rfl,rfl,rfl⟩:=H;refine TT 1 [14,15,21,22,24,26,101,102,103,104] Z ?_;refine TW (fun aK=>?_) fun aK=>?_
  ·have J:j<(cH B.col o).length:=by
    have:=aJ aK;omega
   obtain ⟨k,K⟩:∃ k,(cH B.col o)[j]?=some k:=⟨(cH B.col o)[j],aj J⟩;have ac:=aN k (Qc K);have ad:=fH bA ((cH B.col o).take j);rw [Qq] at ad;have aG:=ji g K;refine TY fun R a=>?_;refine Ul aw.m_ U10 om_ (bX K) fl_ (fun co bL=>?_);refine TV bL U8 ?_;refine C4 1 [14,15,21,22,24,26,29,101,102,103] a Z ?_;clear a R;refine Uv [(5,3)] Z (fun R a=>?_);refine Ua 4 Z ?_;refine Uq [[ah [49]],[ah [45,49]]] U12 (fun cp _ _ bM=>?_);refine D.call (jn _ d.m_ (bs B) (bp B) k be c n (atT t fun j=>(slf B.pts t j).1) (qi o) [1, -1] _ w vs _ S ac (Mem.get M mup) (Mem.get bI mup) bB bD bF bx ((E6 bM).mono mup) rD dc_ I.m_ om_) Z (.inr dc_) U6 (Qh _) fl_ (fun cq _ cr _ bN=>?_);refine TZ [14,15,21,22,24,26,29,101,102,103] a Z ?_;clear a R;obtain ⟨aH,w3,rfl,rfl,ae⟩:=bN;refine Uv [(5,3)] Z (fun R a=>?_);refine Ua 4 Z ?_;refine Uq [[ah [49]],[ah [45,49]]] U12 (fun cs _ _ bO=>?_);refine D.call (jn _ d.m_ (bs B) (bp B) k bn c n (atT t fun j=>(slf B.pts t j).2) (iX o) [1, -1] _ w3 aH _ S ac (Mem.get M mup) (Mem.get bK mup) bC bE bG bz ((E6 bO).mono mup) rD dc_ ae.m_ (by rw [Qi,ad];simp;omega)) Z (.inr dc_) U6 (Qh _) fl_ (fun ct _ cu _ bP=>?_);refine TZ [14,15,21,22,24,26,101,102,103] a Z ?_;clear a R;refine TY fun R a=>?_;refine Ue _ U7 ?_;refine C4 1 [14,15,21,22,24,26,101,102,103] a Z ?_;clear a R;obtain ⟨bQ,w4,rfl,rfl,a1⟩:=bP;rw [show ((cH B.col o).take j).flatMap g++([1, -1]:List Rat).map (iz (bs B) (bp B) k (atT t fun j=>(slf B.pts t j).1) (qi o))++([1, -1]:List Rat).map (iz (bs B) (bp B) k (atT t fun j=>(slf B.pts t j).2) (iX o))=((cH B.col o).take (j+1)).flatMap g by rw [aG,<- aI,QJ]] at a1 ⊢;refine Ug (m':=(cH B.col o).length-(j+1)) om_ mup (hn_ [14,15,21,22,24,26,101,102,103] Z) ⟨j+1,bQ,w4,⟨by omega,a1⟩,Z,Z,Z⟩
  have J:j=(cH B.col o).length:=by
   have:=Qe aK;omega
  rw [J,Qo,<- A] at I ⊢;refine Uj 0 mup (hn_ [14] Z) ⟨vs,w,I.mono mup,Z,Z⟩
 obtain ⟨vs ,w,a2,rfl,rfl⟩:=H;refine G.freezeArr 1 (aS vs (rowsO B o p t z)) Z Z (iR _ _) (dv a2.1) (fun Cr cw bR=>?_);have a3:RowsIn Cr w (rowsO B o p t z):=⟨vs,a2.mono mup,bR⟩;refine TY fun R a=>?_;refine Uc af U9 ?_;refine Uk (DX _ d.m_ w (rowsO B o p t z) a3.m_ b.rows (fun r hr=>by rw [AJ r hr];omega) (Qy (wa (by unfold bs at a7;omega)) dc_)) U7 fl_ ?_;refine C4 4 [6,7] a Z ?_;clear a R;refine Ui (G.dropAll (Uw U3 ?_));exact ⟨Z,w,Z,a3.mono mup⟩
structure Rich (B:Bk)(fs:List Rat)(RO:Nat->List RowQ):Prop where
 good:Good B.pts B.tris
 br:BookR B
 bz:iu B=0
 terr:Terr B fs
 h60:bs B*bp B<=60
 fine:∀ i o,B.obs[i]?=some o->∃ p ti t z,Fine B fs o p ti t z/\RO i=rowsO B o p t z
theorem mi (h:iu B=0):sJ B.col=0:=by
 unfold iu at h;split at h
 ·rename_i h1;exact absurd h h1
 split at h
 ·rename_i h1;exact absurd h h1
 rename_i h1;exact QK h1
theorem uP {l:List Lay}(h:sJ l=0):l≠[]/\l.length<=60:=by
 unfold sJ at h;split at h
 ·exact absurd h dc_
 rename_i h0;split at h
 ·exact absurd h dc_
 exact ⟨h0,by omega⟩
theorem Rich.bookz {a:Value}(h:Rich B fs RO)(d:Tabs C)(b:BookIn C a B):BookZ C a B 0 :=
 ⟨b,fun D c=>by have h2:=kR D (d.mono c) a B (b.mono c) h.good h.br;rwa [h.bz] at h2,fun _=>(uP (mi h.bz)).1,Qy (uP (mi h.bz)).2 dc_,h.good.ok.lp⟩
theorem Rich.scol (h:Rich B fs RO):bs B+1=B.col.length/\B.col.length<=60:=by
 obtain ⟨h1,h2⟩:=uP (mi h.bz);have:=QY.2 h1;unfold bs;omega
theorem PH (C:Mem)(f:Tabs C)(b:Value)(B:Bk)(c:List Rat)(d:Nat->List RowQ)(i:Nat)(g:BookIn C b B)(a:Rich B c d)(j:i<B.obs.length) :
  Pur cx.P 128 [gr (bs B) (bp B),b,.int .i64 i] C fun u D=>∃ v,u=.tuple #[v,.int .i64 0]/\RowsIn D v (d i):=by
 have e:B.obs[i]?=some B.obs[i]:=aj j;obtain ⟨p,k,t,z,l,m⟩:=a.fine i _ e;have h:=Mr C f b B c i _ p k t z g a.good a.br a.bz a.terr e l a.h60 (mi a.bz) a.scol.1 a.scol.2
 rwa [<- m] at h
theorem oX (a:Rich B fs RO)(b:i<B.obs.length):(RO i).length<=240/\∀ r∈RO i,r.f.length=bs B*bp B:=by
 have c:B.obs[i]?=some B.obs[i]:=aj b;obtain ⟨p,g,t,z,h,d⟩:=a.fine i _ c;have e:(cH B.col B.obs[i]).length<=60:=by
  unfold cH vK;refine Qy (Rw _ _) ?_;rw [Q5];have:=a.scol.2;omega
 rw [d];exact ⟨wa e,AJ⟩
def bH (B:Bk):List RowQ:=bj (bs B) (bp B) B.col (B.col.length-2)
theorem CC (a:Rich B fs RO):(bH B).length<=120:=by
 have h:=jx (bs B) (bp B) B.col (B.col.length-2);have h1:=a.scol.1;have h2:(B.col.length-2)*bp B<=bs B*bp B:=Q9 _ om_;have h3:=a.h60;unfold bH;omega
structure SrcQ where
 n:Int
 r:RowQ
def bR (vs:List Value)(l:List SrcQ):List (List Value):=List.zipWith (fun w (s:SrcQ)=>[.int .i64 s.n,w,ah (qtx s.r.b)]) vs l
def SrcsOk (C:Mem)(vs:List Value)(l:List SrcQ):Prop:=RowsOk C vs (l.map SrcQ.r)
def xG (C:Mem)(v:Value)(l:List SrcQ):Prop:=∃ vs,SrcsOk C vs l/\Sl C 3 v (bR vs l)
theorem SrcsOk.mono {C D:Mem}{a:List Value}{l:List SrcQ}(h:SrcsOk C a l)(b:C.le D):SrcsOk D a l:=RowsOk.mono h b
theorem SrcsOk.m_ {D:Mem}{l:List SrcQ}(h:SrcsOk C vs l)(a:C.le D:=by exact mup):SrcsOk D vs l:=SrcsOk.mono h a
theorem SrcsOk.snoc {C:Mem}{a:List Value}{l:List SrcQ}{v:Value}{s:SrcQ}(h:SrcsOk C a l)(b:Sl C 1 v (s.r.f.map fe)):SrcsOk C (a++[v]) (l++[s]):=by
 unfold SrcsOk at h ⊢;rw [QS];exact RowsOk.snoc h b
theorem jy {l:List SrcQ}(h:SrcsOk C vs l):vs.length=l.length:=by have:=h.1;simpa using this
theorem ly {l:List SrcQ}(h:vs.length=l.length)(v:Value)(s:SrcQ):bR (vs++[v]) (l++[s])=bR vs l++[[.int .i64 s.n,v,ah (qtx s.r.b)]]:=by
 unfold bR;rw [List.zipWith_append h];rfl
theorem np {l:List SrcQ}(h:vs.length=l.length):(bR vs l).length=l.length:=by simp [bR,h]
theorem qT (b:List Value)(l:List SrcQ):∀ r∈bR b l,r.length=3:=by
 intro r hr;unfold bR at hr;obtain ⟨i,a⟩:=RB hr;rw [List.getElem?_zipWith] at a;cases h1:b[i]? <;> cases h2:l[i]? <;> rw [h1,h2] at a <;> simp at a
 subst a;rfl
def kC (n:Int)(l:List RowQ):List SrcQ:=l.map fun r=>⟨n,r⟩
def bP (T:List RowQ)(RO:Nat->List RowQ)(l:List Nat):List SrcQ:=kC (-1) T++l.flatMap fun i=>kC (i:Nat) (RO i)
theorem lu {l:List RowQ}(h:l[i]?=some r):kC n (l.take (i+1))=kC n (l.take i)++[⟨n,r⟩]:=by
 unfold kC;rw [QF,h,QS];rfl
theorem xo {T:List RowQ}:∀ {l:List Nat},(∀ i∈l,(RO i).length<=240)->l.length<=100->T.length<=120->(bP T RO l).length<=120+240*l.length:=by
 intro l h e hT;unfold bP;rw [Qi];have b:∀ l:List Nat,(∀ i∈l,(RO i).length<=240)->(l.flatMap fun i=>kC (i:Nat) (RO i)).length<=240*l.length:=by
  intro l;induction l with
  | nil=>intro _;simp
  | cons a l c =>
   intro h;have h1:=h a Pz;have h2:=c fun i d=>h i (Qm _ d);rw [List.flatMap_cons,Qi,Qs];have:(kC (a:Nat) (RO a)).length=(RO a).length:=by simp [kC]
   omega
 have h1:=b l h;have:(kC (-1) T).length=T.length:=by simp [kC]
 omega
theorem Hx (C:Mem)(hT:Tabs C)(bv lv:Value)(B:Bk)(fs:List Rat)(c:Nat->List RowQ)(l:List Nat)(hB:BookIn C bv B)(o:Rich B fs c)(L:Sl C 1 lv (l.map aN))(ac:∀ i∈l,i<B.obs.length)(aQ:l.length<=100)(aR:(bP (bH B) c l).length<=300) :
  Pur cx.P 85 [gr (bs B) (bp B),bv,lv] C fun u D=>∃ v,u=.tuple #[v,.int .i64 0]/\xG D v (bP (bH B) c l):=by
 have av:=hB;have aw:=CC o;obtain ⟨v1,v2,tv,cv,ov,rfl,h1,h2,h3,h4,h5⟩:=id hB.ex;obtain ⟨M,N,rfl,ay,aS,_⟩:=id L;have aT:maxLen<=9223372036854775807:=by simp [maxLen]
 simp only [al] at L ay ⊢;have az:=fun m:List Nat=>fun hm:∀ i∈m,i<B.obs.length=>fun aA:m.length<=100=>xo (T:=bH B) (RO:=c) (l:=m) (fun i E=>(oX o (hm i E)).1) aA aw;refine Ud func85 66 U3 fun w0=>TY fun R d=>Up U6 fun O=>Up U6 fun Q=>C4 2 [2,3,4] d Z<|G.freeze 1 Z fun _ _ ad=>G.freeze 0 Z fun _ _ ae=>TT 1 [2,3,4,8] Z<|TY fun R d=>TV (bkT ad 2) U8<|TX U6<|TV (bkT ae 1) U8<|UF (vH _ hT.m_ _ (bs B) (bp B) B.col h4.m_ o.scol.1 o.h60 o.br.col) U7 (fun aU _ _ aB=>?_);obtain ⟨ag,S,F⟩:=aB;rw [show bj (bs B) (bp B) B.col (B.col.length-2)=bH B from rfl] at S F;have ai:=S.1;obtain ⟨At,ct,rfl,aC,aV,_⟩:=id F;simp only [dv ai] at F aC ⊢;refine C4 2 [2,3,4,8,20,21,22] d Z<|G.nilArr 125 3<|G.loop (fun fr C' e x=>∃ (i:Nat)(vs:List Value)(w:Value),(i<=(bH B).length/\SrcsOk C' vs (kC (-1) ((bH B).take i)))/\fr=[(2,[],.slice M l.length N),(3,[],.pointer (some ⟨O,0,none⟩)),(4,[],.pointer (some ⟨Q,0,none⟩)),(8,[],w),(20,[],.slice At (bH B).length ct),(21,[],.int .i64 (bH B).length),(22,[],.int .i64 i)]/\e=[.arr w 125 3 (kC (-1) ((bH B).take i)).length (bR vs (kC (-1) ((bH B).take i))).flatten]/\x=(bH B).length-i) (hn_ [2,3,4,8,20,21,22] Z) ⟨0,[],_,⟨Qf _,RowsOk.nil _⟩,Z,Z,Z⟩ (fun fr aW aX m _ y=>?_);obtain ⟨i,vs,w,⟨E,H⟩,rfl,rfl,rfl⟩:=y;refine TT 1 [2,3,4,8,20,21,22,23] Z<|TW (fun U=>?_) fun U=>?_
 ·have I:i<(bH B).length:=by
   have:=aJ U;omega
  obtain ⟨r,g⟩:∃ r,(bH B)[i]?=some r:=⟨(bH B)[i],aj I⟩;obtain ⟨p,q⟩:∃ p,ag[i]?=some p:=⟨ag[i]'(by rw [ai];exact I),aj _⟩;have t:=S.2 i p r q g;obtain ⟨h,n,rfl,_⟩:=id t;simp only [al] at t q;have aD:(kC (-1) ((bH B).take i)).length=i:=by simp [kC];omega
  refine TY fun R d=>Ul F.m_ U10 om_ (kF q g) fl_ fun aY aE=>TV aE U8<|Uo U5 fun aZ=>Uf (j:=0) U12<|TZ [2,3,4,8,10,20,21,22] d Z<|TU 1 Z fun R d=>Uc af U9<|Un [.int .i64 (-1),.slice h r.f.length n,ah (qtx r.b)] U8<|Uq [[.int .i64 (-1),.slice h r.f.length n,ah (qtx r.b)]] U12 fun a0 _ _ aF=>D.append (j:=1) U11 aF Z ax (by simp only [aI];omega) fl_ fun ak=>C4 1 [2,3,4,8,20,21,22] d Z<|TY fun R d=>Ue _ U7<|C4 1 [2,3,4,8,20,21,22] d Z ?_;have z:=SrcsOk.snoc (s:=⟨-1,r⟩) H.m_ t.m_;rw [<- lu g] at z;refine UO 1 Z<|Um (L':=[.arr ak 125 3 (kC (-1) ((bH B).take (i+1))).length (bR (vs++[.slice h r.f.length n]) (kC (-1) ((bH B).take (i+1)))).flatten]) (by rw [lu g,ly (jy H)];simp)<|Ug (m':=(bH B).length-(i+1)) om_ mup (hn_ [2,3,4,8,20,21,22] Z) ⟨i+1,vs++[.slice h r.f.length n],ak,⟨by omega,z.mono mup⟩,Z,Z,Z⟩
 have I:i=(bH B).length:=by
  have:=Qe U;omega
 rw [I,Qo] at H ⊢;refine TT 3 [3,4,8,32,33,34] Z<|Um (L':=[.arr w 125 3 (bP (bH B) c (l.take 0)).length (bR vs (bP (bH B) c (l.take 0))).flatten]) (by simp [bP])<|G.loop (fun fr C' e x=>∃ (j:Nat)(vs:List Value)(w:Value),(j<=l.length/\SrcsOk C' vs (bP (bH B) c (l.take j)))/\fr=[(3,[],.pointer (some ⟨O,0,none⟩)),(4,[],.pointer (some ⟨Q,0,none⟩)),(8,[],w),(32,[],.slice M l.length N),(33,[],.int .i64 l.length),(34,[],.int .i64 j)]/\e=[.arr w 125 3 (bP (bH B) c (l.take j)).length (bR vs (bP (bH B) c (l.take j))).flatten]/\x=l.length-j) (hn_ [3,4,8,32,33,34] Z) ⟨0,vs,w,⟨Qf _,by simpa [bP] using H⟩,Z,Z,Z⟩ (fun fr a1 a2 m _ y=>?_);obtain ⟨j,vs,w,⟨hj,A⟩,rfl,rfl,rfl⟩:=y;refine TT 1 [3,4,8,32,33,34,35] Z<|TW (fun V=>?_) fun V=>?_
 ·have W:j<l.length:=by
   have:=aJ V;omega
  obtain ⟨a,X⟩:∃ a,l[j]?=some a:=⟨l[j],aj W⟩;have am:=ac a (Qc X);have aG:=az (l.take j) (fun i E=>ac i (Ro E)) (by rw [Qq];omega);rw [Qq] at aG;have aH:bP (bH B) c (l.take (j+1))=bP (bH B) c (l.take j)++kC (a:Nat) (c a):=by
   unfold bP;rw [ji _ X,QJ]
  have a3:=(oX o am).1;refine TY fun R d=>Ul L.m_ U10 om_ (bX X) fl_ fun a4 aK=>TV aK U8<|C4 1 [3,4,8,12,32,33,34] d Z<|TY fun R d=>TV (bkT ad 2) U8<|TV (bkT ae 5) U8<|TX U6<|UF (PH _ hT.m_ _ B fs c a av.m_ o am) U7 (fun a5 _ _ aL=>?_);obtain ⟨rv,rfl,an,ao,Y⟩:=aL;have ap:=ao.1;obtain ⟨Ar,cr,rfl,aM,a6,_⟩:=id Y;simp only [dv ap] at Y aM ⊢;refine C4 5 [3,4,8,12,13,14,32,33,34] d Z<|TT 2 [3,4,8,12,13,14,32,33,34,46] Z<|TW (fun aq=>?_) fun aq=>?_
  ·exact absurd aq dc_
  refine TT 3 [3,4,8,12,32,33,34,48,49,50] Z<|Um (L':=[.arr w 125 3 (bP (bH B) c (l.take j)++kC (a:Nat) ((c a).take 0)).length (bR vs (bP (bH B) c (l.take j)++kC (a:Nat) ((c a).take 0))).flatten]) (by simp [kC])<|G.loop (fun fr C' e x=>∃ (k:Nat)(vs:List Value)(w:Value),(k<=(c a).length/\SrcsOk C' vs (bP (bH B) c (l.take j)++kC (a:Nat) ((c a).take k)))/\fr=[(3,[],.pointer (some ⟨O,0,none⟩)),(4,[],.pointer (some ⟨Q,0,none⟩)),(8,[],w),(12,[],.int .i64 a),(32,[],.slice M l.length N),(33,[],.int .i64 l.length),(34,[],.int .i64 j),(48,[],.slice Ar (c a).length cr),(49,[],.int .i64 (c a).length),(50,[],.int .i64 k)]/\e=[.arr w 125 3 (bP (bH B) c (l.take j)++kC (a:Nat) ((c a).take k)).length (bR vs (bP (bH B) c (l.take j)++kC (a:Nat) ((c a).take k))).flatten]/\x=(c a).length-k) (hn_ [3,4,8,12,32,33,34,48,49,50] Z) ⟨0,vs,w,⟨Qf _,by rw [show kC (a:Nat) ((c a).take 0)=[] from Z,QA];exact A.mono mup⟩,Z,Z,Z⟩ (fun fr a7 a8 m _ y=>?_);obtain ⟨k,vs,w,⟨hk,J⟩,rfl,rfl,rfl⟩:=y;refine TT 1 [3,4,8,12,32,33,34,48,49,50,51] Z<|TW (fun aa=>?_) fun aa=>?_
  ·have K:k<(c a).length:=by
    have:=aJ aa;omega
   obtain ⟨r,g⟩:∃ r,(c a)[k]?=some r:=⟨(c a)[k],aj K⟩;obtain ⟨p,q⟩:∃ p,an[k]?=some p:=⟨an[k]'(by rw [ap];exact K),aj _⟩;have t:=ao.2 k p r q g;obtain ⟨h,n,rfl,_⟩:=id t;simp only [al] at t q;have aD:(kC (a:Nat) ((c a).take k)).length<=240:=by simp [kC];omega
   have a9:(bP (bH B) c (l.take j)++kC (a:Nat) ((c a).take k)).length<=100000:=by rw [Qi];omega
   refine TY fun R d=>Ul Y.m_ U10 om_ (kF q g) fl_ fun ba aO=>TV aO U8<|Uo U5 fun bb=>Uf (j:=0) U12<|TZ [3,4,8,12,16,32,33,34,48,49,50] d Z<|TU 2 Z fun R d=>Uc af U9<|Un [.int .i64 (a:Nat),.slice h r.f.length n,ah (qtx r.b)] U8<|Uq [[.int .i64 (a:Nat),.slice h r.f.length n,ah (qtx r.b)]] U12 fun bc _ _ aP=>D.append (j:=1) U11 aP Z ax (by simp only [aI];omega) fl_ fun ar=>C4 1 [3,4,8,12,32,33,34,48,49,50] d Z<|TY fun R d=>Ue _ U7<|C4 1 [3,4,8,12,32,33,34,48,49,50] d Z ?_;have z:=SrcsOk.snoc (s:=⟨(a:Nat),r⟩) J.m_ t.m_;rw [QJ,<- lu g] at z;refine UO 1 Z<|Um (L':=[.arr ar 125 3 (bP (bH B) c (l.take j)++kC (a:Nat) ((c a).take (k+1))).length (bR (vs++[.slice h r.f.length n]) (bP (bH B) c (l.take j)++kC (a:Nat) ((c a).take (k+1)))).flatten]) (by rw [lu g,<- QJ,ly (jy J)];simp;omega)<|Ug (m':=(c a).length-(k+1)) om_ mup (hn_ [3,4,8,12,32,33,34,48,49,50] Z) ⟨k+1,vs++[.slice h r.f.length n],ar,⟨by omega,z.mono mup⟩,Z,Z,Z⟩
  have K:k=(c a).length:=by
   have:=Qe aa;omega
  rw [K,Qo,<- aH] at J ⊢;refine TY fun R d=>Ue _ U7<|C4 1 [3,4,8,32,33,34] d Z<|Ug (m':=l.length-(j+1)) om_ mup (hn_ [3,4,8,32,33,34] Z) ⟨j+1,vs,w,⟨by omega,J⟩,Z,Z,Z⟩
 have W:j=l.length:=by
  have:=Qe V;omega
 rw [W,Qo] at A ⊢;refine G.freezeArr 0 (bR vs (bP (bH B) c l)) Z Z (qT _ _) (np (jy A)) (fun Cg hg ab=>?_);obtain ⟨Ag,cg,rfl,_⟩:=id ab;rw [np (jy A)] at ab ⊢;refine TT 3 [8,64] Z<|TW (fun au=>?_) fun au=>?_
 ·exfalso;have:=aJ au;omega
 refine TT 3 [6,7] Z<|Ui (G.dropAll (Uw U3 ?_));exact ⟨Z,_,Z,vs,A.mono mup,ab.mono mup⟩
def bS (err:Nat->Int):Nat->Int
 | 0=>0
 | n+1=>if bS err n≠0 then bS err n else err n
theorem lU {a:Nat->Int}{n:Nat}(h:bS a n≠0):∀ m,n<=m->bS a m=bS a n
 | 0,hm=>by rw [show n=0 by omega]
 | m+1,hm=>by
  rcases QL m n with h1 | h1
  ·rw [show n=m+1 by omega]
  have b:=lU h m h1;simp only [bS,b];rw [aU h]
theorem fX {n:Nat}(a:bS err i=0)(b:err i≠0)(c:i<n):bS err n=err i:=by
 have h1:bS err (i+1)=err i:=by simp only [bS,a];rw [az dc_]
 rw [lU (n:=i+1) (by rw [h1];exact b) n om_,h1]
theorem ig (a:bS err i=0)(b:err i=0):bS err (i+1)=0:=by
 simp only [bS,a];rw [az dc_,b]
theorem lT {a:Nat->Int}:∀ {n:Nat},bS a n=0->∀ i,i<n->a i=0
 | 0,_,i,b=>by omega
 | n+1,h,i,b=>by
  by_cases h0:bS a n=0
  ·rcases QL i n with h1 | h1
   ·exact lT h0 i h1
   have:i=n:=by omega
   subst this;simp only [bS,h0] at h
   rwa [az dc_] at h
  simp only [bS] at h;rw [aU h0] at h;exact absurd h h0
theorem kP {a:Nat->Int}:∀ {n:Nat},(∀ i,i<n->a i=0)->bS a n=0
 | 0,_=>rfl
 | n+1,h=>ig (kP fun i b=>h i om_) (h n om_)
theorem Dt (C:Mem)(v:Value)(l:List Int)(z:Int)(b:Sl C 1 v (l.map lZ)):Gives cx.P 126 [v,.int .i64 z] C (.int .i64 (kb (fun y=>decide (z=y)) l 0)):=by
 obtain ⟨h,c0,rfl,j,t,_⟩:=id b;have u:maxLen<=9223372036854775807:=by simp [maxLen]
 simp only [al] at b j ⊢;refine Ud func126 19 U3 fun w0=>TT 1 [0,1] Z<|TT 3 [0,1,7,8] Z<|G.loop (fun fr C' k n=>∃ (i:Nat),(i<=l.length/\∀ y∈l.take i,(fun y=>decide (z=y)) y=false)/\fr=[(0,[],.slice h l.length c0),(1,[],.int .i64 z),(7,[],.int .i64 l.length),(8,[],.int .i64 i)]/\k=[]/\n=l.length-i) (hn_ [0,1,7,8] Z) ⟨0,⟨Qf _,by simp⟩,Z,Z,Z⟩ (fun fr w A m o p=>?_);obtain ⟨i,⟨B,a⟩,rfl,rfl,rfl⟩:=p;refine TT 1 [0,1,7,8,9] Z<|TW (fun c=>?_) fun c=>?_
 ·have d:i<l.length:=by simpa using c
  obtain ⟨x,e⟩:∃ x,l[i]?=some x:=⟨l[i],aj d⟩;refine TT 2 [0,1,5,7,8] Z<|TU 3 Z fun R f=>Ul b.m_ U10 om_ (bX e) fl_ fun D q=>TV q U8<|C4 1 [0,1,5,7,8,16] f Z<|TW (fun g=>?_) fun g=>?_
  ·have r:decide (z=x)=true:=by simpa using g
   exact TT 2 [4] Z<|Ub U2<|⟨by rw [oa e r a,Rz],Z⟩
  have s:decide (z=x)=false:=by simpa using g
  refine TY fun R f=>Ue _ U7<|C4 1 [0,1,7,8] f Z<|Ug (m':=l.length-(i+1)) om_ o (hn_ [0,1,7,8] Z) ⟨i+1,⟨by omega,fun y hy=>by
   rw [QF,e] at hy;rcases Qt.1 hy with hy | hy
   ·exact a y hy
   simp only [Rv,Qx] at hy;subst hy;exact s⟩,Z,Z,Z⟩
 have d:i=l.length:=by
  have:¬ i<l.length:=by simpa using c
  omega
 exact TT 1 [4] Z<|Ub U2<|⟨by rw [d,Qo] at a;rw [lS a],Z⟩
theorem uM (C:Mem)(v:Value)(l:List Int)(z:Int)(a:Sl C 1 v (l.map lZ)):Gives cx.P 84 [v,.int .i64 z] C (.bool (decide (z∈l))):=by
 refine Ud func84 9 U3 fun w0=>?_;refine TT 1 [0,1] Z ?_;refine TU 2 Z fun R b=>?_;refine Uh (Dt _ v l z a.m_) U7 ?_;refine C4 2 [4] b Z ?_;refine Ub U2 ?_;refine ⟨?_,Z⟩;congr 1;rw [QX];rcases mW (fun y=>decide (z=y)) l with ⟨h1,h2⟩ | ⟨i,x,h1,h2,h3,_⟩
 ·rw [h1];constructor
  ·intro h;omega
  intro h;have:=h2 z h;simp at this
 rw [h1];constructor
 ·intro _;have:z=x:=aJ h3;rw [this];exact Qc h2
 intro _;omega
def rt (n:Nat)(l:List Int)(i:Nat):Int:=if l.getD i 0<0∨(n:Int)<=l.getD i 0 then 3 else if l.getD i 0∈l.take i then 9 else 0
def chZ (n:Nat)(l:List Int):Int:=bS (rt n l) l.length
theorem Pa {n:Nat}{l:List Int}(h:chZ n l=0):l=(l.map Int.toNat).map (fun i:Nat=>(i:Int))/\∀ i∈l.map Int.toNat,i<n:=by
 have c:∀ z∈l,0<=z/\z<(n:Int):=by
  intro z a;obtain ⟨i,b⟩:=RB a;have h1:=lT h i (aF.1 b).1;unfold rt at h1;rw [aw,b,Rr] at h1;split at h1
  ·cases h1
  omega
 refine ⟨?_,fun i b=>?_⟩
 ·rw [Q1];symm;have e:∀ z∈l,((fun i:Nat=>(i:Int)) ∘ Int.toNat) z=id z:=fun z a=>Int.toNat_of_nonneg (c z a).1;rw [List.map_congr_left e,List.map_id]
 obtain ⟨z,a,rfl⟩:=Qk.1 b;have:=c z a;omega
theorem DR (C:Mem)(y:Tabs C)(A E:Value)(B:Bk)(F:List Rat)(g:Nat->List RowQ)(l:List Int)(o:BookIn C A B)(p:Rich B F g)(c:Sl C 1 E (l.map lZ))(N:l.length<=100)(O:chZ B.obs.length l=0->(bP (bH B) g (l.map Int.toNat)).length<=300) :
  Pur cx.P 52 [A,E] C fun u D=>∃ v,u=.tuple #[v,.int .i64 (chZ B.obs.length l)]/\xG D v (if chZ B.obs.length l=0 then bP (bH B) g (l.map Int.toNat) else []):=by
 have H:=o;have Q:=c;have I:=p.bookz y o;obtain ⟨v1,v2,tv,cv,ov,rfl,h1,h2,h3,h4,h5⟩:=id o.ex;obtain ⟨A5,c5,rfl,S,ag,_⟩:=id h5;obtain ⟨q,d,rfl,T,ah,_⟩:=id c;have ai:maxLen<=9223372036854775807:=by simp [maxLen]
 simp only [al] at h5 S H I c Q T ⊢;refine Ud func52 46 U3 fun w0=>TY fun R a=>Up U6 fun U=>C4 2 [1,2] a Z<|G.freeze 0 Z fun _ _ r=>TY fun R a=>TV (bkT r 5) U8<|Uh (PT _ _ B I.m_ p.h60) U7<|Ua 3 Z<|Uo U5 fun V=>Uf (j:=0) U12<|C4 1 [1,2,6,7] a Z<|TT 2 [1,2,6,7,16] Z<|TW (fun J=>?_) fun J=>?_
 ·exact absurd J dc_
 refine G.freeze 0 Z fun _ _ W=>TT 3 [1,2,6,18,19,20] Z<|G.loop (fun fr C' X Y=>∃ (i:Nat),(i<=l.length/\bS (rt B.obs.length l) i=0)/\fr=[(1,[],.slice q l.length d),(2,[],.pointer (some ⟨U,0,none⟩)),(6,[],.pointer (some ⟨V,0,none⟩)),(18,[],.slice q l.length d),(19,[],.int .i64 l.length),(20,[],.int .i64 i)]/\X=[]/\Y=l.length-i) (hn_ [1,2,6,18,19,20] Z) ⟨0,⟨Qf _,Z⟩,Z,Z,Z⟩ (fun fr ak am m _ hI=>?_);obtain ⟨i,⟨hi,k⟩,rfl,rfl,rfl⟩:=hI;refine TT 1 [1,2,6,18,19,20,21] Z<|TW (fun s=>?_) fun s=>?_
 ·have e:i<l.length:=by
   have:=aJ s;omega
  obtain ⟨z,K⟩:∃ z,l[i]?=some z:=⟨l[i],aj e⟩;have t:l.getD i 0=z:=by rw [aw,K,Rr]
  have L:=Sl.sub c (l:=0) (h:=i) (m:=d) (Qf _) ap om_ (Qb _);rw [Rm,<- R6] at L;refine TU 1 Z fun R a=>Ul c.m_ U10 om_ (bX K) fl_ fun an aa=>TV aa U8<|C4 2 [1,2,6,8,9,18,19,20] a Z<|TU 5 Z fun R a=>Ux U6 (fun _=>PtrTo.blockT (Mem.get r mup) _ 1) U3<|Ua 2 Z<|UB U8<|TZ [1,2,6,8,9,18,19,20,33] a Z<|TW (fun w=>?_) fun w=>?_
  ·have b:rt B.obs.length l i=3:=by
    unfold rt;rw [t,aU (by simp only [RR,Qj] at w;omega)]
   have f:chZ B.obs.length l=3:=by
    unfold chZ;rw [fX k (by rw [b];decide) e,b]
   refine TT 2 [4,5] Z<|Ui (G.dropAll (Uw U3 ?_));exact ⟨Z,.slice none 0 0,by rw [f],by rw [f];exact ⟨[],RowsOk.nil _,Sl.nil _ _⟩⟩
  have M:¬ (z<0∨(B.obs.length:Int)<=z):=by
   simp only [RH,Qz] at w;omega
  refine TU 2 Z fun R a=>UR 0 i d U12 (fun _=>⟨.inl ⟨Z,Z⟩,.inr ⟨_,Z⟩,.inl ⟨Z,Z⟩,by omega,by omega,by omega⟩) U2<|TX U6<|Uh (uM _ _ (l.take i) z L.m_) U7<|TZ [1,2,6,18,19,20,38] a Z<|TW (fun x=>?_) fun x=>?_
  ·have hm:z∈l.take i:=aJ x;have b:rt B.obs.length l i=9:=by
    unfold rt;rw [t,az M,aU hm]
   have f:chZ B.obs.length l=9:=by
    unfold chZ;rw [fX k (by rw [b];decide) e,b]
   refine TT 2 [4,5] Z<|Ui (G.dropAll (Uw U3 ?_));exact ⟨Z,.slice none 0 0,by rw [f],by rw [f];exact ⟨[],RowsOk.nil _,Sl.nil _ _⟩⟩
  have hm:z ∉ l.take i:=Qe x;have b:rt B.obs.length l i=0:=by
   unfold rt;rw [t,az M,az hm]
  refine TY fun R a=>Ue _ U7<|C4 1 [1,2,6,18,19,20] a Z<|Ug (m':=l.length-(i+1)) om_ mup (hn_ [1,2,6,18,19,20] Z) ⟨i+1,⟨by omega,ig k b⟩,Z,Z,Z⟩
 have e:i=l.length:=by
  have:=Qe s;omega
 subst e;have n:chZ B.obs.length l=0:=k;obtain ⟨ab,ac⟩:=Pa n;have ad:Sl C 1 (.slice q l.length d) ((l.map Int.toNat).map aN):=by
  have h:=congrArg (List.map lZ) ab;rw [Q1] at h;rw [show (l.map Int.toNat).map aN=l.map lZ from h.symm];exact c
 refine TY fun R a=>TV (bkT W 2) U8<|TV (bkT r 5) U8<|TX U6<|Uz (Hx _ y.m_ _ _ B F g (l.map Int.toNat) H.m_ p ad.m_ ac (by simpa using N) (O n)) U7 fl_ (fun ao _ _ ae=>?_);obtain ⟨rv,rfl,af⟩:=ae;refine C4 4 [4,5] a Z<|Ui (G.dropAll (Uw U3 ?_));exact ⟨Z,rv,by rw [n],by rw [aU n];exact af⟩
def dotV (f x:List Rat):Nat->Rat
 | 0=>0
 | n+1=>dotV f x n+f.getD n 0*x.getD n 0
structure DotOk (r:RowQ)(x:List Rat):Prop where
 f:∀ q∈r.f,QB 22 q
 b:QB 22 r.b
 len:r.f.length=x.length
 s:∀ n,QB 2000 (dotV r.f x n)
def sqP:List (Int × Int):=[(0,0),(4,0),(4,4),(0,4)]
def shP:Nat->List (Int × Int)
 | 0=>sqP
 | 1=>sqP
 | 2=>sqP++[(2,1)]
 | 3=>[(0,0),(6,0),(0,4)]
 | 4=>[(0,0),(2,0),(4,0),(0,2),(2,2),(4,2)]
 | 5=>[(1,4),(5,3),(4,0),(0,0)]
 | 6=>sqP++[(2,0)]
 | _=>[(0,0),(6,0),(0,6),(2,2)]
def shT:Nat->List Tri
 | 0=>[(0,1,2),(0,2,3)]
 | 1=>[(0,1,3),(1,2,3)]
 | 2=>[(0,1,4),(1,2,4),(2,3,4),(3,0,4)]
 | 3=>[(2,0,1)]
 | 4=>[(0,1,4),(0,4,3),(1,2,5),(1,5,4)]
 | 5=>[(3,2,1),(3,1,0)]
 | 6=>[(0,4,3),(4,2,3),(4,1,2)]
 | _=>[(0,1,3),(1,2,3),(2,0,3)]
def P0 (p:Int × Int):List Value:=[.int .i64 p.1,.int .i64 p.2]
def ShIn (u:Value)(D:Mem)(m:Nat):Prop:=∃ pv tv,u=.tuple #[pv,tv]/\Sl D 2 pv ((shP m).map P0)/\Sl D 3 tv ((shT m).map kA)
theorem CN (C:Mem)(a:Nat)(_H:a<256):Pur cx.P 94 [.int .u8 a] C fun u D=>ShIn u D (a % 8):=by
 have I:a % 8<8:=QV _ dc_;obtain ⟨m,hm⟩:∃ m,a % 8=m:=⟨_,rfl⟩;refine Ud func94 86 U3 fun w0=>TT 2 [0] Z<|TY fun R b=>Un ([.int .i64 0,.int .i64 0]) U8<|Un ([.int .i64 4,.int .i64 0]) U8<|Un ([.int .i64 4,.int .i64 4]) U8<|Un ([.int .i64 0,.int .i64 4]) U8<|UH [[.int .i64 0,.int .i64 0],[.int .i64 4,.int .i64 0],[.int .i64 4,.int .i64 4],[.int .i64 0,.int .i64 4]] U12 fl_ fun J _ _ d=>C4 1 [0,4] b Z<|TU 1 Z fun R b=>UU (a) (8) U6 om_ U2<|TZ [4,11] b Z<|TT 2 [4,11,12] Z<|TW (fun f=>?_) fun f=>?_
 ·have c:a % 8=0:=by
   have:=dS f;omega
  refine TU 1 Z fun R b=>Un ([.int .i64 0,.int .i64 1,.int .i64 2]) U8<|Un ([.int .i64 0,.int .i64 2,.int .i64 3]) U8<|Uq [[.int .i64 0,.int .i64 1,.int .i64 2],[.int .i64 0,.int .i64 2,.int .i64 3]] U12 fun K _ _ n=>C4 2 [2,3] b Z<|Ui (G.dropAll (Uw U3 ?_));exact ⟨Z,by rw [c];exact ⟨_,_,Z,d.mono mup,n.mono mup⟩⟩
 have L:a % 8≠0:=by
  intro e;rw [e] at f;exact absurd f dc_
 refine TT 2 [4,11,18] Z<|TW (fun g=>?_) fun g=>?_
 ·have c:a % 8=1:=by
   have:=dS g;omega
  refine TU 1 Z fun R b=>Un ([.int .i64 0,.int .i64 1,.int .i64 3]) U8<|Un ([.int .i64 1,.int .i64 2,.int .i64 3]) U8<|Uq [[.int .i64 0,.int .i64 1,.int .i64 3],[.int .i64 1,.int .i64 2,.int .i64 3]] U12 fun M _ _ o=>C4 2 [2,3] b Z<|Ui (G.dropAll (Uw U3 ?_));exact ⟨Z,by rw [c];exact ⟨_,_,Z,d.mono mup,o.mono mup⟩⟩
 have N:a % 8≠1:=by
  intro e;rw [e] at g;exact absurd g dc_
 refine TT 2 [4,11,24] Z<|TW (fun h=>?_) fun h=>?_
 ·have c:a % 8=2:=by
   have:=dS h;omega
  refine TU 1 Z fun R b=>Un ([.int .i64 2,.int .i64 1]) U8<|Uq [[.int .i64 2,.int .i64 1]] U12 fun O _ _ p=>V4 Z Z Z Z Z Z Z Z Z Z d.m_ p.m_ (.inr dc_) (by simp only [Qs,Qu,maxLen];omega) dc_ fl_ fun Q _ _ q=>Un ([.int .i64 0,.int .i64 1,.int .i64 4]) U8<|Un ([.int .i64 1,.int .i64 2,.int .i64 4]) U8<|Un ([.int .i64 2,.int .i64 3,.int .i64 4]) U8<|Un ([.int .i64 3,.int .i64 0,.int .i64 4]) U8<|Uq [[.int .i64 0,.int .i64 1,.int .i64 4],[.int .i64 1,.int .i64 2,.int .i64 4],[.int .i64 2,.int .i64 3,.int .i64 4],[.int .i64 3,.int .i64 0,.int .i64 4]] U12 fun S _ _ r=>C4 2 [2,3] b Z<|Ui (G.dropAll (Uw U3 ?_));exact ⟨Z,by rw [c];exact ⟨_,_,Z,q.mono mup,r.mono mup⟩⟩
 have T:a % 8≠2:=by
  intro e;rw [e] at h;exact absurd h dc_
 refine TT 2 [4,11,35] Z<|TW (fun i=>?_) fun i=>?_
 ·have c:a % 8=3:=by
   have:=dS i;omega
  refine TY fun R b=>Un ([.int .i64 0,.int .i64 0]) U8<|Un ([.int .i64 6,.int .i64 0]) U8<|Un ([.int .i64 0,.int .i64 4]) U8<|Uq [[.int .i64 0,.int .i64 0],[.int .i64 6,.int .i64 0],[.int .i64 0,.int .i64 4]] U12 fun U _ _ s=>Un ([.int .i64 2,.int .i64 0,.int .i64 1]) U8<|Uq [[.int .i64 2,.int .i64 0,.int .i64 1]] U12 fun V _ _ t=>C4 2 [2,3] b Z<|Ui (G.dropAll (Uw U3 ?_));exact ⟨Z,by rw [c];exact ⟨_,_,Z,s.mono mup,t.mono mup⟩⟩
 have W:a % 8≠3:=by
  intro e;rw [e] at i;exact absurd i dc_
 refine TT 2 [4,11,43] Z<|TW (fun j=>?_) fun j=>?_
 ·have c:a % 8=4:=by
   have:=dS j;omega
  refine TY fun R b=>Un ([.int .i64 0,.int .i64 0]) U8<|Un ([.int .i64 2,.int .i64 0]) U8<|Un ([.int .i64 4,.int .i64 0]) U8<|Un ([.int .i64 0,.int .i64 2]) U8<|Un ([.int .i64 2,.int .i64 2]) U8<|Un ([.int .i64 4,.int .i64 2]) U8<|Uq [[.int .i64 0,.int .i64 0],[.int .i64 2,.int .i64 0],[.int .i64 4,.int .i64 0],[.int .i64 0,.int .i64 2],[.int .i64 2,.int .i64 2],[.int .i64 4,.int .i64 2]] U12 fun X _ _ v=>Un ([.int .i64 0,.int .i64 1,.int .i64 4]) U8<|Un ([.int .i64 0,.int .i64 4,.int .i64 3]) U8<|Un ([.int .i64 1,.int .i64 2,.int .i64 5]) U8<|Un ([.int .i64 1,.int .i64 5,.int .i64 4]) U8<|Uq [[.int .i64 0,.int .i64 1,.int .i64 4],[.int .i64 0,.int .i64 4,.int .i64 3],[.int .i64 1,.int .i64 2,.int .i64 5],[.int .i64 1,.int .i64 5,.int .i64 4]] U12 fun Y _ _ w=>C4 2 [2,3] b Z<|Ui (G.dropAll (Uw U3 ?_));exact ⟨Z,by rw [c];exact ⟨_,_,Z,v.mono mup,w.mono mup⟩⟩
 have aa:a % 8≠4:=by
  intro e;rw [e] at j;exact absurd j dc_
 refine TT 2 [4,11,57] Z<|TW (fun k=>?_) fun k=>?_
 ·have c:a % 8=5:=by
   have:=dS k;omega
  refine TY fun R b=>Un ([.int .i64 1,.int .i64 4]) U8<|Un ([.int .i64 5,.int .i64 3]) U8<|Un ([.int .i64 4,.int .i64 0]) U8<|Un ([.int .i64 0,.int .i64 0]) U8<|Uq [[.int .i64 1,.int .i64 4],[.int .i64 5,.int .i64 3],[.int .i64 4,.int .i64 0],[.int .i64 0,.int .i64 0]] U12 fun ab _ _ x=>Un ([.int .i64 3,.int .i64 2,.int .i64 1]) U8<|Un ([.int .i64 3,.int .i64 1,.int .i64 0]) U8<|Uq [[.int .i64 3,.int .i64 2,.int .i64 1],[.int .i64 3,.int .i64 1,.int .i64 0]] U12 fun ac _ _ y=>C4 2 [2,3] b Z<|Ui (G.dropAll (Uw U3 ?_));exact ⟨Z,by rw [c];exact ⟨_,_,Z,x.mono mup,y.mono mup⟩⟩
 have ad:a % 8≠5:=by
  intro e;rw [e] at k;exact absurd k dc_
 refine TT 2 [4,67] Z<|TW (fun l=>?_) fun l=>?_
 ·have c:a % 8=6:=by
   have:=dS l;omega
  refine TU 1 Z fun R b=>Un ([.int .i64 2,.int .i64 0]) U8<|Uq [[.int .i64 2,.int .i64 0]] U12 fun ae _ _ z=>V4 Z Z Z Z Z Z Z Z Z Z d.m_ z.m_ (.inr dc_) (by simp only [Qs,Qu,maxLen];omega) dc_ fl_ fun af _ _ A=>Un ([.int .i64 0,.int .i64 4,.int .i64 3]) U8<|Un ([.int .i64 4,.int .i64 2,.int .i64 3]) U8<|Un ([.int .i64 4,.int .i64 1,.int .i64 2]) U8<|Uq [[.int .i64 0,.int .i64 4,.int .i64 3],[.int .i64 4,.int .i64 2,.int .i64 3],[.int .i64 4,.int .i64 1,.int .i64 2]] U12 fun ag _ _ B=>C4 2 [2,3] b Z<|Ui (G.dropAll (Uw U3 ?_));exact ⟨Z,by rw [c];exact ⟨_,_,Z,A.mono mup,B.mono mup⟩⟩
 have ah:a % 8≠6:=by
  intro e;rw [e] at l;exact absurd l dc_
 refine TY fun R b=>Un ([.int .i64 0,.int .i64 0]) U8<|Un ([.int .i64 6,.int .i64 0]) U8<|Un ([.int .i64 0,.int .i64 6]) U8<|Un ([.int .i64 2,.int .i64 2]) U8<|Uq [[.int .i64 0,.int .i64 0],[.int .i64 6,.int .i64 0],[.int .i64 0,.int .i64 6],[.int .i64 2,.int .i64 2]] U12 fun ai _ _ E=>Un ([.int .i64 0,.int .i64 1,.int .i64 3]) U8<|Un ([.int .i64 1,.int .i64 2,.int .i64 3]) U8<|Un ([.int .i64 2,.int .i64 0,.int .i64 3]) U8<|Uq [[.int .i64 0,.int .i64 1,.int .i64 3],[.int .i64 1,.int .i64 2,.int .i64 3],[.int .i64 2,.int .i64 0,.int .i64 3]] U12 fun aj _ _ F=>C4 2 [2,3] b Z<|Ui (G.dropAll (Uw U3 ?_));exact ⟨Z,by rw [show a % 8=7 by omega];exact ⟨_,_,Z,E.mono mup,F.mono mup⟩⟩
theorem Er (a:-128<=n)(b:n<128):IntKind.i8.wrap n=n:=by
 simp [IntKind.wrap,IntKind.bits,IntKind.signed];omega
theorem K5:∀ m:Nat,∀ p∈shP m,0<=p.1/\p.1<=6/\0<=p.2/\p.2<=6
 | 0=>by decide
 | 1=>by decide
 | 2=>by decide
 | 3=>by decide
 | 4=>by decide
 | 5=>by decide
 | 6=>by decide
 | _+7=>by
  show ∀ p∈([(0,0),(6,0),(0,6),(2,2)]:List (Int × Int)),0<=p.1/\p.1<=6/\0<=p.2/\p.2<=6;decide
theorem E4:∀ m:Nat,(shP m).length<=6
 | 0=>by decide
 | 1=>by decide
 | 2=>by decide
 | 3=>by decide
 | 4=>by decide
 | 5=>by decide
 | 6=>by decide
 | _+7=>by
  show ([(0,0),(6,0),(0,6),(2,2)]:List (Int × Int)).length<=6;decide
def cC (m:Nat)(a b:Int)(h:Bool):List Pt:=(shP m).map fun p=>dz a b h p.1 p.2 1
theorem lD (m:Nat)(a b:Int)(h:Bool):(cC m a b h).length<=6:=by rw [cC,al];exact E4 m
theorem qj {z w:Int}(c:w≠0)(a:z.natAbs<1000000000)(b:w.natAbs<1000000000):QB 1 (kQ z w):=by
 unfold kQ;refine gX om_ ?_ ?_
 ·show _<B9 ^ 1;split
  ·rw [Ti];exact a
  exact a
 exact b
theorem Bb {a b:Int}{h:Bool}{x y:Int}(i:0<n)(j:n<=4)(k:-128<=x/\x<=127)(l:-128<=y/\y<=127):QP 1 (dz a b h x y n):=by
 have c:=xX a;have d:=xX b;have g:dT h=1∨dT h=2:=by cases h <;> simp [dT]
 have f:∀ z:Int, -8<z->z<8->-32<z*n/\z*n<32:=fun z h1 h2=>by
  rcases (by omega:n=1∨n=2∨n=3∨n=4) with e | e | e | e <;> subst e <;> omega
 have m:=f _ c.1 c.2;have o:=f _ d.1 d.2;have p:0<dT h*n/\dT h*n<=8:=by rcases g with e | e <;> rw [e] <;> omega
 exact ⟨qj om_ om_ om_,qj om_ om_ om_⟩
theorem wH (C:Mem)(F:Tabs C)(d:Nat)(a b:Int)(h:Bool)(H:d<256):Pur cx.P 61 [K4 d a b h] C fun u D=>MeshIn D u (cC (d % 8) a b h) (shT (d % 8)):=by
 have I:=K5 (d % 8);have ad:=E4 (d % 8);refine Ud func61 42 U3 fun w0=>TY fun R e=>Up U6 fun J=>Uo U5 fun f=>TZ [1,2] e Z<|G.freeze 1 Z fun _ _ x=>TU 1 Z fun R e=>TV (bkT x 1) U8<|UF (CN _ d H) U7 (fun ae _ _ K=>?_);obtain ⟨pv,tv,rfl,g,q⟩:=K;obtain ⟨L,M,rfl,N,ag,_⟩:=id g;obtain ⟨k,l,rfl,ah,ai,_⟩:=id q;simp only [al] at g q N ⊢;refine C4 5 [1,2,3,4] e Z<|TU 1 Z fun R e=>Un [.slice none 0 0,.slice k (shT (d % 8)).length l] U8<|Uo U5 fun n=>Uf (j:=0) U12<|TZ [1,2,3,5] e Z<|TT 1 [1,2,3,5,6] Z<|G.nilArr 58 2<|G.perm (L':=[.obj n (.cells ⟨[.slice none 0 0,.slice k (shT (d % 8)).length l]⟩ 36 (0,0)),.arr (.slice none 0 0) 58 2 0 [],.obj f (.cells ⟨[.slice none 0 0,.slice none 0 0]⟩ 36 (0,0))]) (List.Perm.swap _ _ _)<|G.loop (fun fr C' s O=>∃ (i:Nat)(w:Value),(i<=(shP (d % 8)).length)/\fr=[(1,[],.pointer (some ⟨J,0,none⟩)),(2,[],.pointer (some ⟨f,0,none⟩)),(3,[],.slice L (shP (d % 8)).length M),(5,[],.pointer (some ⟨n,0,none⟩)),(6,[],.int .i64 i)]/\s=[.obj n (.cells ⟨[w,.slice k (shT (d % 8)).length l]⟩ 36 (0,0)),.arr w 58 2 ((cC (d % 8) a b h).take i).length (((cC (d % 8) a b h).take i).map gl).flatten,.obj f (.cells ⟨[.slice none 0 0,.slice none 0 0]⟩ 36 (0,0))]/\O=(shP (d % 8)).length-i) (hn_ [1,2,3,5,6] Z) ⟨0,.slice none 0 0,Qf _,Z,Z,Z⟩ (fun fr ak am m _ Q=>?_);obtain ⟨i,w,hi,rfl,rfl,rfl⟩:=Q;refine TT 4 [1,2,3,5,6,18] Z<|TW (fun t=>?_) fun t=>?_
 ·have v:i<(shP (d % 8)).length:=by
   have:=aJ t;omega
  obtain ⟨p,o⟩:∃ p,(shP (d % 8))[i]?=some p:=⟨(shP (d % 8))[i],aj v⟩;obtain ⟨an,ao,ap,aq⟩:=I p (Qc o);have S:(cC (d % 8) a b h)[i]?=some (dz a b h p.1 p.2 1):=by unfold cC;rw [Qg,o];rfl
  have T:(cC (d % 8) a b h).take (i+1)=(cC (d % 8) a b h).take i++[dz a b h p.1 p.2 1]:=by rw [QF,S];rfl
  have ar:((cC (d % 8) a b h).take i).length<=6:=by rw [Qq];have:=lD (d % 8) a b h;omega
  refine Ur [0,1,2,3,4,5,6,7,8,9,10,11,12,13,14,15,16,17,18,19,20] [(16,1),(8,0),(14,0)] Z kr_ fun R hB e=>TX U6<|Uc af U9<|TV (bkT x 4) U8<|Ua 2 Z<|Ul g.m_ U10 om_ (bX o) fl_ fun au U=>VF U9 (fun _=>U) (fun _=>⟨by omega,om_⟩) fl_ Z (fun av V=>?_);have W:=V trivial;refine TV W U8<|Vb (c:=p.1) U8 (Er om_ om_) U2<|Ua 2 Z<|Ul g.m_ U10 om_ (bX o) fl_ fun aw X=>VF U9 (fun _=>X) (fun _=>⟨by omega,om_⟩) fl_ Z (fun ay Y=>?_);have aa:=Y trivial;refine TV aa U8<|Vb (c:=p.2) U8 (Er om_ om_) U2<|Un [.int .i8 p.1,.int .i8 p.2] U8<|Us (fun _=>(Bc _ F.m_ d a b h p.1 p.2 1 dc_ dc_ ⟨by omega,by omega⟩ ⟨by omega,by omega⟩)) U9<|Uq [gl (dz a b h p.1 p.2 1)] U12 fun az _ _ ab=>Uy (j:=1) U11 ab.m_ Z ax (by simp only [aI];omega) fl_ fun z A B=>TX U6<|Uf (j:=1) U12<|TZ [1,2,3,5,6] e Z<|TU 1 Z fun R e=>Ue _ U7<|C4 1 [1,2,3,5,6] e Z<|Um (L':=[.obj n (.cells ⟨[.slice z A B,.slice k (shT (d % 8)).length l]⟩ 36 (0,0)),.arr (.slice z A B) 58 2 ((cC (d % 8) a b h).take (i+1)).length (((cC (d % 8) a b h).take (i+1)).map gl).flatten,.obj f (.cells ⟨[.slice none 0 0,.slice none 0 0]⟩ 36 (0,0))]) (by rw [T,QS,QW,Qi];rfl)<|Ug (m':=(shP (d % 8)).length-(i+1)) om_ mup (hn_ [1,2,3,5,6] Z) ⟨i+1,_,om_,Z,Z,Z⟩
 have v:i=(shP (d % 8)).length:=by
  have:=Qe t;omega
 have ac:(cC (d % 8) a b h).take i=cC (d % 8) a b h:=QE (by rw [v,cC,al];exact Qb _);rw [ac];refine G.freezeArr 1 ((cC (d % 8) a b h).map gl) rfl rfl (by intro r hr;obtain ⟨y,_,rfl⟩:=Qk.1 hr;rfl) (by rw [al]) (fun Cg hg E=>?_);obtain ⟨Aw,cw,rfl,_⟩:=id E;refine TY fun R e=>Uc af U9<|Uf (j:=1) U12<|TZ [2] e Z<|Ui (UN af U4 ?_);exact ⟨Z,_,_,Z,E,q.mono mup⟩
structure Hts where
 h0:Int
 h1:Int
 h2:Int
 h3:Int
 h4:Int
 h5:Int
 half:Bool
def H9 (H:Hts):List Int:=[H.h0,H.h1,H.h2,H.h3,H.h4,H.h5]
def OY (H:Hts):List Value:=[.int .i8 H.h0,.int .i8 H.h1,.int .i8 H.h2,.int .i8 H.h3,.int .i8 H.h4,.int .i8 H.h5,.bool H.half]
def Py (H:Hts):Prop:=∀ z∈H9 H, -128<=z/\z<=127
def fsK (n:Nat)(H:Hts):List Rat:=(List.range n).map fun i=>kQ (((H9 H).getD (i % 6) 0).tmod 20) (dT H.half)
theorem EJ (a:Int):-20<a.tmod 20/\a.tmod 20<20:=by
 have h:(a.tmod 20).natAbs=a.natAbs % 20:=SU a 20;omega
theorem uw (h:Bool):dT h=1∨dT h=2:=by cases h <;> simp [dT]
theorem uz (n:Nat)(H:Hts):(fsK n H).length=n:=by simp [fsK]
theorem G1 (n:Nat)(H:Hts):∀ q∈fsK n H,QB 1 q:=by
 intro q a;unfold fsK at a;obtain ⟨i,_,rfl⟩:=Qk.1 a;have h1:=EJ ((H9 H).getD (i % 6) 0);have h2:=uw H.half;exact qj om_ om_ om_
theorem Nf (H:Hts)(j:Nat)(a:j<6):((OY H).drop j).take 1=[.int .i8 ((H9 H).getD j 0)]:=by
 rcases (by omega:j=0∨j=1∨j=2∨j=3∨j=4∨j=5) with rfl | rfl | rfl | rfl | rfl | rfl <;> rfl
theorem jb (C:Mem)(B:Tabs C)(o E:Value)(n:Nat)(F:Option Addr)(I:Nat)(H:Hts)(J:o=.slice F n I)(S:n<=400)(K:Py H):Pur cx.P 62 [.agg ⟨[o,E]⟩,.agg ⟨OY H⟩] C fun u D=>Sl D 1 u ((fsK n H).map fe):=by
 subst J;obtain ⟨h0,h1,h2,h3,h4,h5,a⟩:=H;have T:maxLen<=9223372036854775807:=by simp [maxLen]
 refine Ud func62 31 U3 fun w0=>TY fun R b=>Up U6 fun p=>Up U6 fun q=>C4 1 [2,3] b Z<|G.freeze 1 Z fun _ _ L=>G.freeze 0 Z fun _ _ s=>TY fun R b=>Va [] U12 fl_ fun t=>C4 1 [2,3,5] b Z<|TT 1 [2,3,5,6] Z<|TU 1 Z fun R b=>TV (bkT s 1) U8<|TZ [2,3,5,6,10] b Z<|G.cut (fun fr C' d e=>(True)/\fr=[(2,[],.pointer (some ⟨p,0,none⟩)),(3,[],.pointer (some ⟨q,0,none⟩)),(5,[],.slice (some ⟨t,0,none⟩) 0 0),(6,[],.int .i64 (dT a))]/\d=[.arr (.slice (some ⟨t,0,none⟩) 0 0) 56 1 0 []]) ?_ (fun fr _ U e _ f=>?_)
 ·refine TW (fun g=>?_) fun g=>?_
  ·have h1:a=true:=g;subst h1;refine TT 1 [2,3,5,6] Z<|Uj 0 (Mem.le.refl _) (hn_ [2,3,5,6] Z) ⟨trivial,Z,Z⟩
  have h1:a=false:=g;subst h1;refine Uj 0 (Mem.le.refl _) (hn_ [2,3,5,6] Z) ⟨trivial,Z,Z⟩
 obtain ⟨_,rfl,rfl⟩:=f;refine TT 1 [2,3,5,6,7] Z<|G.loop (fun fr C' d e=>∃ (i:Nat)(w:Value),(i<=n)/\fr=[(2,[],.pointer (some ⟨p,0,none⟩)),(3,[],.pointer (some ⟨q,0,none⟩)),(5,[],w),(6,[],.int .i64 (dT a)),(7,[],.int .i64 i)]/\d=[.arr w 56 1 ((fsK n ⟨h0,h1,h2,h3,h4,h5,a⟩).take i).length (((fsK n ⟨h0,h1,h2,h3,h4,h5,a⟩).take i).map fe).flatten]/\e=n-i) (hn_ [2,3,5,6,7] Z) ⟨0,_,Qf _,Z,Z,Z⟩ (fun fr V W m _ f=>?_);obtain ⟨i,w,X,rfl,rfl,rfl⟩:=f;refine TU 2 Z fun R b=>TV (bkT L 1) U8<|C4 2 [2,3,5,6,7,15] b Z<|TW (fun h=>?_) fun h=>?_
 ·have k:i<n:=by
   have:=aJ h;omega
  have v:i % 6<6:=QV _ dc_;obtain ⟨z,l⟩:∃ z,(H9 ⟨h0,h1,h2,h3,h4,h5,a⟩).getD (i % 6) 0=z:=⟨_,rfl⟩;have x:=Nf ⟨h0,h1,h2,h3,h4,h5,a⟩ (i % 6) v;rw [l] at x;have M:z∈H9 ⟨h0,h1,h2,h3,h4,h5,a⟩:=by
   rw [<- l,aw,aj (show i % 6<(H9 ⟨h0,h1,h2,h3,h4,h5,a⟩).length from v),Rr];exact Q8 _
  have Y:=K z M;have aa:=EJ z;have ab:=uw a;have N:(fsK n ⟨h0,h1,h2,h3,h4,h5,a⟩).take (i+1)=(fsK n ⟨h0,h1,h2,h3,h4,h5,a⟩).take i++[kQ (z.tmod 20) (dT a)]:=by
   rw [QF,show (fsK n ⟨h0,h1,h2,h3,h4,h5,a⟩)[i]?=some (kQ (z.tmod 20) (dT a)) by unfold fsK;rw [Qg,QR k,<- l];rfl];rfl
  have ac:((fsK n ⟨h0,h1,h2,h3,h4,h5,a⟩).take i).length<=400:=by rw [Qq,uz];omega
  refine TU 2 Z fun R b=>UU (i) (6) U6 om_ U2<|TX U6<|Ut ((i % 6)) U9 (fun _=>⟨by omega,by omega,(by show i % 6=0+(i % 6)*1;omega)⟩) U2<|Vk (PtrTo.blockT (Mem.get s mup) (i % 6) 1) U6 (show cD _ (((OY ⟨h0,h1,h2,h3,h4,h5,a⟩).drop (i % 6)).take 1)=some (.int .i8 z) from by rw [x];rfl) Z<|UJ (c:=z) U8 (wrap_i64 om_ om_) fl_<|U1 (z.tmod 20) U6 dc_ U3<|TX U6<|Uk (ON _ B.m_ (z.tmod 20) (dT a) om_ om_ om_) U7 fl_<|Uq [fe (kQ (z.tmod 20) (dT a))] U12 fun ad _ _ O=>D.append (j:=0) U11 O Z ax (by simp only [aI];omega) fl_ fun A=>C4 1 [2,3,5,6,7] b Z<|TU 1 Z fun R b=>Ue _ U7<|C4 1 [2,3,5,6,7] b Z<|Um (L':=[.arr A 56 1 ((fsK n ⟨h0,h1,h2,h3,h4,h5,a⟩).take (i+1)).length (((fsK n ⟨h0,h1,h2,h3,h4,h5,a⟩).take (i+1)).map fe).flatten]) (by rw [N,QS,QW,Qi];rfl)<|Ug (m':=n-(i+1)) om_ mup (hn_ [2,3,5,6,7] Z) ⟨i+1,A,om_,Z,Z,Z⟩
 have k:i=n:=by
  have:=Qe h;omega
 rw [show (fsK n ⟨h0,h1,h2,h3,h4,h5,a⟩).take i=fsK n ⟨h0,h1,h2,h3,h4,h5,a⟩ from QE (by rw [k,uz];exact Qb _)];exact TT 2 [4] Z<|G.freezeArr 0 ((fsK n ⟨h0,h1,h2,h3,h4,h5,a⟩).map fe) rfl rfl (by intro r hr;obtain ⟨y,_,rfl⟩:=Qk.1 hr;rfl) (by rw [al]) fun Cg hg Q=>Ub U2<|⟨Z,Q⟩
structure Sgt where
 kind:Nat
 px:Int
 py:Int
 u0:Nat
 u1:Nat
 depth:Nat
 n0:Int
 n1:Int
 n2:Int
def NW (s:Sgt):List Value:=[.int .u8 s.kind,.int .i8 s.px,.int .i8 s.py,.int .u8 s.u0,.int .u8 s.u1,.int .u8 s.depth,.int .i8 s.n0,.int .i8 s.n1,.int .i8 s.n2]
structure SgtR (s:Sgt):Prop where
 kind:s.kind<256
 px:-128<=s.px/\s.px<=127
 py:-128<=s.py/\s.py<=127
 u0:s.u0<256
 u1:s.u1<256
 depth:s.depth<256
 n0:-128<=s.n0/\s.n0<=127
 n1:-128<=s.n1/\s.n1<=127
 n2:-128<=s.n2/\s.n2<=127
structure Sht where
 kd:Nat
 a:Int
 b:Int
 h:Bool
def MI (S:Sht)(H:Hts)(sv:Value):List Value:=[.int .u8 S.kd,.int .i8 S.a,.int .i8 S.b,.bool S.h,.int .i8 H.h0,.int .i8 H.h1,.int .i8 H.h2,.int .i8 H.h3,.int .i8 H.h4,.int .i8 H.h5,.bool H.half,sv]
def ri (i:Nat):Str:=[UInt8.ofNat (65+i)]
def lE (S:Sht)(s:Sgt):Pt :=
 if lM (cC (S.kd % 8) S.a S.b S.h) (shT (S.kd % 8)) (dz S.a S.b S.h s.px s.py 2)≠[] then dz S.a S.b S.h s.px s.py 2
 else (cC (S.kd % 8) S.a S.b S.h).getD (s.depth % (cC (S.kd % 8) S.a S.b S.h).length) (0,0)
def fa (z:Int):Int:=if z.tmod 5=0 then 1 else z.tmod 5
def loU (s:Sgt):Nat:=if s.u0 % 3=s.u1 % 3 then 0 else s.u0 % 3
def upU (s:Sgt):Nat:=if s.u0 % 3=s.u1 % 3 then 1+s.u1 % 3 % 2 else s.u1 % 3
def fE (S:Sht)(s:Sgt)(i:Nat):Obs :=
 if s.kind % 3=0 then ⟨1,[111,UInt8.ofNat (49+i)],qtx (lE S s).1,qtx (lE S s).2,[],ri (s.u1 % 3),[],[],[],[]⟩
 else if s.kind % 3=1 then ⟨2,[111,UInt8.ofNat (49+i)],qtx (lE S s).1,qtx (lE S s).2,qtx (kQ (s.depth % 12:Nat) 2),ri (max (loU s) (upU s)),ri (min (loU s) (upU s)),[],[],[]⟩
 else ⟨3,[111,UInt8.ofNat (49+i)],qtx (lE S s).1,qtx (lE S s).2,[],ri (max (loU s) (upU s)),ri (min (loU s) (upU s)),qtx ((s.n0.tmod 5:Int):Rat),qtx ((s.n1.tmod 5:Int):Rat),qtx ((fa s.n2:Int):Rat)⟩
theorem wrap_u8 (a:0<=n)(b:n<256):IntKind.u8.wrap n=n:=by
 simp only [IntKind.wrap,IntKind.bits,IntKind.signed];simp;omega
theorem mU (i:Nat)(a:i<6):([[.int .u8 111],[.int .u8 (49+(i:Int))]]:List (List Value))=(([111,UInt8.ofNat (49+i)]:Str).map fun b=>[.int .u8 b.toNat]):=by
 rcases (by omega:i=0∨i=1∨i=2∨i=3∨i=4∨i=5) with rfl | rfl | rfl | rfl | rfl | rfl <;> rfl
theorem By (j:Nat)(a:j<3):(([ah [65],ah [66],ah [67]]:List Value).drop j).take 1=[ah (ri j)]:=by
 rcases (by omega:j=0∨j=1∨j=2) with rfl | rfl | rfl <;> rfl
theorem yi:∀ m:Nat,0<(shP m).length
 | 0=>by decide
 | 1=>by decide
 | 2=>by decide
 | 3=>by decide
 | 4=>by decide
 | 5=>by decide
 | 6=>by decide
 | _+7=>by
  show 0<([(0,0),(6,0),(0,6),(2,2)]:List (Int × Int)).length;decide
theorem nI (a:Int):-5<a.tmod 5/\a.tmod 5<5:=by
 have h:(a.tmod 5).natAbs=a.natAbs % 5:=SU a 5;omega
theorem M7 (s:Sgt):loU s<=2:=by unfold loU;split <;> omega
theorem LV (s:Sgt):upU s<=2:=by unfold upU;split <;> omega
theorem Fw (h:QP 1 p):QP 23 p/\PtR p:=⟨⟨h.1.le dc_,h.2.le dc_⟩,bO (h.1.le dc_),bO (h.2.le dc_)⟩
theorem re (C:Mem)(r:Tabs C)(S:Sht)(s:Sgt)(H:Hts)(sv:Value)(i:Nat)(T:i<6)(hk:S.kd<256)(q:SgtR s)(hG:Good (cC (S.kd % 8) S.a S.b S.h) (shT (S.kd % 8))) :
  Pur cx.P 63 [.agg ⟨MI S H sv⟩,.agg ⟨NW s⟩,.int .i64 i] C fun u _D=>u=.agg ⟨Ia (fE S s i)⟩:=by
 have aE:=q.kind;have aF:=q.u0;have aG:=q.u1;have aH:=q.depth;have aI:=nI s.n0;have aJ:=nI s.n1;have aK:=nI s.n2;have am:=M7 s;have an:=LV s;have ao:QP 1 (dz S.a S.b S.h s.px s.py 2):=Bb dc_ dc_ q.px q.py;obtain ⟨ap,aq⟩:=Fw ao;obtain ⟨lo,v⟩:∃ n,loU s=n:=⟨_,rfl⟩;obtain ⟨up,w⟩:∃ n,upU s=n:=⟨_,rfl⟩;obtain ⟨p,x⟩:∃ p,lE S s=p:=⟨_,rfl⟩;obtain ⟨t,E⟩:∃ z,fa s.n2=z:=⟨_,rfl⟩;have aL:-5<t/\t<5:=by rw [<- E];unfold fa;split <;> omega
 rw [v] at am;rw [w] at an;have ae:0<(cC (S.kd % 8) S.a S.b S.h).length:=by rw [cC,al];exact yi _
 have aM:=lD (S.kd % 8) S.a S.b S.h;refine Ud func63 129 U3 fun w0=>TY fun R d=>Up U6 fun b3=>Up U6 fun y=>Uo U5 fun g=>TZ [2,3,4,6] d Z<|G.freeze 2 Z fun _ _ ai=>G.freeze 1 Z fun _ _ k=>TU 1 Z fun R d=>TV (bkT ai 4) U8<|UF (wH _ r.m_ S.kd S.a S.b S.h hk) U7 (fun aN _ _ U=>?_);obtain ⟨v1,v2,rfl,V,ar⟩:=id U.ex;obtain ⟨A1,c1,rfl,au,aO,_⟩:=id V;obtain ⟨A2,c2,rfl,_,_,_⟩:=id ar;simp only [al] at V au U ⊢;refine Uo U5 fun b7=>Uf (j:=0) U12<|TZ [2,3,4,6,7] d Z<|G.freeze 0 Z fun _ _ W=>G.cut (fun fr C' l m=>∃ (f:Nat),(True)/\fr=[(4,[],.pointer (some ⟨y,0,none⟩)),(6,[],.pointer (some ⟨g,0,none⟩)),(7,[],.pointer (some ⟨b7,0,none⟩)),(8,[],.pointer (some ⟨f,0,none⟩))]/\l=[.obj f (.cells ⟨[.int .i64 (1+((s.kind % 3:Nat):Int)),ah [111,UInt8.ofNat (49+i)],ah (qtx (dz S.a S.b S.h s.px s.py 2).1),ah (qtx (dz S.a S.b S.h s.px s.py 2).2),ah [],ah [],ah [],ah [],ah [],ah []]⟩ 62 (0,0)),.obj g (.cells ⟨[.int .i64 0,ah [],ah [],ah [],ah [],ah [],ah [],ah [],ah [],ah []]⟩ 62 (0,0))]) ?_ (fun fr aP aQ m aR o=>?_)
 ·refine UP (.cut [0,1,2,3,4,5,6,7,10,11,12,13,14] (.alt 8 (.cut [] (.alt 9 (.fin [15,16,17]) (.alt 16 (.fin [9,15,17]) .stop))) (.alt 16 (.fin [8,9,15,17]) .stop))) [(14,1),(3,0),(6,0)] Z Z kr_ fun R F d I=>TX U6<|TV (bkT k 1) U8<|UU (s.kind) (3) U6 om_ U2<|Vb (c:=((s.kind % 3:Nat):Int)) U8 (wrap_i64 om_ om_) U2<|Ue _ U7<|TX U6<|Vb (c:=(i:Int)) U8 (wrap_u8 om_ om_) U2<|D.int ((49+(i:Int))) U4 (wrap_u8 om_ om_) U2<|TX U6<|TV (bkT ai 4) U8<|TX U6<|TV (bkT k 2) U8<|Us (fun _=>(Bc _ r.m_ S.kd S.a S.b S.h s.px s.py 2 dc_ dc_ q.px q.py)) U9<|UE I Z ⟨?_, ?_,trivial⟩
  ·refine Uq [[.int .u8 111],[.int .u8 (49+(i:Int))]] U12 fun av ax _ J=>UE I Z ⟨?_, ?_,trivial⟩
   ·exact Vx (show Sl _ 1 _ (([111,UInt8.ofNat (49+i)]:Str).map fun b=>[.int .u8 b.toNat]) from by rw [<- mU i T];exact J.mono mup) U11 fl_<|Un [.int .i64 (1+((s.kind % 3:Nat):Int)),ah [111,UInt8.ofNat (49+i)],ah (qtx (dz S.a S.b S.h s.px s.py 2).1),ah (qtx (dz S.a S.b S.h s.px s.py 2).2),ah [],ah [],ah [],ah [],ah [],ah []] U8<|Uo U5 fun f=>Uf (j:=0) U12<|TZ [4,6,7,8] d Z<|Uj 0 mup (hn_ [4,6,7,8] Z) ⟨f,trivial,Z,Z⟩
   exact Uo U5 fun f=>Vx (show Sl _ 1 _ (([111,UInt8.ofNat (49+i)]:Str).map fun b=>[.int .u8 b.toNat]) from by rw [<- mU i T];exact J.mono mup) U11 fl_<|Un [.int .i64 (1+((s.kind % 3:Nat):Int)),ah [111,UInt8.ofNat (49+i)],ah (qtx (dz S.a S.b S.h s.px s.py 2).1),ah (qtx (dz S.a S.b S.h s.px s.py 2).2),ah [],ah [],ah [],ah [],ah [],ah []] U8<|Uf (j:=0) U12<|TZ [4,6,7,8] d Z<|Uj 0 mup (hn_ [4,6,7,8] Z) ⟨f,trivial,Z,Z⟩
  exact Uo U5 fun f=>Uq [[.int .u8 111],[.int .u8 (49+(i:Int))]] U12 fun av ax _ J=>Vx (show Sl _ 1 _ (([111,UInt8.ofNat (49+i)]:Str).map fun b=>[.int .u8 b.toNat]) from by rw [<- mU i T];exact J.mono mup) U11 fl_<|Un [.int .i64 (1+((s.kind % 3:Nat):Int)),ah [111,UInt8.ofNat (49+i)],ah (qtx (dz S.a S.b S.h s.px s.py 2).1),ah (qtx (dz S.a S.b S.h s.px s.py 2).2),ah [],ah [],ah [],ah [],ah [],ah []] U8<|Uf (j:=0) U12<|TZ [4,6,7,8] d Z<|Uj 0 mup (hn_ [4,6,7,8] Z) ⟨f,trivial,Z,Z⟩
 obtain ⟨f,_,rfl,rfl⟩:=o;refine TY fun R d=>TV (bkT W 2) U8<|TX U6<|Uc af U9<|Uh (qw _ r.m_ _ _ _ (dz S.a S.b S.h s.px s.py 2) U.m_ hG ap aq) U7<|C4 5 [4,6,7,8,9] d Z<|TT 2 [4,6,7,8,42] Z<|G.cut (fun fr C' l m=>(True)/\fr=[(4,[],.pointer (some ⟨y,0,none⟩)),(6,[],.pointer (some ⟨g,0,none⟩)),(8,[],.pointer (some ⟨f,0,none⟩))]/\l=[.obj f (.cells ⟨[.int .i64 (1+((s.kind % 3:Nat):Int)),ah [111,UInt8.ofNat (49+i)],ah (qtx p.1),ah (qtx p.2),ah [],ah [],ah [],ah [],ah [],ah []]⟩ 62 (0,0)),.obj g (.cells ⟨[.int .i64 0,ah [],ah [],ah [],ah [],ah [],ah [],ah [],ah [],ah []]⟩ 62 (0,0))]) ?_ (fun fr _ aS m _ o=>?_)
 ·refine TW (fun X=>?_) fun X=>?_
  ·have ay:lM (cC (S.kd % 8) S.a S.b S.h) (shT (S.kd % 8)) (dz S.a S.b S.h s.px s.py 2)=[]:=by simpa using X
   have ak:s.depth % (cC (S.kd % 8) S.a S.b S.h).length<(cC (S.kd % 8) S.a S.b S.h).length:=QV _ ae;have Y:p=(cC (S.kd % 8) S.a S.b S.h)[s.depth % (cC (S.kd % 8) S.a S.b S.h).length]:=by
    rw [<- x,lE,az (by rw [ay];simp),aw,aj ak,Rr]
   have hp:(cC (S.kd % 8) S.a S.b S.h)[s.depth % (cC (S.kd % 8) S.a S.b S.h).length]?=some p:=by rw [Y];exact aj ak
   refine Ur [0,1,2,3,4,5,6,7,8,9,10,11,12] [(4,0)] Z kr_ fun R F d=>TX U6<|TV (bkT W 1) U8<|TX U6<|TV (bkT k 1) U8<|Vb (c:=(s.depth:Int)) U8 (wrap_i64 om_ om_) U2<|TX U6<|TV (bkT W 1) U8<|TX U6<|UU (s.depth) ((cC (S.kd % 8) S.a S.b S.h).length) U6 ae U2<|Ul V.m_ U10 om_ (bX hp) fl_ fun aT aA=>TV aA U8<|TX U6<|Uf (j:=0) U12<|TZ [4,6,8] d Z<|Uj 0 (Mem.le.refl _) (hn_ [4,6,8] Z) ⟨trivial,Z,Z⟩
  have aB:lM (cC (S.kd % 8) S.a S.b S.h) (shT (S.kd % 8)) (dz S.a S.b S.h s.px s.py 2)≠[]:=by simpa using X
  have Y:p=dz S.a S.b S.h s.px s.py 2:=by rw [<- x,lE,aU aB]
  subst Y;refine Uj 0 (Mem.le.refl _) (hn_ [4,6,8] Z) ⟨trivial,Z,Z⟩
 obtain ⟨_,rfl,rfl⟩:=o;refine TY fun R d=>Un ([ah [65],ah [66],ah [67]]) U8<|Uo U5 fun aC=>Uf (j:=0) U12<|TZ [4,6,8,11] d Z<|G.freeze 0 Z fun _ _ K=>Ur [0,1,2,3,4,5,6,7,8,9,10,11] [(4,0),(9,0)] Z kr_ fun R F d=>TX U6<|Ut (3) U9 ag U2<|TV (bkT k 1) U8<|UU (s.u0) (3) U6 om_ U2<|Vb (c:=((s.u0 % 3:Nat):Int)) U8 (wrap_i64 om_ om_) U2<|TX U6<|Ut (4) U9 ag U2<|TV (bkT k 1) U8<|UU (s.u1) (3) U6 om_ U2<|Vb (c:=((s.u1 % 3:Nat):Int)) U8 (wrap_i64 om_ om_) U2<|C4 2 [4,6,8,11,12,13] d Z<|TU 1 Z fun R d=>Uc af U9<|C4 1 [4,6,8,11,12,13,68] d Z<|TW (fun L=>?_) fun L=>?_
 ·have A:s.kind % 3=0:=by
   have:=dS L;omega
  refine TU 1 Z fun R d=>Ut ((s.u1 % 3)) U9 (fun _=>⟨by omega,by omega,(by show s.u1 % 3=0+(s.u1 % 3)*1;omega)⟩) U2<|Vk (PtrTo.blockT (Mem.get K mup) (s.u1 % 3) 1) U6 (show cD _ ((([ah [65],ah [66],ah [67]]:List Value).drop (s.u1 % 3)).take 1)=some (ah (ri (s.u1 % 3))) from by rw [By _ om_];rfl) Z<|TX U6<|Uf (j:=0) U12<|TZ [6,8] d Z<|TY fun R d=>Uc af U9<|Uf (j:=1) U12<|TZ [6] d Z<|Ui (UN af U4 ?_);exact ⟨Z,by unfold fE;rw [aU A,x,A];rfl⟩
 have A:¬ s.kind % 3=0:=by
  intro e;rw [e] at L;exact absurd L dc_
 refine TT 3 [4,6,8,11,12,13,76] Z<|G.cut (fun fr C' l m=>(True)/\fr=[(4,[],.pointer (some ⟨y,0,none⟩)),(6,[],.pointer (some ⟨g,0,none⟩)),(8,[],.pointer (some ⟨f,0,none⟩)),(11,[],.pointer (some ⟨aC,0,none⟩)),(12,[],.int .i64 (lo:Nat)),(13,[],.int .i64 (up:Nat))]/\l=[.obj f (.cells ⟨[.int .i64 (1+((s.kind % 3:Nat):Int)),ah [111,UInt8.ofNat (49+i)],ah (qtx p.1),ah (qtx p.2),ah [],ah [],ah [],ah [],ah [],ah []]⟩ 62 (0,0)),.obj g (.cells ⟨[.int .i64 0,ah [],ah [],ah [],ah [],ah [],ah [],ah [],ah [],ah []]⟩ 62 (0,0))]) ?_ (fun fr _ aV m _ o=>?_)
 ·refine TW (fun M=>?_) fun M=>?_
  ·have B:s.u0 % 3=s.u1 % 3:=by
    have:=dS M;omega
   have aa:lo=0:=by rw [<- v,loU,aU B]
   have ab:up=1+s.u1 % 3 % 2:=by rw [<- w,upU,aU B]
   subst aa;subst ab;refine TU 1 Z fun R d=>UU ((s.u1 % 3)) (2) U6 om_ U2<|Ue _ U7<|C4 2 [4,6,8,11,12,13] d Z<|Uj 0 (Mem.le.refl _) (hn_ [4,6,8,11,12,13] Z) ⟨trivial,Z,Z⟩
  have B:¬ s.u0 % 3=s.u1 % 3:=by
   intro e;rw [e,beq_self_eq_true] at M;exact absurd M dc_
  have aa:lo=s.u0 % 3:=by rw [<- v,loU,az B]
  have ab:up=s.u1 % 3:=by rw [<- w,upU,az B]
  subst aa;subst ab;refine Uj 0 (Mem.le.refl _) (hn_ [4,6,8,11,12,13] Z) ⟨trivial,Z,Z⟩
 obtain ⟨_,rfl,rfl⟩:=o;refine G.cut (fun fr C' l m=>(True)/\fr=[(4,[],.pointer (some ⟨y,0,none⟩)),(6,[],.pointer (some ⟨g,0,none⟩)),(8,[],.pointer (some ⟨f,0,none⟩))]/\l=[.obj f (.cells ⟨[.int .i64 (1+((s.kind % 3:Nat):Int)),ah [111,UInt8.ofNat (49+i)],ah (qtx p.1),ah (qtx p.2),ah [],ah (ri (max lo up)),ah (ri (min lo up)),ah [],ah [],ah []]⟩ 62 (0,0)),.obj g (.cells ⟨[.int .i64 0,ah [],ah [],ah [],ah [],ah [],ah [],ah [],ah [],ah []]⟩ 62 (0,0))]) ?_ (fun fr aW aX m aY o=>?_)
 ·refine UP (.cut [0,1,2,3,4,5,6,7,8,10] (.alt 9 (.fin [11,12,13]) (.alt 11 (.fin [9,12,13]) .stop))) [] Z Z kr_ fun R F d I=>Ua 2 Z<|D.max (((max lo up:Nat):Int)) U6 om_ U2<|Ut ((max lo up)) U9 (fun _=>⟨by omega,by omega,(by show max lo up=0+(max lo up)*1;omega)⟩) U2<|Vk (PtrTo.blockT (Mem.get K mup) (max lo up) 1) U6 (show cD _ ((([ah [65],ah [66],ah [67]]:List Value).drop (max lo up)).take 1)=some (ah (ri (max lo up))) from by rw [By _ om_];rfl) Z<|Ua 2 Z<|D.min (((min lo up:Nat):Int)) Z Z Z Z Z Z om_ Z Z<|Ut ((min lo up)) U9 (fun _=>⟨by omega,by omega,(by show min lo up=0+(min lo up)*1;omega)⟩) U2<|TX U6<|UE I Z ⟨?_, ?_,trivial⟩
  ·exact Vk (PtrTo.blockT (Mem.get K mup) (min lo up) 1) U6 (show cD _ ((([ah [65],ah [66],ah [67]]:List Value).drop (min lo up)).take 1)=some (ah (ri (min lo up))) from by rw [By _ om_];rfl) Z<|Uf (j:=0) U12<|TX U6<|Uf (j:=0) U12<|TZ [4,6,8] d Z<|Uj 0 mup (hn_ [4,6,8] Z) ⟨trivial,Z,Z⟩
  exact Uf (j:=0) U12<|Vk (PtrTo.blockT (Mem.get K mup) (min lo up) 1) U6 (show cD _ ((([ah [65],ah [66],ah [67]]:List Value).drop (min lo up)).take 1)=some (ah (ri (min lo up))) from by rw [By _ om_];rfl) Z<|TX U6<|Uf (j:=0) U12<|TZ [4,6,8] d Z<|Uj 0 mup (hn_ [4,6,8] Z) ⟨trivial,Z,Z⟩
 obtain ⟨_,rfl,rfl⟩:=o;refine TU 1 Z fun R d=>Uc af U9<|C4 1 [4,6,8,94] d Z<|TW (fun N=>?_) fun N=>?_
 ·have O:s.kind % 3=1:=by
   have:=dS N;omega
  refine TU 1 Z fun R d=>TV (bkT k 1) U8<|UU (s.depth) (12) U6 om_ U2<|UJ (c:=((s.depth % 12:Nat):Int)) U8 (wrap_i64 om_ om_) fl_<|Uk (Fh _ r.m_ ((s.depth % 12:Nat):Int) 2 om_ om_ om_) U7 fl_<|Ua 4 Z<|Uf (j:=0) U12<|TZ [6,8] d Z<|TY fun R d=>Uc af U9<|Uf (j:=1) U12<|TZ [6] d Z<|Ui (UN af U4 ?_);exact ⟨Z,by unfold fE;rw [az A,aU O,x,v,w,O];rfl⟩
 have O:¬ s.kind % 3=1:=by
  intro e;rw [e] at N;exact absurd N dc_
 have aD:s.kind % 3=2:=by omega
 refine TU 1 Z fun R d=>Ut (8) U9 ag U2<|TV (bkT k 1) U8<|U1 (s.n2.tmod 5) U6 dc_ U3<|UJ (c:=(s.n2.tmod 5)) U8 (wrap_i64 om_ om_) fl_<|C4 1 [4,6,8,14] d Z<|TT 2 [4,6,8,14,111] Z<|G.cut (fun fr C' l m=>(True)/\fr=[(4,[],.pointer (some ⟨y,0,none⟩)),(6,[],.pointer (some ⟨g,0,none⟩)),(8,[],.pointer (some ⟨f,0,none⟩)),(14,[],.int .i64 t)]/\l=[.obj f (.cells ⟨[.int .i64 (1+((s.kind % 3:Nat):Int)),ah [111,UInt8.ofNat (49+i)],ah (qtx p.1),ah (qtx p.2),ah [],ah (ri (max lo up)),ah (ri (min lo up)),ah [],ah [],ah []]⟩ 62 (0,0)),.obj g (.cells ⟨[.int .i64 0,ah [],ah [],ah [],ah [],ah [],ah [],ah [],ah [],ah []]⟩ 62 (0,0))]) ?_ (fun fr _ aZ m _ o=>?_)
 ·refine TW (fun Q=>?_) fun Q=>?_
  ·have ac:s.n2.tmod 5=0:=dS Q;have ad:t=1:=by rw [<- E,fa,aU ac]
   subst ad;refine TT 1 [4,6,8,14] Z<|Uj 0 (Mem.le.refl _) (hn_ [4,6,8,14] Z) ⟨trivial,Z,Z⟩
  have ac:¬ s.n2.tmod 5=0:=by
   intro e;rw [e] at Q;exact absurd Q dc_
  have ad:t=s.n2.tmod 5:=by rw [<- E,fa,az ac]
  subst ad;refine Uj 0 (Mem.le.refl _) (hn_ [4,6,8,14] Z) ⟨trivial,Z,Z⟩
 obtain ⟨_,rfl,rfl⟩:=o;refine Ur [0,1,2,3,4,5,6,7,8,9,10,11,12,13,14,15,16] [(5,1),(11,1),(13,1),(4,0),(10,0)] Z kr_ fun R F d=>TX U6<|Ut (6) U9 ag U2<|TV (bkT k 1) U8<|U1 (s.n0.tmod 5) U6 dc_ U3<|Vb (c:=(s.n0.tmod 5)) U8 (wrap_i64 om_ om_) U2<|Us (fun _=>(ld _ r.m_ (s.n0.tmod 5) om_)) U9<|TX U6<|Ut (7) U9 ag U2<|TV (bkT k 1) U8<|U1 (s.n1.tmod 5) U6 dc_ U3<|Vb (c:=(s.n1.tmod 5)) U8 (wrap_i64 om_ om_) U2<|Us (fun _=>(ld _ r.m_ (s.n1.tmod 5) om_)) U9<|TX U6<|Us (fun _=>(ld _ r.m_ t om_)) U9<|Un [ah (qtx ((s.n0.tmod 5:Int):Rat)),ah (qtx ((s.n1.tmod 5:Int):Rat)),ah (qtx ((t:Int):Rat))] U8<|TX U6<|Uf (j:=0) U12<|TZ [6,8] d Z<|TY fun R d=>Uc af U9<|Uf (j:=1) U12<|TZ [6] d Z<|Ui (UN af U4 ?_);exact ⟨Z,by unfold fE;rw [az A,az O,x,v,w,E,aD];rfl⟩
def Dk:Sgt:=⟨0,0,0,0,0,0,0,0,0⟩
def colK:List Lay:=[⟨[65],0,none⟩,⟨[66],0,some 5⟩,⟨[67],1,none⟩]
theorem Ja:qtx 5=[53]:=by
 show qtx ((5:Int):Rat)=_;rw [mQ];decide +kernel
theorem Kv:colK.map yS=[[ah [65],ah [48],ah []],[ah [66],ah [48],ah [53]],[ah [67],ah [49],ah []]]:=by
 simp only [colK,List.map,yS,vn,qtx_zero,dx,Ja]
def qQ (S:Sht)(l:List Sgt):List Obs:=(List.range (min l.length 6)).map fun i=>fE S (l.getD i Dk) i
def cm (S:Sht)(H:Hts)(l:List Sgt):Bk:=⟨cC (S.kd % 8) S.a S.b S.h,shT (S.kd % 8),(fsK (cC (S.kd % 8) S.a S.b S.h).length H).map qtx,colK,qQ S l⟩
theorem jF (S:Sht)(l:List Sgt):(qQ S l).length=min l.length 6:=by simp [qQ]
theorem F6 (S:Sht){l:List Sgt}{s:Sgt}(h:l[i]?=some s)(a:i<6):(qQ S l)[i]?=some (fE S s i):=by
 have h1:=(aF.1 h).1;rw [qQ,Qg,QR om_];show some (fE S (l.getD i Dk) i)=_;rw [aw,h];rfl
theorem Gj (C:Mem)(q:Tabs C)(S:Sht)(H:Hts)(U:Value)(l:List Sgt)(V:S.kd<256)(A:Py H)(L:Sl C 9 U (l.map NW))(hs:∀ s∈l,SgtR s)(hG:Good (cC (S.kd % 8) S.a S.b S.h) (shT (S.kd % 8))) :
  Pur cx.P 34 [.agg ⟨MI S H U⟩] C fun u D=>BookIn D u (cm S H l):=by
 obtain ⟨As,cs,rfl,ag,au,_⟩:=id L;have av:maxLen<=9223372036854775807:=by simp [maxLen]
 simp only [al] at L ag ⊢;have aw:=lD (S.kd % 8) S.a S.b S.h;refine Ud func34 44 U3 fun w0=>?_;refine TY fun R f=>?_;refine Up U6 (fun W=>?_);refine Uo U5 (fun v=>?_);refine TZ [1,2] f Z ?_;refine G.freeze 1 Z (fun _ _ B=>?_);refine TU 1 Z fun R f=>?_;refine TV (bkT B 4) U8 ?_;refine UF (wH _ q.m_ S.kd S.a S.b S.h V) U7 (fun v8 _ _ X=>?_);obtain ⟨v1,v2,rfl,M,N⟩:=id X.ex;obtain ⟨k,n,rfl,ai,ay,_⟩:=id M;obtain ⟨A2,c2,rfl,_,_,_⟩:=id N;simp only [al] at M N ai X ⊢;refine Uo U5 (fun b3=>?_);refine Uf (j:=0) U12 ?_;refine TZ [1,2,3] f Z ?_;refine G.freeze 0 Z (fun _ _ Y=>?_);refine G.cut (fun fr C' E O=>∃ (c:Option Addr)(d:Nat)(x:Value)(g:Nat),(Sl C' 1 (.slice c (fsK (cC (S.kd % 8) S.a S.b S.h).length H).length d) ((fsK (cC (S.kd % 8) S.a S.b S.h).length H).map fe)/\Sl C' 3 x [[ah [65],ah [48],ah []],[ah [66],ah [48],ah [53]],[ah [67],ah [49],ah []]])/\fr=[(1,[],.pointer (some ⟨W,0,none⟩)),(2,[],.pointer (some ⟨v,0,none⟩)),(4,[],.pointer (some ⟨g,0,none⟩))]/\E=[.obj g (.cells ⟨[.slice k (cC (S.kd % 8) S.a S.b S.h).length n,.slice A2 (shT (S.kd % 8)).length c2,.slice c (fsK (cC (S.kd % 8) S.a S.b S.h).length H).length d,x,.slice none 0 0]⟩ 42 (0,0)),.obj v (.cells ⟨[.slice none 0 0,.slice none 0 0,.slice none 0 0,.slice none 0 0,.slice none 0 0]⟩ 42 (0,0))]) ?_ (fun fr az aA O aB Q=>?_)
 ·refine UP (.cut [0,1,2,3,5,6,7] (.alt 4 (.cut [] (.alt 8 (.fin [9,10,11]) (.alt 10 (.fin [8,9,11]) .stop))) (.alt 8 (.cut [] (.alt 4 (.fin [9,10,11]) (.alt 10 (.fin [4,9,11]) .stop))) (.alt 10 (.cut [] (.alt 4 (.fin [8,9,11]) (.alt 8 (.fin [4,9,11]) .stop))) .stop)))) [] Z Z kr_ (fun R hB f F=>?_);refine TV (bkT Y 2) U8 ?_;refine TV (bkT Y 2) U8 ?_;refine TX U6 ?_;refine TV (bkT B 7) U8 ?_;refine Un ([ah [65],ah [48],ah []]) U8 ?_;refine Un ([ah [66],ah [48],ah [53]]) U8 ?_;refine Un ([ah [67],ah [49],ah []]) U8 ?_;refine UE F Z ⟨?_, ?_, ?_,trivial⟩
  ·refine Uz (jb _ q.m_ _ _ (cC (S.kd % 8) S.a S.b S.h).length k n H Z om_ A) U7 fl_ (fun I J _ e=>?_);refine UE F Z ⟨?_, ?_,trivial⟩
   ·refine UH [[ah [65],ah [48],ah []],[ah [66],ah [48],ah [53]],[ah [67],ah [49],ah []]] U12 fl_ (fun o K _ p=>?_);obtain ⟨c,d,rfl,_,_,_⟩:=id e;simp only [al] at e ⊢;refine Un [.slice k (cC (S.kd % 8) S.a S.b S.h).length n,.slice A2 (shT (S.kd % 8)).length c2,.slice c (fsK (cC (S.kd % 8) S.a S.b S.h).length H).length d,.slice (some ⟨o,0,none⟩) 3 3,.slice none 0 0] U8 ?_;refine Uo U5 (fun g=>?_);refine Uf (j:=0) U12 ?_;refine TZ [1,2,4] f Z ?_;exact Uj 0 mup (hn_ [1,2,4] Z) ⟨c,d,_,g,⟨e.mono mup,p.mono mup⟩,Z,Z⟩
   refine Uo U5 (fun g=>?_);refine UH [[ah [65],ah [48],ah []],[ah [66],ah [48],ah [53]],[ah [67],ah [49],ah []]] U12 fl_ (fun o K _ p=>?_);obtain ⟨c,d,rfl,_,_,_⟩:=id e;simp only [al] at e ⊢;refine Un [.slice k (cC (S.kd % 8) S.a S.b S.h).length n,.slice A2 (shT (S.kd % 8)).length c2,.slice c (fsK (cC (S.kd % 8) S.a S.b S.h).length H).length d,.slice (some ⟨o,0,none⟩) 3 3,.slice none 0 0] U8 ?_;refine Uf (j:=0) U12 ?_;refine TZ [1,2,4] f Z ?_;exact Uj 0 mup (hn_ [1,2,4] Z) ⟨c,d,_,g,⟨e.mono mup,p.mono mup⟩,Z,Z⟩
  ·refine UH [[ah [65],ah [48],ah []],[ah [66],ah [48],ah [53]],[ah [67],ah [49],ah []]] U12 fl_ (fun o K _ p=>?_);refine UE F Z ⟨?_, ?_,trivial⟩
   ·refine Uz (jb _ q.m_ _ _ (cC (S.kd % 8) S.a S.b S.h).length k n H Z om_ A) U7 fl_ (fun I J _ e=>?_);obtain ⟨c,d,rfl,_,_,_⟩:=id e;simp only [al] at e ⊢;refine Un [.slice k (cC (S.kd % 8) S.a S.b S.h).length n,.slice A2 (shT (S.kd % 8)).length c2,.slice c (fsK (cC (S.kd % 8) S.a S.b S.h).length H).length d,.slice (some ⟨o,0,none⟩) 3 3,.slice none 0 0] U8 ?_;refine Uo U5 (fun g=>?_);refine Uf (j:=0) U12 ?_;refine TZ [1,2,4] f Z ?_;exact Uj 0 mup (hn_ [1,2,4] Z) ⟨c,d,_,g,⟨e.mono mup,p.mono mup⟩,Z,Z⟩
   refine Uo U5 (fun g=>?_);refine Uz (jb _ q.m_ _ _ (cC (S.kd % 8) S.a S.b S.h).length k n H Z om_ A) U7 fl_ (fun I J _ e=>?_);obtain ⟨c,d,rfl,_,_,_⟩:=id e;simp only [al] at e ⊢;refine Un [.slice k (cC (S.kd % 8) S.a S.b S.h).length n,.slice A2 (shT (S.kd % 8)).length c2,.slice c (fsK (cC (S.kd % 8) S.a S.b S.h).length H).length d,.slice (some ⟨o,0,none⟩) 3 3,.slice none 0 0] U8 ?_;refine Uf (j:=0) U12 ?_;refine TZ [1,2,4] f Z ?_;exact Uj 0 mup (hn_ [1,2,4] Z) ⟨c,d,_,g,⟨e.mono mup,p.mono mup⟩,Z,Z⟩
  refine Uo U5 (fun g=>?_);refine UE F Z ⟨?_, ?_,trivial⟩
  ·refine Uz (jb _ q.m_ _ _ (cC (S.kd % 8) S.a S.b S.h).length k n H Z om_ A) U7 fl_ (fun I J _ e=>?_);refine UH [[ah [65],ah [48],ah []],[ah [66],ah [48],ah [53]],[ah [67],ah [49],ah []]] U12 fl_ (fun o K _ p=>?_);obtain ⟨c,d,rfl,_,_,_⟩:=id e;simp only [al] at e ⊢;refine Un [.slice k (cC (S.kd % 8) S.a S.b S.h).length n,.slice A2 (shT (S.kd % 8)).length c2,.slice c (fsK (cC (S.kd % 8) S.a S.b S.h).length H).length d,.slice (some ⟨o,0,none⟩) 3 3,.slice none 0 0] U8 ?_;refine Uf (j:=0) U12 ?_;refine TZ [1,2,4] f Z ?_;exact Uj 0 mup (hn_ [1,2,4] Z) ⟨c,d,_,g,⟨e.mono mup,p.mono mup⟩,Z,Z⟩
  refine UH [[ah [65],ah [48],ah []],[ah [66],ah [48],ah [53]],[ah [67],ah [49],ah []]] U12 fl_ (fun o K _ p=>?_);refine Uz (jb _ q.m_ _ _ (cC (S.kd % 8) S.a S.b S.h).length k n H Z om_ A) U7 fl_ (fun I J _ e=>?_);obtain ⟨c,d,rfl,_,_,_⟩:=id e;simp only [al] at e ⊢;refine Un [.slice k (cC (S.kd % 8) S.a S.b S.h).length n,.slice A2 (shT (S.kd % 8)).length c2,.slice c (fsK (cC (S.kd % 8) S.a S.b S.h).length H).length d,.slice (some ⟨o,0,none⟩) 3 3,.slice none 0 0] U8 ?_;refine Uf (j:=0) U12 ?_;refine TZ [1,2,4] f Z ?_;exact Uj 0 mup (hn_ [1,2,4] Z) ⟨c,d,_,g,⟨e.mono mup,p.mono mup⟩,Z,Z⟩
 obtain ⟨c,d,x,g,⟨ak,aa⟩,rfl,rfl⟩:=Q;refine TT 1 [1,2,4,5] Z ?_;refine G.nilArr 62 10 ?_;refine G.perm (L':=[.obj g (.cells ⟨[.slice k (cC (S.kd % 8) S.a S.b S.h).length n,.slice A2 (shT (S.kd % 8)).length c2,.slice c (fsK (cC (S.kd % 8) S.a S.b S.h).length H).length d,x,.slice none 0 0]⟩ 42 (0,0)),.arr (.slice none 0 0) 62 10 0 [],.obj v (.cells ⟨[.slice none 0 0,.slice none 0 0,.slice none 0 0,.slice none 0 0,.slice none 0 0]⟩ 42 (0,0))]) (List.Perm.swap _ _ _) ?_;refine G.loop (fun fr C' E O=>∃ (i:Nat)(w:Value),(i<=l.length/\i<=6)/\fr=[(1,[],.pointer (some ⟨W,0,none⟩)),(2,[],.pointer (some ⟨v,0,none⟩)),(4,[],.pointer (some ⟨g,0,none⟩)),(5,[],.int .i64 i)]/\E=[.obj g (.cells ⟨[.slice k (cC (S.kd % 8) S.a S.b S.h).length n,.slice A2 (shT (S.kd % 8)).length c2,.slice c (fsK (cC (S.kd % 8) S.a S.b S.h).length H).length d,x,w]⟩ 42 (0,0)),.arr w 62 10 ((qQ S l).take i).length (((qQ S l).take i).map Ia).flatten,.obj v (.cells ⟨[.slice none 0 0,.slice none 0 0,.slice none 0 0,.slice none 0 0,.slice none 0 0]⟩ 42 (0,0))]/\O=6-i) (hn_ [1,2,4,5] Z) ⟨0,.slice none 0 0,⟨Qf _,Qf _⟩,Z,Z,Z⟩ (fun fr aC aD m _ Q=>?_);obtain ⟨i,w,⟨hi,aE⟩,rfl,rfl,rfl⟩:=Q;refine TU 2 Z fun R f=>?_;refine TV (bkT B 1) U8 ?_;refine Ua 5 Z ?_;refine Uu U8 ?_;refine TZ [1,2,4,5,27] f Z ?_;refine TW (fun t=>?_) fun t=>?_
 ·have z:i<l.length/\i<6:=by
   by_cases h1:((i:Nat):Int)<(l.length:Nat)
   ·rw [Qr h1] at t;have h2:=aJ t;omega
   rw [QC h1] at t;exact absurd t am
  obtain ⟨s,T⟩:∃ s,l[i]?=some s:=⟨l[i]'z.1,aj z.1⟩;have an:(qQ S l).take (i+1)=(qQ S l).take i++[fE S s i]:=by rw [QF,F6 S T z.2];rfl
  have aF:((qQ S l).take i).length<=6:=by rw [Qq,jF];omega
  refine Ur [0,1,2,3,4,5,6,7,8,9,10,11,12,13] [] Z kr_ (fun R hB f=>?_);refine TX U6 ?_;refine Uc af U9 ?_;refine TV (bkT B 12) U8 ?_;refine TX U6 ?_;refine TV (bkT B 1) U8 ?_;refine TX U6 ?_;refine Ul L.m_ U10 om_ (bX T) fl_ (fun aG ao=>?_);refine TV ao U8 ?_;refine TX U6 ?_;refine UF (re _ q.m_ S s H _ i z.2 V (hs s (Qc T)) hG) U7 (fun aH _ _ ap=>?_);subst ap;refine Uq [Ia (fE S s i)] U12 (fun aK _ _ aq=>?_);refine Uy (j:=1) U11 aq.m_ Z ax (by simp only [aI];omega) fl_ (fun ab ac ad=>?_);refine TX U6 ?_;refine Uf (j:=1) U12 ?_;refine TZ [1,2,4,5] f Z ?_;refine TU 1 Z fun R f=>?_;refine Ue _ U7 ?_;refine C4 1 [1,2,4,5] f Z ?_;refine Um (L':=[.obj g (.cells ⟨[.slice k (cC (S.kd % 8) S.a S.b S.h).length n,.slice A2 (shT (S.kd % 8)).length c2,.slice c (fsK (cC (S.kd % 8) S.a S.b S.h).length H).length d,x,.slice ab ac ad]⟩ 42 (0,0)),.arr (.slice ab ac ad) 62 10 ((qQ S l).take (i+1)).length (((qQ S l).take (i+1)).map Ia).flatten,.obj v (.cells ⟨[.slice none 0 0,.slice none 0 0,.slice none 0 0,.slice none 0 0,.slice none 0 0]⟩ 42 (0,0))]) (by rw [an,QS,QW,Qi];rfl) ?_;refine Ug (m':=6-(i+1)) om_ mup (hn_ [1,2,4,5] Z) ⟨i+1,_,⟨by omega,by omega⟩,Z,Z,Z⟩
 have z:i=min l.length 6:=by
  by_cases h1:((i:Nat):Int)<(l.length:Nat)
  ·rw [Qr h1] at t;have h2:=Qe t;omega
  omega
 have ar:(qQ S l).take i=qQ S l:=QE (by rw [z,jF];exact Qb _);rw [ar];refine G.freezeArr 1 ((qQ S l).map Ia) rfl rfl (by intro r hr;obtain ⟨y,_,rfl⟩:=Qk.1 hr;rfl) (by rw [al]) (fun Cg hg ae=>?_);obtain ⟨Aw,cw,rfl,_⟩:=id ae;obtain ⟨Ap,cp,rfl,_⟩:=id aa;refine TY fun R f=>?_;refine Uc af U9 ?_;refine Uf (j:=1) U12 ?_;refine TZ [2] f Z ?_;refine Ui (UN af U4 ?_);exact ⟨Z,_,_,_,_,_,Z,M.mono mup,N.mono mup,(by rw [cm,<- yR];exact ak.mono mup),(by rw [cm,Kv];exact aa.mono mup),ae⟩
instance:DecidableEq RowQ:=fun a b=>decidable_of_iff (a.f=b.f/\a.b=b.b) (by cases a;cases b;simp)
end Go.Proofs.YthnpijdjlddpmaaGreatDoor
