/- Laws that the proofs of this seat share, part 10. -/
import Derived.Test.YthnpijdjlddpmaaGreatDoorG9
import Derived.Test.YthnpijdjlddpmaaGreatDoorShelf
set_option maxHeartbeats 4000000
namespace Go.Proofs.YthnpijdjlddpmaaGreatDoor
open Go.Proofs.Tryz
open Go Go.Jog
set_option maxRecDepth 100000
variable {B:Bk}{C:Mem}{RO:Nat->List RowQ}{err:Nat->Int}{fs:List Rat}{i:Nat}{n:Int}{o:Obs}{p:Pt}{r:RowQ}{t:Tri}{v:Value}{vs:List Value}{z:Rat}
theorem qH (C:Mem)(v:Value)(l:List Rat)(b:Sl C 1 v (l.map fh))(t:l.length<=1000000):Jog.Fn cx.P 173 [v] C [] fun u _w e=>∃ A n c,u=.slice A n c/\e=[.arr (.slice A n c) 56 1 l.length (l.map fh).flatten]:=by
 obtain ⟨f,c0,rfl,m,x,y,o⟩:=id b;have z:maxLen<=9223372036854775807:=by simp [maxLen]
 simp only [al] at b m ⊢;refine Uk func173 8 U3 fun w0=>Ua 1 [0] Z<|Ub 1 Z fun R d=>VP U9<|Ug [0,4] d Z<|Ud (fun h4=>?_) fun h4=>?_
 ·have p:f=none:=by
   cases f with
   | none=>rfl
   | some a=>cases h4
  have s:l=[]:=by
   cases l with
   | nil=>rfl
   | cons q r =>
    obtain ⟨a,g,_⟩:=o 0 (fh q) rfl;rw [p] at g;cases g
  refine Ua 1 [2] Z<|G.nilArr 56 1<|Up (UR Z Z ?_);exact ⟨none,0,0,Z,by rw [s];rfl⟩
 refine Uf fun R d=>Vi [] U12 fl_ fun B=>Ue U6<|UF (j:=0) U11 b.m_ (by simp [fh,mG,ah]) (by simp only [al,Qy,maxLen];omega) (by simp only [al,Qy];omega) fl_ fun h i k=>C4 1 [2] d Z<|Ut (L':=[.arr (.slice h i k) 56 1 l.length (l.map fh).flatten]) am<|Up (UR Z Z ?_);exact ⟨h,i,k,Z,Z⟩
def N4 (r:RowQ):Prop:=(∀ q∈r.f,QB 22 q)/\QB 22 r.b
theorem kJ {a:List RowQ}{w:Value}(c:vs[i]?=some w)(d:a[i]?=some r):(aT vs a)[i]?=some [w,ah (qtx r.b)]:=by
 unfold aT;rw [List.getElem?_zipWith,c,d]
theorem D4 (C:Mem)(hT:Tabs C)(v:Value)(a:List RowQ)(hv:RowsIn C v a)(e:∀ r∈a,N4 r)(ac:∀ r∈a,r.f.length<=1000)(ao:a.length<=100000) :
  Gives cx.P 200 [v] C (.tuple #[v,.int .i64 0]):=by
 obtain ⟨vs,z,A⟩:=hv;obtain ⟨l,c0,rfl,ad,ap,_⟩:=id A;have aq:maxLen<=9223372036854775807:=by simp [maxLen]
 simp only [dx z.1] at A ad ⊢;refine Uk func200 32 U3 fun w0=>Ua 2 [0] Z<|Ua 3 [0,8,9,10] Z<|G.loop (fun fr C' n o=>∃ (i:Nat),(i<=a.length)/\fr=[(0,[],.slice l a.length c0),(8,[],.slice l a.length c0),(9,[],.int .i64 a.length),(10,[],.int .i64 i)]/\n=[]/\o=a.length-i) (hn_ [0,8,9,10] Z) ⟨0,Qm _,Z,Z,Z⟩ (fun fr ar au m _ p=>?_);obtain ⟨i,hi,rfl,rfl,rfl⟩:=p;refine Ua 1 [0,8,9,10,11] Z<|Ud (fun H=>?_) fun H=>?_
 ·have I:i<a.length:=by simpa using H
  obtain ⟨r,B⟩:∃ r,a[i]?=some r:=⟨a[i],ak I⟩;obtain ⟨w,J⟩:∃ w,vs[i]?=some w:=⟨vs[i]'(by rw [z.1];exact I),ak _⟩;have K:=Qj B;obtain ⟨ae,af⟩:=e r K;have av:=ac r K;have ax:(r.f++[r.b]).length<=1001:=by simp;omega
  have x:=z.2 i w r J B;obtain ⟨Aw,cw,rfl,_⟩:=id x;refine Uf fun R c=>Ur A.m_ U10 om_ (kJ J B) fl_ fun ay ag=>Uc ag U8<|Uv U5 fun b5=>Um (j:=0) U12<|Ug [0,5,8,9,10] c Z<|G.freeze 0 Z fun _ _ E=>G.cut (fun fr C' n o=>∃ (g:Option Addr)(k:Nat),(Sl C' 1 (.slice g (r.f++[r.b]).length k) ((r.f++[r.b]).map fh))/\fr=[(0,[],.slice l a.length c0),(8,[],.slice l a.length c0),(9,[],.int .i64 a.length),(10,[],.int .i64 i),(20,[],.slice g (r.f++[r.b]).length k),(21,[],.int .i64 (r.f++[r.b]).length),(22,[],.int .i64 0)]/\n=[]) ?_ (fun fr az aA o aB p=>?_)
  ·refine UV (.cut [0,1,3,8] (.alt 2 (.fin [4,5,6,7]) (.alt 4 (.cut [] (.alt 2 (.fin [5,6,7]) (.alt 5 (.fin [2,6,7]) .stop))) .stop))) [(2,3)] Z Z kr_ fun R hB c L=>Ue U6<|Uc (bkT E 1) U8<|Uh 2 Z<|UK L Z ⟨?_, ?_,trivial⟩
   ·refine D.call (qH _ _ r.f x.m_ om_) Z (.inr dc_) U6 (Qo _) fl_ fun M N O _ s=>Uc (bkT E 1) U8<|Ux [fh r.b] U12 (fun Q S _ t=>?_);obtain ⟨T,U,cc,rfl,rfl⟩:=s;refine UF (j:=0) U11 t.m_ (by simp [fh,mG,ah]) aw (by simp only [aJ];omega) fl_ fun g V k=>C4 1 [0,8,9,10,20,21,22] c Z<|G.freezeArr 0 ((r.f++[r.b]).map fh) rfl am (by intro r e;obtain ⟨y,_,rfl⟩:=Qq.1 e;rfl) am (fun W X d=>?_);obtain ⟨Y,cz,u,_⟩:=id d;cases u
    simp only [al] at d ⊢;exact G.dropAll<|Uq 0 mup (hn_ [0,8,9,10,20,21,22] Z) ⟨_,_,d,Z,Z⟩
   refine Uc (bkT E 1) U8<|UK L Z ⟨?_, ?_,trivial⟩
   ·refine D.call (qH _ _ r.f x.m_ om_) Z (.inr dc_) U6 (Qo _) fl_ fun M N O _ s=>Ux [fh r.b] U12 (fun Q S _ t=>?_);obtain ⟨T,U,cc,rfl,rfl⟩:=s;refine UF (j:=0) U11 t.m_ (by simp [fh,mG,ah]) aw (by simp only [aJ];omega) fl_ fun g V k=>C4 1 [0,8,9,10,20,21,22] c Z<|G.freezeArr 0 ((r.f++[r.b]).map fh) rfl am (by intro r e;obtain ⟨y,_,rfl⟩:=Qq.1 e;rfl) am (fun W X d=>?_);obtain ⟨Y,cz,u,_⟩:=id d;cases u
    simp only [al] at d ⊢;exact G.dropAll<|Uq 0 mup (hn_ [0,8,9,10,20,21,22] Z) ⟨_,_,d,Z,Z⟩
   refine Ux [fh r.b] U12 fun Q S _ t=>D.call (qH _ _ r.f x.m_ om_) Z (.inr dc_) U6 (Qo _) fl_ (fun M N O _ s=>?_);obtain ⟨T,U,cc,rfl,rfl⟩:=s;refine UF (j:=0) U11 t.m_ (by simp [fh,mG,ah]) aw (by simp only [aJ];omega) fl_ fun g V k=>C4 1 [0,8,9,10,20,21,22] c Z<|G.freezeArr 0 ((r.f++[r.b]).map fh) rfl am (by intro r e;obtain ⟨y,_,rfl⟩:=Qq.1 e;rfl) am (fun W X d=>?_);obtain ⟨Y,cz,u,_⟩:=id d;cases u
   simp only [al] at d ⊢;exact G.dropAll<|Uq 0 mup (hn_ [0,8,9,10,20,21,22] Z) ⟨_,_,d,Z,Z⟩
  obtain ⟨g,k,ai,rfl,rfl⟩:=p;refine G.loop (fun fr C' n o=>∃ (j:Nat),(j<=(r.f++[r.b]).length)/\fr=[(0,[],.slice l a.length c0),(8,[],.slice l a.length c0),(9,[],.int .i64 a.length),(10,[],.int .i64 i),(20,[],.slice g (r.f++[r.b]).length k),(21,[],.int .i64 (r.f++[r.b]).length),(22,[],.int .i64 j)]/\n=[]/\o=(r.f++[r.b]).length-j) (hn_ [0,8,9,10,20,21,22] Z) ⟨0,Qm _,Z,Z,Z⟩ (fun fr aC aD m _ p=>?_);obtain ⟨j,hj,rfl,rfl,rfl⟩:=p;refine Ua 1 [0,8,9,10,20,21,22,23] Z<|Ud (fun aa=>?_) fun aa=>?_
  ·have aj:j<(r.f++[r.b]).length:=by
    have:=aK aa;omega
   obtain ⟨q,hq⟩:∃ q,(r.f++[r.b])[j]?=some q:=⟨(r.f++[r.b])[j],ak aj⟩;have ab:QB 22 q:=by
    rcases Qz.1 (Qj hq) with h | h
    ·exact ae q h
    rw [QF.1 h];exact af
   refine Uf fun R c=>Ur ai.m_ U10 om_ (bY hq) fl_ fun aE an=>Uc an U8<|C4 1 [0,7,8,9,10,20,21,22] c Z<|Ub 1 Z fun R c=>Uo (dW _ hT.m_ _ (tT ab)) U7<|C4 1 [0,8,9,10,20,21,22,28] c Z<|Ud (fun F=>?_) fun F=>?_
   ·exfalso;rw [xr ab] at F;exact absurd F dc_
   refine Uf fun R c=>Ul _ U7<|C4 1 [0,8,9,10,20,21,22] c Z<|Un (m':=(r.f++[r.b]).length-(j+1)) om_ mup (hn_ [0,8,9,10,20,21,22] Z) ⟨j+1,om_,Z,Z,Z⟩
  refine Uf fun R c=>Ul _ U7<|C4 1 [0,8,9,10] c Z<|Un (m':=a.length-(i+1)) om_ mup (hn_ [0,8,9,10] Z) ⟨i+1,om_,Z,Z,Z⟩
 refine Ua 3 [2,3] Z<|Up (G.dropAll (UD U3 ?_));exact ⟨Z,Z⟩
def iD (s p k:Nat)(fm:List (Nat × Rat))(b sg:Rat):RowQ:=⟨I9 s p k fm sg,sg*b⟩
theorem jq (C:Mem)(N:Tabs C)(s p d b g v:Nat)(c:List (Nat × Rat))(e:Rat)(a:List Rat)(H w:Value)(n:List Value)(f:List RowQ)(ai:s*p<=60)(O:d<s)(Q:C v=some (.cells ⟨[.int .i64 (s:Nat),.int .i64 (p:Nat)]⟩ 142 (0,0)))(S:C b=some (aQ keyZ.enc (eH c)))(T:(c.map (·.1)).Nodup)(U:∀ x∈c,x.1<p)(V:∀ x∈c,QB 23 x.2)(W:QB 23 e)
  (y:Sl C 1 H (a.map fh)) (X:∀ q∈a,QB 1 q) (aj:a.length<=2) (Y:RowsOk C n f) (an:f.length<=10000) :
  Jog.Fn cx.P 195 [.int .i64 d,.map (some b),ah (qtx e),H,.pointer (some ⟨g,0,none⟩),.pointer (some ⟨v,0,none⟩)] C [.obj g (.cells ⟨[w]⟩ 78 (0,0)),.arr w 123 2 f.length (aT n f).flatten]
   fun u C' k=>∃ I w',u=.tuple #[]/\k=[.obj g (.cells ⟨[w']⟩ 78 (0,0)),.arr w' 123 2 (f++a.map (iD s p d c e)).length (aT I (f++a.map (iD s p d c e))).flatten]/\RowsOk C' I (f++a.map (iD s p d c e)):=by
 obtain ⟨A0,c0,rfl,aa,ao,_⟩:=id y;have ap:maxLen<=9223372036854775807:=by simp [maxLen]
 simp only [al] at y aa ⊢;refine Uk func195 28 U3 fun w0=>Ua 3 [0,1,2,4,5,12,13,14] Z<|Ut (L':=[.obj g (.cells ⟨[w]⟩ 78 (0,0)),.arr w 123 2 (f++(a.take 0).map (iD s p d c e)).length (aT n (f++(a.take 0).map (iD s p d c e))).flatten]) am<|G.loop (fun fr C' k μ=>∃ (i:Nat)(h:List Value)(o:Value),(i<=a.length/\RowsOk C' h (f++(a.take i).map (iD s p d c e)))/\fr=[(0,[],.int .i64 d),(1,[],.map (some b)),(2,[],ah (qtx e)),(4,[],.pointer (some ⟨g,0,none⟩)),(5,[],.pointer (some ⟨v,0,none⟩)),(12,[],.slice A0 a.length c0),(13,[],.int .i64 a.length),(14,[],.int .i64 i)]/\k=[.obj g (.cells ⟨[o]⟩ 78 (0,0)),.arr o 123 2 (f++(a.take i).map (iD s p d c e)).length (aT h (f++(a.take i).map (iD s p d c e))).flatten]/\μ=a.length-i) (hn_ [0,1,2,4,5,12,13,14] Z) ⟨0,n,w,⟨Qm _,by simpa using Y⟩,Z,Z,Z⟩ (fun fr aq ar m _ hI=>?_);obtain ⟨i,h,o,⟨hi,t⟩,rfl,rfl,rfl⟩:=hI;refine Ua 1 [0,1,2,4,5,12,13,14,15] Z<|Ud (fun z=>?_) fun z=>?_
 ·have A:i<a.length:=by simpa using z
  obtain ⟨sg,B⟩:∃ sg,a[i]?=some sg:=⟨a[i],ak A⟩;have ab:=X sg (Qj B);have au:(f++(a.take i).map (iD s p d c e)).length<=10002:=by
   rw [Qp,al,Qx];omega
  have J:f++(a.take (i+1)).map (iD s p d c e)=f++(a.take i).map (iD s p d c e)++[iD s p d c e sg]:=by
   rw [QO,B];simp
  refine Uf fun R l=>Ur y.m_ U10 om_ (bY B) fl_ fun av ac=>Uc ac U8<|C4 1 [0,1,2,4,5,11,12,13,14] l Z<|Uy [0,1,2,3,4,5,6,7,8,9] [] Z kr_ fun R hB l=>Uj af U9<|Uc (bkT Q 2) U8<|Uh 4 Z<|UG (OB _ N.m_ s p d b c sg e 23 dc_ dc_ om_ O (Mem.get S mup) T U V (ab.le dc_) W) U7 fl_ (fun ax _ _ ad=>?_);obtain ⟨fv,rfl,D⟩:=ad;obtain ⟨E,F,rfl,_⟩:=id D;simp only [al] at D ⊢;refine Ux [[.slice E (I9 s p d c sg).length F,ah (qtx (sg*e))]] U12 fun ay _ _ ae=>UF (j:=1) U11 ae.m_ Z aw (by simp only [aJ];omega) fl_ fun K L M=>Um (j:=1) U12<|Ug [0,1,2,4,5,12,13,14] l Z<|Uf fun R l=>Ul _ U7<|C4 1 [0,1,2,4,5,12,13,14] l Z ?_;have ag:=RowsOk.snoc (r:=iD s p d c e sg) t.m_ D;refine Ut (L':=[.obj g (.cells ⟨[.slice K L M]⟩ 78 (0,0)),.arr (.slice K L M) 123 2 (f++(a.take (i+1)).map (iD s p d c e)).length (aT (h++[.slice E (I9 s p d c sg).length F]) (f++(a.take (i+1)).map (iD s p d c e))).flatten]) (by rw [J,fq t.1];simp [iD,aD];omega)<|Un (m':=a.length-(i+1)) om_ mup (hn_ [0,1,2,4,5,12,13,14] Z) ⟨i+1,h++[.slice E (I9 s p d c sg).length F],_,⟨by omega,by rw [J];exact ag.mono mup⟩,Z,Z,Z⟩
 have A:i=a.length:=by
  have:¬ i<a.length:=by simpa using z
  omega
 rw [A,Qv] at t ⊢;exact Vo Z<|⟨h,o,Z,Z,t.mono mup⟩
noncomputable def qu (o:Obs):Rat:=-dy o.nx / dy o.nz
noncomputable def jb (o:Obs):Rat:=-dy o.ny / dy o.nz
def upN (B:Bk)(o:Obs):Nat:=(kh (isU o.upper) B.col 0).toNat
noncomputable def rowsO (B:Bk)(o:Obs)(p:Pt)(t:Tri)(z:Rat):List RowQ :=
 if o.kind=1 then (if 0<upN B o then [iD (bs B) (bp B) (upN B o-1) (atT t (wgt B.pts t p)) (kC o z) 1] else [])++(if upN B o<bs B then [iD (bs B) (bp B) (upN B o) (atT t (wgt B.pts t p)) (kC o z) (-1)] else [])
 else if o.kind=2 then (cH B.col o).flatMap fun k=>[1, -1].map (iD (bs B) (bp B) k (atT t (wgt B.pts t p)) (kC o z))
 else (cH B.col o).flatMap fun k=>[1, -1].map (iD (bs B) (bp B) k (atT t fun j=>(slf B.pts t j).1) (qu o))++[1, -1].map (iD (bs B) (bp B) k (atT t fun j=>(slf B.pts t j).2) (jb o))
structure Fine (B:Bk)(fs:List Rat)(o:Obs)(p:Pt)(ti:Nat)(t:Tri)(z:Rat):Prop where
 place:ObsAt o p
 loc:∃ r,lP B.pts B.tris p=ti::r
 tri:B.tris[ti]?=some t
 val:EI B.pts B.tris fs p=.tuple #[ah (qtx z),.int .i64 0]
 qz:QB 22 z
 qh:QB 22 (kC o z)
 w:∀ j,QB 22 (wgt B.pts t p j)
 up:0<=kh (isU o.upper) B.col 0
 sl:∀ j,QP 22 (slf B.pts t j)
 nr:o.kind≠1->o.kind≠2->(ba o.nx=true/\ba o.ny=true/\ba o.nz=true)/\QB 11 (dy o.nx)/\QB 11 (dy o.ny)/\QB 11 (dy o.nz)/\dy o.nz≠0
 rows:∀ r∈rowsO B o p t z,N4 r
theorem Ou (h:Sl C 1 v [[ah [49]]]):Sl C 1 v (([1]:List Rat).map fh):=by rw [<- dz] at h;exact h
theorem Ov (h:Sl C 1 v [[ah [45,49]]]):Sl C 1 v (([-1]:List Rat).map fh):=by rw [<- cV] at h;exact h
theorem Fg (h:Sl C 1 v [[ah [49]],[ah [45,49]]]):Sl C 1 v (([1, -1]:List Rat).map fh):=by rw [<- cV,<- dz] at h;exact h
theorem Ol:∀ q∈([1]:List Rat),QB 1 q:=by simp;exact QB_one
theorem Om:∀ q∈([-1]:List Rat),QB 1 q:=by simp;exact mV
theorem rJ:∀ q∈([1, -1]:List Rat),QB 1 q:=by
 intro q a;simp only [Qw,Rk,SJ] at a;rcases a with rfl | rfl
 ·exact QB_one
 exact mV
theorem gj {f:Nat->Rat}{P:Nat × Rat->Prop}(b:P (t.1,f 0))(c:P (t.2.1,f 1))(d:P (t.2.2,f 2)):∀ x∈atT t f,P x:=by
 intro x a;simp only [atT,Qw,Rk,SJ] at a;rcases a with rfl | rfl | rfl <;> assumption
theorem IF {a b:Int}{n k:Nat}(h:k∈vL a b n):k<n:=by
 unfold vL at h;rw [Sn,QE] at h;exact h.1
theorem jm {a b:Type}(f:a->List b){l:List a}{j:Nat}{x:a}(h:l[j]?=some x):(l.take (j+1)).flatMap f=(l.take j).flatMap f++f x:=by
 rw [QO,h,List.flatMap_append];simp
theorem fM {a b:Type}{f:a->List b}{c:Nat}(h:∀ x,(f x).length=c):∀ l:List a,(l.flatMap f).length=c*l.length
 | []=>by simp
 | x::l=>by rw [List.flatMap_cons,Qp,h,fM h l,QA,Nat.mul_succ,SM]
theorem AJ :∀ r∈rowsO B o p t z,r.f.length=bs B*bp B:=by
 have a:∀ k d b sg,(iD (bs B) (bp B) k d b sg).f.length=bs B*bp B:=fun k d b sg=>jF _ _;intro r hr;unfold rowsO at hr;split at hr
 ·rcases Qz.1 hr with h | h
  ·split at h
   ·rw [QF.1 h];exact a _ _ _ _
   cases h
  split at h
  ·rw [QF.1 h];exact a _ _ _ _
  cases h
 split at hr
 ·obtain ⟨k,_,c⟩:=List.mem_flatMap.1 hr;obtain ⟨sg,_,rfl⟩:=Qq.1 c;exact a _ _ _ _
 obtain ⟨k,_,c⟩:=List.mem_flatMap.1 hr;rcases Qz.1 c with h | h
 ·obtain ⟨sg,_,rfl⟩:=Qq.1 h;exact a _ _ _ _
 obtain ⟨sg,_,rfl⟩:=Qq.1 h;exact a _ _ _ _
theorem wb (h:(cH B.col o).length<=60):(rowsO B o p t z).length<=240:=by
 unfold rowsO;split
 ·rw [Qp];have h1:∀ (c:Prop)[Decidable c] (r:RowQ),(if c then [r] else []).length<=1:=fun c _ r=>by split <;> simp
  have:=h1 (0<upN B o) (iD (bs B) (bp B) (upN B o-1) (atT t (wgt B.pts t p)) (kC o z) 1);have:=h1 (upN B o<bs B) (iD (bs B) (bp B) (upN B o) (atT t (wgt B.pts t p)) (kC o z) (-1));omega
 split
 ·rw [fM (c:=2) (fun k=>by simp)];omega
 rw [fM (c:=4) (fun k=>by simp)];omega
theorem My (C:Mem)(d:Tabs C)(bv:Value)(B:Bk)(fs:List Rat)(i:Nat)(o:Obs)(p:Pt)(ti:Nat)(t:Tri)(z:Rat)(L:BookIn C bv B)(Q:Good B.pts B.tris)(am:BookR B)(aL:ix B=0)(hF:Terr B fs)(U:B.obs[i]?=some o)(b:Fine B fs o p ti t z)(S:bs B*bp B<=60)(a4:sQ B.col=0)(bS:bs B+1=B.col.length)(bT:B.col.length<=60) :
  Pur cx.P 128 [gu (bs B) (bp B),bv,.int .i64 i] C fun u D=>∃ v,u=.tuple #[v,.int .i64 0]/\RowsIn D v (rowsO B o p t z):=by
 have an:=L;have hM:=Q.ok;obtain ⟨r,a5⟩:=b.loc;have aM:=Qj b.tri;have l:=hM.ins t aM;have ao:=tG hM aM;have bU:=(aE.1 U).1;have V:=b.place;obtain ⟨u,W⟩:∃ u:Nat,kh (isU o.upper) B.col 0=(u:Nat):=⟨_,(Int.toNat_of_nonneg b.up).symm⟩;have a6:upN B o=u:=by unfold upN;rw [W];rfl
 have bV:u<B.col.length:=by
  rcases mY (isU o.upper) B.col with ⟨h,_⟩ | ⟨k,x,h,h2,_⟩
  ·rw [W] at h;omega
  have:=(aE.1 h2).1;rw [W] at h;omega
 have ap:=qN (wgt B.pts t p) ao;have aq:∀ x∈atT t (wgt B.pts t p),x.1<bp B:=gj (P:=fun x=>x.1<bp B) l.1 l.2.1 l.2.2;have ar:∀ x∈atT t (wgt B.pts t p),QB 23 x.2:=gj (P:=fun x=>QB 23 x.2) ((b.w 0).le dc_) ((b.w 1).le dc_) ((b.w 2).le dc_);have au:QB 23 (kC o z):=b.qh.le dc_;have a7:(cH B.col o).length<=bs B:=by
  unfold cH vL;refine QG (RL _ _) ?_;rw [Rf];unfold bs;omega
 have aN:∀ k∈cH B.col o,k<bs B:=fun k hk=>IF hk;obtain ⟨v1,v2,tv,cv,ov,rfl,h1,h2,h3,h4,h5⟩:=id L.ex;have aO:MeshIn C (.agg ⟨[v1,v2]⟩) B.pts B.tris:=⟨v1,v2,rfl,h1,h2⟩;obtain ⟨A5,c5,rfl,a8,bW,_⟩:=id h5;have bX:maxLen<=9223372036854775807:=by simp [maxLen]
 simp only [al] at h5 a8 an ⊢;refine Uk func128 172 U3 fun w0=>?_;refine Uf fun R a=>?_;refine Uw U6 (fun n=>?_);refine Uw U6 (fun b4=>?_);refine C4 2 [2,3,4] a Z ?_;clear a R;refine G.freeze 1 Z (fun _ _ M=>?_);refine G.freeze 0 Z (fun _ _ N=>?_);refine Ub 1 Z fun R a=>?_;refine Uc (bkT N 1) U8 ?_;refine Ue U6 ?_;refine Ur h5.m_ U10 om_ (bY U) fl_ (fun bZ a9=>?_);refine Uc a9 U8 ?_;refine Uv U5 (fun b8=>?_);refine Um (j:=0) U12 ?_;refine Ug [2,3,4,8] a Z ?_;clear a R;refine G.freeze 0 Z (fun C8 _ E=>?_);refine Ub 1 Z fun R a=>?_;refine Uc (bkT N 2) U8 ?_;refine Ue U6 ?_;refine Uc (bkT E 2) U8 ?_;refine UG (by have h:=D2 C8 d.m_ _ B.pts B.tris p ti r t aO.m_ Q V.q V.r a5 b.tri b.w;rw [<- wD V] at h;exact h) U7 fl_ (fun b0 _ _ ba=>?_);obtain ⟨T,rfl,av⟩:=ba;refine C4 7 [2,3,4,8,9,10,11] a Z ?_;clear a R;refine Ua 2 [2,3,4,8,9,10,11,45] Z ?_;refine Ud (fun aP=>?_) fun aP=>?_
 ·exact absurd aP dc_
 refine Uf fun R a=>?_;refine Uc (bkT N 5) U8 ?_;refine Ue U6 ?_;refine Uo (DD _ d.m_ _ B fs i o p z an.m_ Q am aL hF U V b.val b.qz b.qh) U7 ?_;refine C4 5 [2,3,4,8,9,10,11,12] a Z ?_;clear a R;refine Ua 2 [2,3,4,8,9,10,11,12,54] Z ?_;refine Ud (fun aQ=>?_) fun aQ=>?_
 ·exact absurd aQ dc_
 refine Uf fun R a=>?_;refine Uc (bkT N 5) U8 ?_;refine Ue U6 ?_;refine UM (vK _ d.m_ _ B i o an.m_ Q am aL U) U7 (fun b1 _ _ bb=>?_);obtain ⟨lv,rfl,aw⟩:=bb;obtain ⟨Al,cl,aR,_⟩:=id aw;rw [al] at aR;subst aR;refine C4 5 [3,4,8,9,10,11,12,13] a Z ?_;clear a R;refine Ua 2 [3,4,8,9,10,11,12,13,63] Z ?_;refine Ud (fun aS=>?_) fun aS=>?_
 ·exact absurd aS dc_
 refine Uf fun R a=>?_;refine Uv U5 (fun c=>?_);refine Ug [3,4,8,9,10,12,13,14] a Z ?_;clear a R;refine G.nilArr 123 2 (G.perm (L':=[.obj c (.cells ⟨[.slice none 0 0]⟩ 78 (0,0)),.arr (.slice none 0 0) 123 2 0 []]) (List.Perm.swap _ _ _) ?_);refine Ua 2 [3,4,8,9,10,12,13,14,15] Z ?_;refine Ub 1 Z fun R a=>?_;refine Uc (bkT E 1) U8 ?_;refine Ug [3,4,8,9,10,12,13,14,15,67] a Z ?_;clear a R;refine Ua 2 [3,4,8,9,10,12,13,14,15,67,120] Z ?_;refine G.cut (fun fr C' y F=>∃ (vs:List Value)(w:Value),(RowsOk C' vs (rowsO B o p t z))/\fr=[(14,[],.pointer (some ⟨c,0,none⟩))]/\y=[.obj c (.cells ⟨[w]⟩ 78 (0,0)),.arr w 123 2 (rowsO B o p t z).length (aT vs (rowsO B o p t z)).flatten]) ?_ (fun fr _ b2 F _ H=>?_)
 ·refine Ud (fun X=>?_) fun X=>?_
  ·have hk:o.kind=1:=dT X;obtain ⟨s,O⟩:∃ s,(if 0<u then [iD (bs B) (bp B) (u-1) (atT t (wgt B.pts t p)) (kC o z) 1] else [])=s:=⟨_,rfl⟩;have A:rowsO B o p t z=s++(if u<bs B then [iD (bs B) (bp B) u (atT t (wgt B.pts t p)) (kC o z) (-1)] else []):=by unfold rowsO;rw [aV hk,a6,O]
   refine Ub 1 Z fun R a=>?_;refine Uc (bkT N 1) U8 ?_;refine Ue U6 ?_;refine Uc (bkT E 1) U8 ?_;refine Uo (zf _ d.m_ _ B.col o.upper h4.m_ am.col a4 u W) U7 ?_;refine C4 7 [3,9,12,14,15,16,18] a Z ?_;clear a R;refine Ua 2 [3,9,12,14,15,16,18,132] Z ?_;refine Ud (fun aU=>?_) fun aU=>?_
   ·exact absurd aU dc_
   refine Ua 2 [3,9,12,14,15,16,135] Z ?_;refine G.cut (fun fr C' y F=>∃ (vs:List Value)(w:Value),(RowsOk C' vs s)/\fr=[(3,[],.pointer (some ⟨n,0,none⟩)),(9,[],.map (some T)),(12,[],ah (qtx (kC o z))),(14,[],.pointer (some ⟨c,0,none⟩)),(15,[],.func (.func 195) #[] #[.pointer (some ⟨c,0,none⟩),.pointer (some ⟨n,0,none⟩)]),(16,[],.int .i64 u)]/\y=[.obj c (.cells ⟨[w]⟩ 78 (0,0)),.arr w 123 2 s.length (aT vs s).flatten]) ?_ (fun fr _ b5 F _ H=>?_)
   ·refine Ud (fun ax=>?_) fun ax=>?_
    ·have ay:0<u:=by
      have:=aK ax;omega
     rw [aV ay] at O;subst O;refine UC [(6,3)] Z (fun R a=>?_);refine Uh 2 Z ?_;refine UN (((u-1:Nat):Int)) U4 om_ om_ om_ U2 ?_;refine Uh 2 Z ?_;refine Ux [[ah [49]]] U12 (fun b6 _ _ bc=>?_);refine D.call (jq _ d.m_ (bs B) (bp B) (u-1) T c n (atT t (wgt B.pts t p)) (kC o z) [1] _ (.slice none 0 0) [] [] S om_ (Mem.get M mup) (Mem.get av mup) ap aq ar au ((Ou bc).mono mup) Ol dc_ (RowsOk.nil _) dc_) Z (.inr dc_) U6 (Qo _) fl_ (fun b7 _ b9 _ bd=>?_);refine Ug [3,9,12,14,15,16] a Z ?_;clear a R;obtain ⟨bf,w1,rfl,rfl,bg⟩:=bd;refine Uq 0 mup (hn_ [3,9,12,14,15,16] Z) ⟨bf,w1,bg,Z,Z⟩
    have ay:¬ 0<u:=by
     have:=Ql ax;omega
    rw [aA ay] at O;subst O;refine Uq 0 (Mem.le.refl _) (hn_ [3,9,12,14,15,16] Z) ⟨[],.slice none 0 0,RowsOk.nil _,Z,Z⟩
   obtain ⟨vs ,w,az,rfl,rfl⟩:=H;refine Ub 2 Z fun R a=>?_;refine Uc (bkT M 1) U8 ?_;refine C4 1 [9,12,14,15,16,146] a Z ?_;clear a R;refine Ud (fun aB=>?_) fun aB=>?_
   ·have Y:u<bs B:=by
     have:=aK aB;omega
    rw [aV Y] at A;have ca:s.length<=1:=by rw [<- O];split <;> simp
    refine UC [(5,3)] Z (fun R a=>?_);refine Uh 4 Z ?_;refine Ux [[ah [45,49]]] U12 (fun cb _ _ bh=>?_);refine D.call (jq _ d.m_ (bs B) (bp B) u T c n (atT t (wgt B.pts t p)) (kC o z) [-1] _ w vs s S Y (Mem.get M mup) (Mem.get av mup) ap aq ar au ((Ov bh).mono mup) Om dc_ az.m_ om_) Z (.inr dc_) U6 (Qo _) fl_ (fun cc _ cd _ bi=>?_);refine Ug [14] a Z ?_;clear a R;obtain ⟨bj,w2,rfl,rfl,aW⟩:=bi;rw [show s++([-1]:List Rat).map (iD (bs B) (bp B) u (atT t (wgt B.pts t p)) (kC o z))=rowsO B o p t z from A.symm] at aW ⊢;refine Uq 0 mup (hn_ [14] Z) ⟨bj,w2,aW,Z,Z⟩
   have Y:¬ u<bs B:=by
    have:=Ql aB;omega
   rw [aA Y,QM] at A;rw [<- A] at az ⊢;refine Uq 0 mup (hn_ [14] Z) ⟨vs,w,az.mono mup,Z,Z⟩
  have aC:¬ o.kind=1:=by
   intro e;rw [show ((o.kind == 1)=true) by rw [e];rfl] at X;cases X
  refine Ua 2 [4,8,9,10,12,13,14,15,153] Z ?_;refine Ud (fun aa=>?_) fun aa=>?_
  ·have ab:o.kind=2:=dT aa;obtain ⟨f,aD⟩:∃ f,(fun k=>([1, -1]:List Rat).map (iD (bs B) (bp B) k (atT t (wgt B.pts t p)) (kC o z)))=f:=⟨_,rfl⟩;have A:rowsO B o p t z=(cH B.col o).flatMap f:=by unfold rowsO;rw [aA aC,aV ab,<- aD]
   have bk:∀ k,(f k).length=2:=fun k=>by rw [<- aD];rfl
   refine Ua 3 [9,12,14,15,155,156,157] Z ?_;refine G.loop (fun fr C' y F=>∃ (j:Nat)(vs:List Value)(w:Value),(j<=(cH B.col o).length/\RowsOk C' vs (((cH B.col o).take j).flatMap f))/\fr=[(9,[],.map (some T)),(12,[],ah (qtx (kC o z))),(14,[],.pointer (some ⟨c,0,none⟩)),(15,[],.func (.func 195) #[] #[.pointer (some ⟨c,0,none⟩),.pointer (some ⟨n,0,none⟩)]),(155,[],.slice Al (cH B.col o).length cl),(156,[],.int .i64 (cH B.col o).length),(157,[],.int .i64 j)]/\y=[.obj c (.cells ⟨[w]⟩ 78 (0,0)),.arr w 123 2 (((cH B.col o).take j).flatMap f).length (aT vs (((cH B.col o).take j).flatMap f)).flatten]/\F=(cH B.col o).length-j) (hn_ [9,12,14,15,155,156,157] Z) ⟨0,[],.slice none 0 0,⟨Qm _,RowsOk.nil _⟩,Z,Z,Z⟩ (fun fr ce cf m _ H=>?_);obtain ⟨j,vs,w,⟨hj,I⟩,rfl,rfl,rfl⟩:=H;refine Ua 1 [9,12,14,15,155,156,157,158] Z ?_;refine Ud (fun aF=>?_) fun aF=>?_
   ·have J:j<(cH B.col o).length:=by
     have:=aK aF;omega
    obtain ⟨k,K⟩:∃ k,(cH B.col o)[j]?=some k:=⟨(cH B.col o)[j],ak J⟩;have ac:=aN k (Qj K);have ad:=fM bk ((cH B.col o).take j);rw [Qx] at ad;have aG:=jm f K;refine Uf fun R a=>?_;refine Ur aw.m_ U10 om_ (bY K) fl_ (fun cg bl=>?_);refine Uc bl U8 ?_;refine C4 1 [9,12,14,15,20,155,156,157] a Z ?_;clear a R;refine UC [(5,3)] Z (fun R a=>?_);refine Uh 4 Z ?_;refine Ux [[ah [49]],[ah [45,49]]] U12 (fun ch _ _ bm=>?_);refine D.call (jq _ d.m_ (bs B) (bp B) k T c n (atT t (wgt B.pts t p)) (kC o z) [1, -1] _ w vs _ S ac (Mem.get M mup) (Mem.get av mup) ap aq ar au ((Fg bm).mono mup) rJ dc_ I.m_ om_) Z (.inr dc_) U6 (Qo _) fl_ (fun ci _ cj _ bo=>?_);refine Ug [9,12,14,15,155,156,157] a Z ?_;clear a R;refine Uf fun R a=>?_;refine Ul _ U7 ?_;refine C4 1 [9,12,14,15,155,156,157] a Z ?_;clear a R;obtain ⟨aH,w3,rfl,rfl,ae⟩:=bo;rw [show ((cH B.col o).take j).flatMap f++([1, -1]:List Rat).map (iD (bs B) (bp B) k (atT t (wgt B.pts t p)) (kC o z))=((cH B.col o).take (j+1)).flatMap f by rw [aG,<- aD]] at ae ⊢;refine Un (m':=(cH B.col o).length-(j+1)) om_ mup (hn_ [9,12,14,15,155,156,157] Z) ⟨j+1,aH,w3,⟨by omega,ae⟩,Z,Z,Z⟩
   have J:j=(cH B.col o).length:=by
    have:=Ql aF;omega
   rw [J,Qv,<- A] at I ⊢;refine Uq 0 mup (hn_ [14] Z) ⟨vs,w,I.mono mup,Z,Z⟩
  have ab:¬ o.kind=2:=by
   intro e;rw [show ((o.kind == 2)=true) by rw [e];rfl] at aa;cases aa
  obtain ⟨⟨bq,br,bt⟩,aX,aY,ag,ai⟩:=b.nr aC ab;obtain ⟨e1,q1⟩:=dJ bq;obtain ⟨e2,q2⟩:=dJ br;obtain ⟨e3,q3⟩:=dJ bt;have aZ:(qtx (dy o.nx)).length<=1000000:=QG (bJ q1 dc_) dc_;have bu:(qtx (dy o.ny)).length<=1000000:=QG (bJ q2 dc_) dc_;have bx:QB 23 (qu o):=(js (eZ aX) ag ai).le dc_;have bz:QB 23 (jb o):=(js (eZ aY) ag ai).le dc_;obtain ⟨g,aI⟩:∃ g,(fun k=>([1, -1]:List Rat).map (iD (bs B) (bp B) k (atT t fun j=>(slf B.pts t j).1) (qu o))++([1, -1]:List Rat).map (iD (bs B) (bp B) k (atT t fun j=>(slf B.pts t j).2) (jb o)))=g:=⟨_,rfl⟩;have A:rowsO B o p t z=(cH B.col o).flatMap g:=by unfold rowsO;rw [aA aC,aA ab,<- aI]
  have bA:∀ k,(g k).length=4:=fun k=>by rw [<- aI];rfl
  have bB:=qN (fun j=>(slf B.pts t j).1) ao;have bC:=qN (fun j=>(slf B.pts t j).2) ao;have bD:∀ x∈atT t (fun j=>(slf B.pts t j).1),x.1<bp B:=gj (P:=fun x=>x.1<bp B) l.1 l.2.1 l.2.2;have bE:∀ x∈atT t (fun j=>(slf B.pts t j).2),x.1<bp B:=gj (P:=fun x=>x.1<bp B) l.1 l.2.1 l.2.2;have bF:∀ x∈atT t (fun j=>(slf B.pts t j).1),QB 23 x.2:=gj (P:=fun x=>QB 23 x.2) ((b.sl 0).1.le dc_) ((b.sl 1).1.le dc_) ((b.sl 2).1.le dc_);have bG:∀ x∈atT t (fun j=>(slf B.pts t j).2),QB 23 x.2:=gj (P:=fun x=>QB 23 x.2) ((b.sl 0).2.le dc_) ((b.sl 1).2.le dc_) ((b.sl 2).2.le dc_);refine Ub 1 Z fun R a=>?_;refine Uc (bkT N 2) U8 ?_;refine Ue U6 ?_;refine UM (DV _ d.m_ _ B.pts B.tris ti t aO.m_ Q b.tri b.sl) U7 (fun ck aj _ bH=>?_);obtain ⟨be,bn,rfl,bI,bK⟩:=bH;refine C4 7 [8,13,14,15,21,22,23] a Z ?_;clear a R;refine Ua 2 [8,13,14,15,21,22,23,77] Z ?_;refine Ud (fun a0=>?_) fun a0=>?_
  ·exact absurd a0 dc_
  refine Uy [0,1,2,3,4,5,6,7,8,9,10,11,12] [(3,1),(7,1)] Z kr_ (fun R L a=>?_);refine Uh 2 Z ?_;refine Uc (bkT E 1) U8 ?_;refine Uz (fun _=>(by have h:=eN aj (dy o.nx) aZ;rw [<- e1] at h;exact h)) U9 ?_;refine Uh 2 Z ?_;refine Uc (bkT E 1) U8 ?_;refine Uz (fun _=>(by have h:=gS aj d.m_ (-dy o.nx) (dy o.nz) 11 dc_ dc_ (eZ aX) ag ai;rw [<- e3] at h;exact h)) U9 ?_;refine Uh 5 Z ?_;refine Ug [8,13,14,15,21,22,24] a Z ?_;clear a L R;refine Uy [0,1,2,3,4,5,6,7,8,9,10,11,12] [(3,1),(7,1)] Z kr_ (fun R L a=>?_);refine Uh 2 Z ?_;refine Uc (bkT E 1) U8 ?_;refine Uz (fun _=>(by have h:=eN aj (dy o.ny) bu;rw [<- e2] at h;exact h)) U9 ?_;refine Uh 2 Z ?_;refine Uc (bkT E 1) U8 ?_;refine Uz (fun _=>(by have h:=gS aj d.m_ (-dy o.ny) (dy o.nz) 11 dc_ dc_ (eZ aY) ag ai;rw [<- e3] at h;exact h)) U9 ?_;refine Uh 5 Z ?_;refine Ug [13,14,15,21,22,24,26] a Z ?_;clear a L R;refine Ua 3 [14,15,21,22,24,26,101,102,103] Z ?_;refine G.loop (fun fr C' y F=>∃ (j:Nat)(vs:List Value)(w:Value),(j<=(cH B.col o).length/\RowsOk C' vs (((cH B.col o).take j).flatMap g))/\fr=[(14,[],.pointer (some ⟨c,0,none⟩)),(15,[],.func (.func 195) #[] #[.pointer (some ⟨c,0,none⟩),.pointer (some ⟨n,0,none⟩)]),(21,[],.map (some be)),(22,[],.map (some bn)),(24,[],ah (qtx (qu o))),(26,[],ah (qtx (jb o))),(101,[],.slice Al (cH B.col o).length cl),(102,[],.int .i64 (cH B.col o).length),(103,[],.int .i64 j)]/\y=[.obj c (.cells ⟨[w]⟩ 78 (0,0)),.arr w 123 2 (((cH B.col o).take j).flatMap g).length (aT vs (((cH B.col o).take j).flatMap g)).flatten]/\F=(cH B.col o).length-j) (hn_ [14,15,21,22,24,26,101,102,103] Z) ⟨0,[],.slice none 0 0,⟨Qm _,RowsOk.nil _⟩,Z,Z,Z⟩ (fun fr cm cn m aZ H=>?_);obtain ⟨j,vs,w,⟨hj,I⟩,rfl,rfl,rfl⟩:=H;refine Ua 1 [14,15,21,22,24,26,101,102,103,104] Z ?_;refine Ud (fun aJ=>?_) fun aJ=>?_
  ·have J:j<(cH B.col o).length:=by
    have:=aK aJ;omega
   obtain ⟨k,K⟩:∃ k,(cH B.col o)[j]?=some k:=⟨(cH B.col o)[j],ak J⟩;have ac:=aN k (Qj K);have ad:=fM bA ((cH B.col o).take j);rw [Qx] at ad;have aG:=jm g K;refine Uf fun R a=>?_;refine Ur aw.m_ U10 om_ (bY K) fl_ (fun co bL=>?_);refine Uc bL U8 ?_;refine C4 1 [14,15,21,22,24,26,29,101,102,103] a Z ?_;clear a R;refine UC [(5,3)] Z (fun R a=>?_);refine Uh 4 Z ?_;refine Ux [[ah [49]],[ah [45,49]]] U12 (fun cp _ _ bM=>?_);refine D.call (jq _ d.m_ (bs B) (bp B) k be c n (atT t fun j=>(slf B.pts t j).1) (qu o) [1, -1] _ w vs _ S ac (Mem.get M mup) (Mem.get bI mup) bB bD bF bx ((Fg bM).mono mup) rJ dc_ I.m_ om_) Z (.inr dc_) U6 (Qo _) fl_ (fun cq _ cr _ bN=>?_);refine Ug [14,15,21,22,24,26,29,101,102,103] a Z ?_;clear a R;obtain ⟨aH,w3,rfl,rfl,ae⟩:=bN;refine UC [(5,3)] Z (fun R a=>?_);refine Uh 4 Z ?_;refine Ux [[ah [49]],[ah [45,49]]] U12 (fun cs _ _ bO=>?_);refine D.call (jq _ d.m_ (bs B) (bp B) k bn c n (atT t fun j=>(slf B.pts t j).2) (jb o) [1, -1] _ w3 aH _ S ac (Mem.get M mup) (Mem.get bK mup) bC bE bG bz ((Fg bO).mono mup) rJ dc_ ae.m_ (by rw [Qp,ad];simp;omega)) Z (.inr dc_) U6 (Qo _) fl_ (fun ct _ cu _ bP=>?_);refine Ug [14,15,21,22,24,26,101,102,103] a Z ?_;clear a R;refine Uf fun R a=>?_;refine Ul _ U7 ?_;refine C4 1 [14,15,21,22,24,26,101,102,103] a Z ?_;clear a R;obtain ⟨bQ,w4,rfl,rfl,a1⟩:=bP;rw [show ((cH B.col o).take j).flatMap g++([1, -1]:List Rat).map (iD (bs B) (bp B) k (atT t fun j=>(slf B.pts t j).1) (qu o))++([1, -1]:List Rat).map (iD (bs B) (bp B) k (atT t fun j=>(slf B.pts t j).2) (jb o))=((cH B.col o).take (j+1)).flatMap g by rw [aG,<- aI,QS]] at a1 ⊢;refine Un (m':=(cH B.col o).length-(j+1)) om_ mup (hn_ [14,15,21,22,24,26,101,102,103] Z) ⟨j+1,bQ,w4,⟨by omega,a1⟩,Z,Z,Z⟩
  have J:j=(cH B.col o).length:=by
   have:=Ql aJ;omega
  rw [J,Qv,<- A] at I ⊢;refine Uq 0 mup (hn_ [14] Z) ⟨vs,w,I.mono mup,Z,Z⟩
 obtain ⟨vs ,w,a2,rfl,rfl⟩:=H;refine G.freezeArr 1 (aT vs (rowsO B o p t z)) Z Z (iV _ _) (dx a2.1) (fun Cr cw bR=>?_);have a3:RowsIn Cr w (rowsO B o p t z):=⟨vs,a2.mono mup,bR⟩;refine Uf fun R a=>?_;refine Uj af U9 ?_;refine Us (D4 _ d.m_ w (rowsO B o p t z) a3.m_ b.rows (fun r hr=>by rw [AJ r hr];omega) (QG (wb (by unfold bs at a7;omega)) dc_)) U7 fl_ ?_;refine C4 4 [6,7] a Z ?_;clear a R;refine Up (G.dropAll (UD U3 ?_));exact ⟨Z,w,Z,a3.mono mup⟩
structure Rich (B:Bk)(fs:List Rat)(RO:Nat->List RowQ):Prop where
 good:Good B.pts B.tris
 br:BookR B
 bz:ix B=0
 terr:Terr B fs
 h60:bs B*bp B<=60
 fine:∀ i o,B.obs[i]?=some o->∃ p ti t z,Fine B fs o p ti t z/\RO i=rowsO B o p t z
theorem mq (h:ix B=0):sQ B.col=0:=by
 unfold ix at h;split at h
 ·rename_i h1;exact absurd h h1
 split at h
 ·rename_i h1;exact absurd h h1
 rename_i h1;exact QT h1
theorem uS {l:List Lay}(h:sQ l=0):l≠[]/\l.length<=60:=by
 unfold sQ at h;split at h
 ·exact absurd h dc_
 rename_i h0;split at h
 ·exact absurd h dc_
 exact ⟨h0,by omega⟩
theorem Rich.bookz {a:Value}(h:Rich B fs RO)(d:Tabs C)(b:BookIn C a B):BookZ C a B 0 :=
 ⟨b,fun D c=>by have h2:=kU D (d.mono c) a B (b.mono c) h.good h.br;rwa [h.bz] at h2,fun _=>(uS (mq h.bz)).1,QG (uS (mq h.bz)).2 dc_,h.good.ok.lp⟩
theorem Rich.scol (h:Rich B fs RO):bs B+1=B.col.length/\B.col.length<=60:=by
 obtain ⟨h1,h2⟩:=uS (mq h.bz);have:=Q3.2 h1;unfold bs;omega
theorem PO (C:Mem)(f:Tabs C)(b:Value)(B:Bk)(c:List Rat)(d:Nat->List RowQ)(i:Nat)(g:BookIn C b B)(a:Rich B c d)(j:i<B.obs.length) :
  Pur cx.P 128 [gu (bs B) (bp B),b,.int .i64 i] C fun u D=>∃ v,u=.tuple #[v,.int .i64 0]/\RowsIn D v (d i):=by
 have e:B.obs[i]?=some B.obs[i]:=ak j;obtain ⟨p,k,t,z,l,m⟩:=a.fine i _ e;have h:=My C f b B c i _ p k t z g a.good a.br a.bz a.terr e l a.h60 (mq a.bz) a.scol.1 a.scol.2
 rwa [<- m] at h
theorem pg (a:Rich B fs RO)(b:i<B.obs.length):(RO i).length<=240/\∀ r∈RO i,r.f.length=bs B*bp B:=by
 have c:B.obs[i]?=some B.obs[i]:=ak b;obtain ⟨p,g,t,z,h,d⟩:=a.fine i _ c;have e:(cH B.col B.obs[i]).length<=60:=by
  unfold cH vL;refine QG (RL _ _) ?_;rw [Rf];have:=a.scol.2;omega
 rw [d];exact ⟨wb e,AJ⟩
def bH (B:Bk):List RowQ:=bj (bs B) (bp B) B.col (B.col.length-2)
theorem CH (a:Rich B fs RO):(bH B).length<=120:=by
 have h:=jB (bs B) (bp B) B.col (B.col.length-2);have h1:=a.scol.1;have h2:(B.col.length-2)*bp B<=bs B*bp B:=Ri _ om_;have h3:=a.h60;unfold bH;omega
structure SrcQ where
 n:Int
 r:RowQ
def bS (vs:List Value)(l:List SrcQ):List (List Value):=List.zipWith (fun w (s:SrcQ)=>[.int .i64 s.n,w,ah (qtx s.r.b)]) vs l
def SrcsOk (C:Mem)(vs:List Value)(l:List SrcQ):Prop:=RowsOk C vs (l.map SrcQ.r)
def xH (C:Mem)(v:Value)(l:List SrcQ):Prop:=∃ vs,SrcsOk C vs l/\Sl C 3 v (bS vs l)
theorem SrcsOk.mono {C D:Mem}{a:List Value}{l:List SrcQ}(h:SrcsOk C a l)(b:C.le D):SrcsOk D a l:=RowsOk.mono h b
theorem SrcsOk.m_ {D:Mem}{l:List SrcQ}(h:SrcsOk C vs l)(a:C.le D:=by exact mup):SrcsOk D vs l:=SrcsOk.mono h a
theorem SrcsOk.snoc {C:Mem}{a:List Value}{l:List SrcQ}{v:Value}{s:SrcQ}(h:SrcsOk C a l)(b:Sl C 1 v (s.r.f.map fh)):SrcsOk C (a++[v]) (l++[s]):=by
 unfold SrcsOk at h ⊢;rw [QZ];exact RowsOk.snoc h b
theorem jC {l:List SrcQ}(h:SrcsOk C vs l):vs.length=l.length:=by have:=h.1;simpa using this
theorem lC {l:List SrcQ}(h:vs.length=l.length)(v:Value)(s:SrcQ):bS (vs++[v]) (l++[s])=bS vs l++[[.int .i64 s.n,v,ah (qtx s.r.b)]]:=by
 unfold bS;rw [List.zipWith_append h];rfl
theorem nt {l:List SrcQ}(h:vs.length=l.length):(bS vs l).length=l.length:=by simp [bS,h]
theorem rh (b:List Value)(l:List SrcQ):∀ r∈bS b l,r.length=3:=by
 intro r hr;unfold bS at hr;obtain ⟨i,a⟩:=RH hr;rw [List.getElem?_zipWith] at a;cases h1:b[i]? <;> cases h2:l[i]? <;> rw [h1,h2] at a <;> simp at a
 subst a;rfl
def kG (n:Int)(l:List RowQ):List SrcQ:=l.map fun r=>⟨n,r⟩
def bP (T:List RowQ)(RO:Nat->List RowQ)(l:List Nat):List SrcQ:=kG (-1) T++l.flatMap fun i=>kG (i:Nat) (RO i)
theorem lB {l:List RowQ}(h:l[i]?=some r):kG n (l.take (i+1))=kG n (l.take i)++[⟨n,r⟩]:=by
 unfold kG;rw [QO,h,QZ];rfl
theorem xp {T:List RowQ}:∀ {l:List Nat},(∀ i∈l,(RO i).length<=240)->l.length<=100->T.length<=120->(bP T RO l).length<=120+240*l.length:=by
 intro l h e hT;unfold bP;rw [Qp];have b:∀ l:List Nat,(∀ i∈l,(RO i).length<=240)->(l.flatMap fun i=>kG (i:Nat) (RO i)).length<=240*l.length:=by
  intro l;induction l with
  | nil=>intro _;simp
  | cons a l c =>
   intro h;have h1:=h a PH;have h2:=c fun i d=>h i (Qt _ d);rw [List.flatMap_cons,Qp,QA];have:(kG (a:Nat) (RO a)).length=(RO a).length:=by simp [kG]
   omega
 have h1:=b l h;have:(kG (-1) T).length=T.length:=by simp [kG]
 omega
theorem HF (C:Mem)(hT:Tabs C)(bv lv:Value)(B:Bk)(fs:List Rat)(c:Nat->List RowQ)(l:List Nat)(hB:BookIn C bv B)(o:Rich B fs c)(L:Sl C 1 lv (l.map aO))(ac:∀ i∈l,i<B.obs.length)(aQ:l.length<=100)(aR:(bP (bH B) c l).length<=300) :
  Pur cx.P 85 [gu (bs B) (bp B),bv,lv] C fun u D=>∃ v,u=.tuple #[v,.int .i64 0]/\xH D v (bP (bH B) c l):=by
 have av:=hB;have ax:=CH o;obtain ⟨v1,v2,tv,cv,ov,rfl,h1,h2,h3,h4,h5⟩:=id hB.ex;obtain ⟨M,N,rfl,ay,aS,_⟩:=id L;have aT:maxLen<=9223372036854775807:=by simp [maxLen]
 simp only [al] at L ay ⊢;have az:=fun m:List Nat=>fun hm:∀ i∈m,i<B.obs.length=>fun aA:m.length<=100=>xp (T:=bH B) (RO:=c) (l:=m) (fun i E=>(pg o (hm i E)).1) aA ax;refine Uk func85 66 U3 fun w0=>Uf fun R d=>Uw U6 fun O=>Uw U6 fun Q=>C4 2 [2,3,4] d Z<|G.freeze 1 Z fun _ _ ad=>G.freeze 0 Z fun _ _ ae=>Ua 1 [2,3,4,8] Z<|Uf fun R d=>Uc (bkT ad 2) U8<|Ue U6<|Uc (bkT ae 1) U8<|UM (vI _ hT.m_ _ (bs B) (bp B) B.col h4.m_ o.scol.1 o.h60 o.br.col) U7 (fun aU _ _ aB=>?_);obtain ⟨ag,S,F⟩:=aB;rw [show bj (bs B) (bp B) B.col (B.col.length-2)=bH B from rfl] at S F;have ai:=S.1;obtain ⟨At,ct,rfl,aC,aV,_⟩:=id F;simp only [dx ai] at F aC ⊢;refine C4 2 [2,3,4,8,20,21,22] d Z<|G.nilArr 125 3<|G.loop (fun fr C' e x=>∃ (i:Nat)(vs:List Value)(w:Value),(i<=(bH B).length/\SrcsOk C' vs (kG (-1) ((bH B).take i)))/\fr=[(2,[],.slice M l.length N),(3,[],.pointer (some ⟨O,0,none⟩)),(4,[],.pointer (some ⟨Q,0,none⟩)),(8,[],w),(20,[],.slice At (bH B).length ct),(21,[],.int .i64 (bH B).length),(22,[],.int .i64 i)]/\e=[.arr w 125 3 (kG (-1) ((bH B).take i)).length (bS vs (kG (-1) ((bH B).take i))).flatten]/\x=(bH B).length-i) (hn_ [2,3,4,8,20,21,22] Z) ⟨0,[],_,⟨Qm _,RowsOk.nil _⟩,Z,Z,Z⟩ (fun fr aW aX m _ y=>?_);obtain ⟨i,vs,w,⟨E,H⟩,rfl,rfl,rfl⟩:=y;refine Ua 1 [2,3,4,8,20,21,22,23] Z<|Ud (fun U=>?_) fun U=>?_
 ·have I:i<(bH B).length:=by
   have:=aK U;omega
  obtain ⟨r,g⟩:∃ r,(bH B)[i]?=some r:=⟨(bH B)[i],ak I⟩;obtain ⟨p,q⟩:∃ p,ag[i]?=some p:=⟨ag[i]'(by rw [ai];exact I),ak _⟩;have t:=S.2 i p r q g;obtain ⟨h,n,rfl,_⟩:=id t;simp only [al] at t q;have aD:(kG (-1) ((bH B).take i)).length=i:=by simp [kG];omega
  refine Uf fun R d=>Ur F.m_ U10 om_ (kJ q g) fl_ fun aY aE=>Uc aE U8<|Uv U5 fun aZ=>Um (j:=0) U12<|Ug [2,3,4,8,10,20,21,22] d Z<|Ub 1 Z fun R d=>Uj af U9<|Uu [.int .i64 (-1),.slice h r.f.length n,ah (qtx r.b)] U8<|Ux [[.int .i64 (-1),.slice h r.f.length n,ah (qtx r.b)]] U12 fun a0 _ _ aF=>D.append (j:=1) U11 aF Z aw (by simp only [aJ];omega) fl_ fun aj=>C4 1 [2,3,4,8,20,21,22] d Z<|Uf fun R d=>Ul _ U7<|C4 1 [2,3,4,8,20,21,22] d Z ?_;have z:=SrcsOk.snoc (s:=⟨-1,r⟩) H.m_ t.m_;rw [<- lB g] at z;refine UX 1 Z<|Ut (L':=[.arr aj 125 3 (kG (-1) ((bH B).take (i+1))).length (bS (vs++[.slice h r.f.length n]) (kG (-1) ((bH B).take (i+1)))).flatten]) (by rw [lB g,lC (jC H)];simp)<|Un (m':=(bH B).length-(i+1)) om_ mup (hn_ [2,3,4,8,20,21,22] Z) ⟨i+1,vs++[.slice h r.f.length n],aj,⟨by omega,z.mono mup⟩,Z,Z,Z⟩
 have I:i=(bH B).length:=by
  have:=Ql U;omega
 rw [I,Qv] at H ⊢;refine Ua 3 [3,4,8,32,33,34] Z<|Ut (L':=[.arr w 125 3 (bP (bH B) c (l.take 0)).length (bS vs (bP (bH B) c (l.take 0))).flatten]) (by simp [bP])<|G.loop (fun fr C' e x=>∃ (j:Nat)(vs:List Value)(w:Value),(j<=l.length/\SrcsOk C' vs (bP (bH B) c (l.take j)))/\fr=[(3,[],.pointer (some ⟨O,0,none⟩)),(4,[],.pointer (some ⟨Q,0,none⟩)),(8,[],w),(32,[],.slice M l.length N),(33,[],.int .i64 l.length),(34,[],.int .i64 j)]/\e=[.arr w 125 3 (bP (bH B) c (l.take j)).length (bS vs (bP (bH B) c (l.take j))).flatten]/\x=l.length-j) (hn_ [3,4,8,32,33,34] Z) ⟨0,vs,w,⟨Qm _,by simpa [bP] using H⟩,Z,Z,Z⟩ (fun fr a1 a2 m _ y=>?_);obtain ⟨j,vs,w,⟨hj,A⟩,rfl,rfl,rfl⟩:=y;refine Ua 1 [3,4,8,32,33,34,35] Z<|Ud (fun V=>?_) fun V=>?_
 ·have W:j<l.length:=by
   have:=aK V;omega
  obtain ⟨a,X⟩:∃ a,l[j]?=some a:=⟨l[j],ak W⟩;have am:=ac a (Qj X);have aG:=az (l.take j) (fun i E=>ac i (Rt E)) (by rw [Qx];omega);rw [Qx] at aG;have aH:bP (bH B) c (l.take (j+1))=bP (bH B) c (l.take j)++kG (a:Nat) (c a):=by
   unfold bP;rw [jm _ X,QS]
  have a3:=(pg o am).1;refine Uf fun R d=>Ur L.m_ U10 om_ (bY X) fl_ fun a4 aI=>Uc aI U8<|C4 1 [3,4,8,12,32,33,34] d Z<|Uf fun R d=>Uc (bkT ad 2) U8<|Uc (bkT ae 5) U8<|Ue U6<|UM (PO _ hT.m_ _ B fs c a av.m_ o am) U7 (fun a5 _ _ aL=>?_);obtain ⟨rv,rfl,an,ao,Y⟩:=aL;have ap:=ao.1;obtain ⟨Ar,cr,rfl,aM,a6,_⟩:=id Y;simp only [dx ap] at Y aM ⊢;refine C4 5 [3,4,8,12,13,14,32,33,34] d Z<|Ua 2 [3,4,8,12,13,14,32,33,34,46] Z<|Ud (fun aq=>?_) fun aq=>?_
  ·exact absurd aq dc_
  refine Ua 3 [3,4,8,12,32,33,34,48,49,50] Z<|Ut (L':=[.arr w 125 3 (bP (bH B) c (l.take j)++kG (a:Nat) ((c a).take 0)).length (bS vs (bP (bH B) c (l.take j)++kG (a:Nat) ((c a).take 0))).flatten]) (by simp [kG])<|G.loop (fun fr C' e x=>∃ (k:Nat)(vs:List Value)(w:Value),(k<=(c a).length/\SrcsOk C' vs (bP (bH B) c (l.take j)++kG (a:Nat) ((c a).take k)))/\fr=[(3,[],.pointer (some ⟨O,0,none⟩)),(4,[],.pointer (some ⟨Q,0,none⟩)),(8,[],w),(12,[],.int .i64 a),(32,[],.slice M l.length N),(33,[],.int .i64 l.length),(34,[],.int .i64 j),(48,[],.slice Ar (c a).length cr),(49,[],.int .i64 (c a).length),(50,[],.int .i64 k)]/\e=[.arr w 125 3 (bP (bH B) c (l.take j)++kG (a:Nat) ((c a).take k)).length (bS vs (bP (bH B) c (l.take j)++kG (a:Nat) ((c a).take k))).flatten]/\x=(c a).length-k) (hn_ [3,4,8,12,32,33,34,48,49,50] Z) ⟨0,vs,w,⟨Qm _,by rw [show kG (a:Nat) ((c a).take 0)=[] from Z,QM];exact A.mono mup⟩,Z,Z,Z⟩ (fun fr a7 a8 m _ y=>?_);obtain ⟨k,vs,w,⟨hk,J⟩,rfl,rfl,rfl⟩:=y;refine Ua 1 [3,4,8,12,32,33,34,48,49,50,51] Z<|Ud (fun aa=>?_) fun aa=>?_
  ·have K:k<(c a).length:=by
    have:=aK aa;omega
   obtain ⟨r,g⟩:∃ r,(c a)[k]?=some r:=⟨(c a)[k],ak K⟩;obtain ⟨p,q⟩:∃ p,an[k]?=some p:=⟨an[k]'(by rw [ap];exact K),ak _⟩;have t:=ao.2 k p r q g;obtain ⟨h,n,rfl,_⟩:=id t;simp only [al] at t q;have aD:(kG (a:Nat) ((c a).take k)).length<=240:=by simp [kG];omega
   have a9:(bP (bH B) c (l.take j)++kG (a:Nat) ((c a).take k)).length<=100000:=by rw [Qp];omega
   refine Uf fun R d=>Ur Y.m_ U10 om_ (kJ q g) fl_ fun ba aN=>Uc aN U8<|Uv U5 fun bb=>Um (j:=0) U12<|Ug [3,4,8,12,16,32,33,34,48,49,50] d Z<|Ub 2 Z fun R d=>Uj af U9<|Uu [.int .i64 (a:Nat),.slice h r.f.length n,ah (qtx r.b)] U8<|Ux [[.int .i64 (a:Nat),.slice h r.f.length n,ah (qtx r.b)]] U12 fun bc _ _ aP=>D.append (j:=1) U11 aP Z aw (by simp only [aJ];omega) fl_ fun ar=>C4 1 [3,4,8,12,32,33,34,48,49,50] d Z<|Uf fun R d=>Ul _ U7<|C4 1 [3,4,8,12,32,33,34,48,49,50] d Z ?_;have z:=SrcsOk.snoc (s:=⟨(a:Nat),r⟩) J.m_ t.m_;rw [QS,<- lB g] at z;refine UX 1 Z<|Ut (L':=[.arr ar 125 3 (bP (bH B) c (l.take j)++kG (a:Nat) ((c a).take (k+1))).length (bS (vs++[.slice h r.f.length n]) (bP (bH B) c (l.take j)++kG (a:Nat) ((c a).take (k+1)))).flatten]) (by rw [lB g,<- QS,lC (jC J)];simp;omega)<|Un (m':=(c a).length-(k+1)) om_ mup (hn_ [3,4,8,12,32,33,34,48,49,50] Z) ⟨k+1,vs++[.slice h r.f.length n],ar,⟨by omega,z.mono mup⟩,Z,Z,Z⟩
  have K:k=(c a).length:=by
   have:=Ql aa;omega
  rw [K,Qv,<- aH] at J ⊢;refine Uf fun R d=>Ul _ U7<|C4 1 [3,4,8,32,33,34] d Z<|Un (m':=l.length-(j+1)) om_ mup (hn_ [3,4,8,32,33,34] Z) ⟨j+1,vs,w,⟨by omega,J⟩,Z,Z,Z⟩
 have W:j=l.length:=by
  have:=Ql V;omega
 rw [W,Qv] at A ⊢;refine G.freezeArr 0 (bS vs (bP (bH B) c l)) Z Z (rh _ _) (nt (jC A)) (fun Cg hg ab=>?_);obtain ⟨Ag,cg,rfl,_⟩:=id ab;rw [nt (jC A)] at ab ⊢;refine Ua 3 [8,64] Z<|Ud (fun au=>?_) fun au=>?_
 ·exfalso;have:=aK au;omega
 refine Ua 3 [6,7] Z<|Up (G.dropAll (UD U3 ?_));exact ⟨Z,_,Z,vs,A.mono mup,ab.mono mup⟩
def bT (err:Nat->Int):Nat->Int
 | 0=>0
 | n+1=>if bT err n≠0 then bT err n else err n
theorem lX {a:Nat->Int}{n:Nat}(h:bT a n≠0):∀ m,n<=m->bT a m=bT a n
 | 0,hm=>by rw [show n=0 by omega]
 | m+1,hm=>by
  rcases QU m n with h1 | h1
  ·rw [show n=m+1 by omega]
  have b:=lX h m h1;simp only [bT,b];rw [aV h]
theorem fZ {n:Nat}(a:bT err i=0)(b:err i≠0)(c:i<n):bT err n=err i:=by
 have h1:bT err (i+1)=err i:=by simp only [bT,a];rw [aA dc_]
 rw [lX (n:=i+1) (by rw [h1];exact b) n om_,h1]
theorem ik (a:bT err i=0)(b:err i=0):bT err (i+1)=0:=by
 simp only [bT,a];rw [aA dc_,b]
theorem lW {a:Nat->Int}:∀ {n:Nat},bT a n=0->∀ i,i<n->a i=0
 | 0,_,i,b=>by omega
 | n+1,h,i,b=>by
  by_cases h0:bT a n=0
  ·rcases QU i n with h1 | h1
   ·exact lW h0 i h1
   have:i=n:=by omega
   subst this;simp only [bT,h0] at h
   rwa [aA dc_] at h
  simp only [bT] at h;rw [aV h0] at h;exact absurd h h0
theorem kS {a:Nat->Int}:∀ {n:Nat},(∀ i,i<n->a i=0)->bT a n=0
 | 0,_=>rfl
 | n+1,h=>ik (kS fun i b=>h i om_) (h n om_)
theorem Dy (C:Mem)(v:Value)(l:List Int)(z:Int)(b:Sl C 1 v (l.map me)):Gives cx.P 126 [v,.int .i64 z] C (.int .i64 (kh (fun y=>decide (z=y)) l 0)):=by
 obtain ⟨h,c0,rfl,j,t,_⟩:=id b;have u:maxLen<=9223372036854775807:=by simp [maxLen]
 simp only [al] at b j ⊢;refine Uk func126 19 U3 fun w0=>Ua 1 [0,1] Z<|Ua 3 [0,1,7,8] Z<|G.loop (fun fr C' k n=>∃ (i:Nat),(i<=l.length/\∀ y∈l.take i,(fun y=>decide (z=y)) y=false)/\fr=[(0,[],.slice h l.length c0),(1,[],.int .i64 z),(7,[],.int .i64 l.length),(8,[],.int .i64 i)]/\k=[]/\n=l.length-i) (hn_ [0,1,7,8] Z) ⟨0,⟨Qm _,by simp⟩,Z,Z,Z⟩ (fun fr w A m o p=>?_);obtain ⟨i,⟨B,a⟩,rfl,rfl,rfl⟩:=p;refine Ua 1 [0,1,7,8,9] Z<|Ud (fun c=>?_) fun c=>?_
 ·have d:i<l.length:=by simpa using c
  obtain ⟨x,e⟩:∃ x,l[i]?=some x:=⟨l[i],ak d⟩;refine Ua 2 [0,1,5,7,8] Z<|Ub 3 Z fun R f=>Ur b.m_ U10 om_ (bY e) fl_ fun D q=>Uc q U8<|C4 1 [0,1,5,7,8,16] f Z<|Ud (fun g=>?_) fun g=>?_
  ·have r:decide (z=x)=true:=by simpa using g
   exact Ua 2 [4] Z<|Ui U2<|⟨by rw [ol e r a,RG],Z⟩
  have s:decide (z=x)=false:=by simpa using g
  refine Uf fun R f=>Ul _ U7<|C4 1 [0,1,7,8] f Z<|Un (m':=l.length-(i+1)) om_ o (hn_ [0,1,7,8] Z) ⟨i+1,⟨by omega,fun y hy=>by
   rw [QO,e] at hy;rcases Qz.1 hy with hy | hy
   ·exact a y hy
   simp only [RD,QF] at hy;subst hy;exact s⟩,Z,Z,Z⟩
 have d:i=l.length:=by
  have:¬ i<l.length:=by simpa using c
  omega
 exact Ua 1 [4] Z<|Ui U2<|⟨by rw [d,Qv] at a;rw [lV a],Z⟩
theorem uP (C:Mem)(v:Value)(l:List Int)(z:Int)(a:Sl C 1 v (l.map me)):Gives cx.P 84 [v,.int .i64 z] C (.bool (decide (z∈l))):=by
 refine Uk func84 9 U3 fun w0=>?_;refine Ua 1 [0,1] Z ?_;refine Ub 2 Z fun R b=>?_;refine Uo (Dy _ v l z a.m_) U7 ?_;refine C4 2 [4] b Z ?_;refine Ui U2 ?_;refine ⟨?_,Z⟩;congr 1;rw [Q4];rcases mY (fun y=>decide (z=y)) l with ⟨h1,h2⟩ | ⟨i,x,h1,h2,h3,_⟩
 ·rw [h1];constructor
  ·intro h;omega
  intro h;have:=h2 z h;simp at this
 rw [h1];constructor
 ·intro _;have:z=x:=aK h3;rw [this];exact Qj h2
 intro _;omega
def rB (n:Nat)(l:List Int)(i:Nat):Int:=if l.getD i 0<0∨(n:Int)<=l.getD i 0 then 3 else if l.getD i 0∈l.take i then 9 else 0
def chZ (n:Nat)(l:List Int):Int:=bT (rB n l) l.length
theorem Pg {n:Nat}{l:List Int}(h:chZ n l=0):l=(l.map Int.toNat).map (fun i:Nat=>(i:Int))/\∀ i∈l.map Int.toNat,i<n:=by
 have c:∀ z∈l,0<=z/\z<(n:Int):=by
  intro z a;obtain ⟨i,b⟩:=RH a;have h1:=lW h i (aE.1 b).1;unfold rB at h1;rw [ax,b,Ry] at h1;split at h1
  ·cases h1
  omega
 refine ⟨?_,fun i b=>?_⟩
 ·rw [Q8];symm;have e:∀ z∈l,((fun i:Nat=>(i:Int)) ∘ Int.toNat) z=id z:=fun z a=>Int.toNat_of_nonneg (c z a).1;rw [List.map_congr_left e,List.map_id]
 obtain ⟨z,a,rfl⟩:=Qq.1 b;have:=c z a;omega
theorem DZ (C:Mem)(y:Tabs C)(A E:Value)(B:Bk)(F:List Rat)(g:Nat->List RowQ)(l:List Int)(o:BookIn C A B)(p:Rich B F g)(c:Sl C 1 E (l.map me))(N:l.length<=100)(O:chZ B.obs.length l=0->(bP (bH B) g (l.map Int.toNat)).length<=300) :
  Pur cx.P 52 [A,E] C fun u D=>∃ v,u=.tuple #[v,.int .i64 (chZ B.obs.length l)]/\xH D v (if chZ B.obs.length l=0 then bP (bH B) g (l.map Int.toNat) else []):=by
 have H:=o;have Q:=c;have I:=p.bookz y o;obtain ⟨v1,v2,tv,cv,ov,rfl,h1,h2,h3,h4,h5⟩:=id o.ex;obtain ⟨A5,c5,rfl,S,ag,_⟩:=id h5;obtain ⟨q,d,rfl,T,ah,_⟩:=id c;have ai:maxLen<=9223372036854775807:=by simp [maxLen]
 simp only [al] at h5 S H I c Q T ⊢;refine Uk func52 46 U3 fun w0=>Uf fun R a=>Uw U6 fun U=>C4 2 [1,2] a Z<|G.freeze 0 Z fun _ _ r=>Uf fun R a=>Uc (bkT r 5) U8<|Uo (P0 _ _ B I.m_ p.h60) U7<|Uh 3 Z<|Uv U5 fun V=>Um (j:=0) U12<|C4 1 [1,2,6,7] a Z<|Ua 2 [1,2,6,7,16] Z<|Ud (fun J=>?_) fun J=>?_
 ·exact absurd J dc_
 refine G.freeze 0 Z fun _ _ W=>Ua 3 [1,2,6,18,19,20] Z<|G.loop (fun fr C' X Y=>∃ (i:Nat),(i<=l.length/\bT (rB B.obs.length l) i=0)/\fr=[(1,[],.slice q l.length d),(2,[],.pointer (some ⟨U,0,none⟩)),(6,[],.pointer (some ⟨V,0,none⟩)),(18,[],.slice q l.length d),(19,[],.int .i64 l.length),(20,[],.int .i64 i)]/\X=[]/\Y=l.length-i) (hn_ [1,2,6,18,19,20] Z) ⟨0,⟨Qm _,Z⟩,Z,Z,Z⟩ (fun fr aj am m _ hI=>?_);obtain ⟨i,⟨hi,k⟩,rfl,rfl,rfl⟩:=hI;refine Ua 1 [1,2,6,18,19,20,21] Z<|Ud (fun s=>?_) fun s=>?_
 ·have e:i<l.length:=by
   have:=aK s;omega
  obtain ⟨z,K⟩:∃ z,l[i]?=some z:=⟨l[i],ak e⟩;have t:l.getD i 0=z:=by rw [ax,K,Ry]
  have L:=Sl.sub c (l:=0) (h:=i) (m:=d) (Qm _) ap om_ (Qi _);rw [Ru,<- Sd] at L;refine Ub 1 Z fun R a=>Ur c.m_ U10 om_ (bY K) fl_ fun an aa=>Uc aa U8<|C4 2 [1,2,6,8,9,18,19,20] a Z<|Ub 5 Z fun R a=>UE U6 (fun _=>PtrTo.blockT (Mem.get r mup) _ 1) U3<|Uh 2 Z<|UH U8<|Ug [1,2,6,8,9,18,19,20,33] a Z<|Ud (fun w=>?_) fun w=>?_
  ·have b:rB B.obs.length l i=3:=by
    unfold rB;rw [t,aV (by simp only [RN,Qs] at w;omega)]
   have f:chZ B.obs.length l=3:=by
    unfold chZ;rw [fZ k (by rw [b];decide) e,b]
   refine Ua 2 [4,5] Z<|Up (G.dropAll (UD U3 ?_));exact ⟨Z,.slice none 0 0,by rw [f],by rw [f];exact ⟨[],RowsOk.nil _,Sl.nil _ _⟩⟩
  have M:¬ (z<0∨(B.obs.length:Int)<=z):=by
   simp only [RQ,QH] at w;omega
  refine Ub 2 Z fun R a=>UY 0 i d U12 (fun _=>⟨.inl ⟨Z,Z⟩,.inr ⟨_,Z⟩,.inl ⟨Z,Z⟩,by omega,by omega,by omega⟩) U2<|Ue U6<|Uo (uP _ _ (l.take i) z L.m_) U7<|Ug [1,2,6,18,19,20,38] a Z<|Ud (fun x=>?_) fun x=>?_
  ·have hm:z∈l.take i:=aK x;have b:rB B.obs.length l i=9:=by
    unfold rB;rw [t,aA M,aV hm]
   have f:chZ B.obs.length l=9:=by
    unfold chZ;rw [fZ k (by rw [b];decide) e,b]
   refine Ua 2 [4,5] Z<|Up (G.dropAll (UD U3 ?_));exact ⟨Z,.slice none 0 0,by rw [f],by rw [f];exact ⟨[],RowsOk.nil _,Sl.nil _ _⟩⟩
  have hm:z ∉ l.take i:=Ql x;have b:rB B.obs.length l i=0:=by
   unfold rB;rw [t,aA M,aA hm]
  refine Uf fun R a=>Ul _ U7<|C4 1 [1,2,6,18,19,20] a Z<|Un (m':=l.length-(i+1)) om_ mup (hn_ [1,2,6,18,19,20] Z) ⟨i+1,⟨by omega,ik k b⟩,Z,Z,Z⟩
 have e:i=l.length:=by
  have:=Ql s;omega
 subst e;have n:chZ B.obs.length l=0:=k;obtain ⟨ab,ac⟩:=Pg n;have ad:Sl C 1 (.slice q l.length d) ((l.map Int.toNat).map aO):=by
  have h:=congrArg (List.map me) ab;rw [Q8] at h;rw [show (l.map Int.toNat).map aO=l.map me from h.symm];exact c
 refine Uf fun R a=>Uc (bkT W 2) U8<|Uc (bkT r 5) U8<|Ue U6<|UG (HF _ y.m_ _ _ B F g (l.map Int.toNat) H.m_ p ad.m_ ac (by simpa using N) (O n)) U7 fl_ (fun ao _ _ ae=>?_);obtain ⟨rv,rfl,af⟩:=ae;refine C4 4 [4,5] a Z<|Up (G.dropAll (UD U3 ?_));exact ⟨Z,rv,by rw [n],by rw [aV n];exact af⟩
def dotV (f x:List Rat):Nat->Rat
 | 0=>0
 | n+1=>dotV f x n+f.getD n 0*x.getD n 0
structure DotOk (r:RowQ)(x:List Rat):Prop where
 f:∀ q∈r.f,QB 22 q
 b:QB 22 r.b
 len:r.f.length=x.length
 s:∀ n,QB 2000 (dotV r.f x n)
def sqP:List (Int × Int):=[(0,0),(4,0),(4,4),(0,4)]
def shP:Nat->List (Int × Int)
 | 0=>sqP
 | 1=>sqP
 | 2=>sqP++[(2,1)]
 | 3=>[(0,0),(6,0),(0,4)]
 | 4=>[(0,0),(2,0),(4,0),(0,2),(2,2),(4,2)]
 | 5=>[(1,4),(5,3),(4,0),(0,0)]
 | 6=>sqP++[(2,0)]
 | _=>[(0,0),(6,0),(0,6),(2,2)]
def shT:Nat->List Tri
 | 0=>[(0,1,2),(0,2,3)]
 | 1=>[(0,1,3),(1,2,3)]
 | 2=>[(0,1,4),(1,2,4),(2,3,4),(3,0,4)]
 | 3=>[(2,0,1)]
 | 4=>[(0,1,4),(0,4,3),(1,2,5),(1,5,4)]
 | 5=>[(3,2,1),(3,1,0)]
 | 6=>[(0,4,3),(4,2,3),(4,1,2)]
 | _=>[(0,1,3),(1,2,3),(2,0,3)]
def P7 (p:Int × Int):List Value:=[.int .i64 p.1,.int .i64 p.2]
def ShIn (u:Value)(D:Mem)(m:Nat):Prop:=∃ pv tv,u=.tuple #[pv,tv]/\Sl D 2 pv ((shP m).map P7)/\Sl D 3 tv ((shT m).map kE)
theorem CS (C:Mem)(a:Nat)(_H:a<256):Pur cx.P 94 [.int .u8 a] C fun u D=>ShIn u D (a % 8):=by
 have I:a % 8<8:=Q2 _ dc_;obtain ⟨m,hm⟩:∃ m,a % 8=m:=⟨_,rfl⟩;refine Uk func94 86 U3 fun w0=>Ua 2 [0] Z<|Uf fun R b=>Uu ([.int .i64 0,.int .i64 0]) U8<|Uu ([.int .i64 4,.int .i64 0]) U8<|Uu ([.int .i64 4,.int .i64 4]) U8<|Uu ([.int .i64 0,.int .i64 4]) U8<|UO [[.int .i64 0,.int .i64 0],[.int .i64 4,.int .i64 0],[.int .i64 4,.int .i64 4],[.int .i64 0,.int .i64 4]] U12 fl_ fun J _ _ d=>C4 1 [0,4] b Z<|Ub 1 Z fun R b=>U1 (a) (8) U6 om_ U2<|Ug [4,11] b Z<|Ua 2 [4,11,12] Z<|Ud (fun f=>?_) fun f=>?_
 ·have c:a % 8=0:=by
   have:=dT f;omega
  refine Ub 1 Z fun R b=>Uu ([.int .i64 0,.int .i64 1,.int .i64 2]) U8<|Uu ([.int .i64 0,.int .i64 2,.int .i64 3]) U8<|Ux [[.int .i64 0,.int .i64 1,.int .i64 2],[.int .i64 0,.int .i64 2,.int .i64 3]] U12 fun K _ _ n=>C4 2 [2,3] b Z<|Up (G.dropAll (UD U3 ?_));exact ⟨Z,by rw [c];exact ⟨_,_,Z,d.mono mup,n.mono mup⟩⟩
 have L:a % 8≠0:=by
  intro e;rw [e] at f;exact absurd f dc_
 refine Ua 2 [4,11,18] Z<|Ud (fun g=>?_) fun g=>?_
 ·have c:a % 8=1:=by
   have:=dT g;omega
  refine Ub 1 Z fun R b=>Uu ([.int .i64 0,.int .i64 1,.int .i64 3]) U8<|Uu ([.int .i64 1,.int .i64 2,.int .i64 3]) U8<|Ux [[.int .i64 0,.int .i64 1,.int .i64 3],[.int .i64 1,.int .i64 2,.int .i64 3]] U12 fun M _ _ o=>C4 2 [2,3] b Z<|Up (G.dropAll (UD U3 ?_));exact ⟨Z,by rw [c];exact ⟨_,_,Z,d.mono mup,o.mono mup⟩⟩
 have N:a % 8≠1:=by
  intro e;rw [e] at g;exact absurd g dc_
 refine Ua 2 [4,11,24] Z<|Ud (fun h=>?_) fun h=>?_
 ·have c:a % 8=2:=by
   have:=dT h;omega
  refine Ub 1 Z fun R b=>Uu ([.int .i64 2,.int .i64 1]) U8<|Ux [[.int .i64 2,.int .i64 1]] U12 fun O _ _ p=>Wa Z Z Z Z Z Z Z Z Z Z d.m_ p.m_ (.inr dc_) (by simp only [QA,Qy,maxLen];omega) dc_ fl_ fun Q _ _ q=>Uu ([.int .i64 0,.int .i64 1,.int .i64 4]) U8<|Uu ([.int .i64 1,.int .i64 2,.int .i64 4]) U8<|Uu ([.int .i64 2,.int .i64 3,.int .i64 4]) U8<|Uu ([.int .i64 3,.int .i64 0,.int .i64 4]) U8<|Ux [[.int .i64 0,.int .i64 1,.int .i64 4],[.int .i64 1,.int .i64 2,.int .i64 4],[.int .i64 2,.int .i64 3,.int .i64 4],[.int .i64 3,.int .i64 0,.int .i64 4]] U12 fun S _ _ r=>C4 2 [2,3] b Z<|Up (G.dropAll (UD U3 ?_));exact ⟨Z,by rw [c];exact ⟨_,_,Z,q.mono mup,r.mono mup⟩⟩
 have T:a % 8≠2:=by
  intro e;rw [e] at h;exact absurd h dc_
 refine Ua 2 [4,11,35] Z<|Ud (fun i=>?_) fun i=>?_
 ·have c:a % 8=3:=by
   have:=dT i;omega
  refine Uf fun R b=>Uu ([.int .i64 0,.int .i64 0]) U8<|Uu ([.int .i64 6,.int .i64 0]) U8<|Uu ([.int .i64 0,.int .i64 4]) U8<|Ux [[.int .i64 0,.int .i64 0],[.int .i64 6,.int .i64 0],[.int .i64 0,.int .i64 4]] U12 fun U _ _ s=>Uu ([.int .i64 2,.int .i64 0,.int .i64 1]) U8<|Ux [[.int .i64 2,.int .i64 0,.int .i64 1]] U12 fun V _ _ t=>C4 2 [2,3] b Z<|Up (G.dropAll (UD U3 ?_));exact ⟨Z,by rw [c];exact ⟨_,_,Z,s.mono mup,t.mono mup⟩⟩
 have W:a % 8≠3:=by
  intro e;rw [e] at i;exact absurd i dc_
 refine Ua 2 [4,11,43] Z<|Ud (fun j=>?_) fun j=>?_
 ·have c:a % 8=4:=by
   have:=dT j;omega
  refine Uf fun R b=>Uu ([.int .i64 0,.int .i64 0]) U8<|Uu ([.int .i64 2,.int .i64 0]) U8<|Uu ([.int .i64 4,.int .i64 0]) U8<|Uu ([.int .i64 0,.int .i64 2]) U8<|Uu ([.int .i64 2,.int .i64 2]) U8<|Uu ([.int .i64 4,.int .i64 2]) U8<|Ux [[.int .i64 0,.int .i64 0],[.int .i64 2,.int .i64 0],[.int .i64 4,.int .i64 0],[.int .i64 0,.int .i64 2],[.int .i64 2,.int .i64 2],[.int .i64 4,.int .i64 2]] U12 fun X _ _ v=>Uu ([.int .i64 0,.int .i64 1,.int .i64 4]) U8<|Uu ([.int .i64 0,.int .i64 4,.int .i64 3]) U8<|Uu ([.int .i64 1,.int .i64 2,.int .i64 5]) U8<|Uu ([.int .i64 1,.int .i64 5,.int .i64 4]) U8<|Ux [[.int .i64 0,.int .i64 1,.int .i64 4],[.int .i64 0,.int .i64 4,.int .i64 3],[.int .i64 1,.int .i64 2,.int .i64 5],[.int .i64 1,.int .i64 5,.int .i64 4]] U12 fun Y _ _ w=>C4 2 [2,3] b Z<|Up (G.dropAll (UD U3 ?_));exact ⟨Z,by rw [c];exact ⟨_,_,Z,v.mono mup,w.mono mup⟩⟩
 have aa:a % 8≠4:=by
  intro e;rw [e] at j;exact absurd j dc_
 refine Ua 2 [4,11,57] Z<|Ud (fun k=>?_) fun k=>?_
 ·have c:a % 8=5:=by
   have:=dT k;omega
  refine Uf fun R b=>Uu ([.int .i64 1,.int .i64 4]) U8<|Uu ([.int .i64 5,.int .i64 3]) U8<|Uu ([.int .i64 4,.int .i64 0]) U8<|Uu ([.int .i64 0,.int .i64 0]) U8<|Ux [[.int .i64 1,.int .i64 4],[.int .i64 5,.int .i64 3],[.int .i64 4,.int .i64 0],[.int .i64 0,.int .i64 0]] U12 fun ab _ _ x=>Uu ([.int .i64 3,.int .i64 2,.int .i64 1]) U8<|Uu ([.int .i64 3,.int .i64 1,.int .i64 0]) U8<|Ux [[.int .i64 3,.int .i64 2,.int .i64 1],[.int .i64 3,.int .i64 1,.int .i64 0]] U12 fun ac _ _ y=>C4 2 [2,3] b Z<|Up (G.dropAll (UD U3 ?_));exact ⟨Z,by rw [c];exact ⟨_,_,Z,x.mono mup,y.mono mup⟩⟩
 have ad:a % 8≠5:=by
  intro e;rw [e] at k;exact absurd k dc_
 refine Ua 2 [4,67] Z<|Ud (fun l=>?_) fun l=>?_
 ·have c:a % 8=6:=by
   have:=dT l;omega
  refine Ub 1 Z fun R b=>Uu ([.int .i64 2,.int .i64 0]) U8<|Ux [[.int .i64 2,.int .i64 0]] U12 fun ae _ _ z=>Wa Z Z Z Z Z Z Z Z Z Z d.m_ z.m_ (.inr dc_) (by simp only [QA,Qy,maxLen];omega) dc_ fl_ fun af _ _ A=>Uu ([.int .i64 0,.int .i64 4,.int .i64 3]) U8<|Uu ([.int .i64 4,.int .i64 2,.int .i64 3]) U8<|Uu ([.int .i64 4,.int .i64 1,.int .i64 2]) U8<|Ux [[.int .i64 0,.int .i64 4,.int .i64 3],[.int .i64 4,.int .i64 2,.int .i64 3],[.int .i64 4,.int .i64 1,.int .i64 2]] U12 fun ag _ _ B=>C4 2 [2,3] b Z<|Up (G.dropAll (UD U3 ?_));exact ⟨Z,by rw [c];exact ⟨_,_,Z,A.mono mup,B.mono mup⟩⟩
 have ah:a % 8≠6:=by
  intro e;rw [e] at l;exact absurd l dc_
 refine Uf fun R b=>Uu ([.int .i64 0,.int .i64 0]) U8<|Uu ([.int .i64 6,.int .i64 0]) U8<|Uu ([.int .i64 0,.int .i64 6]) U8<|Uu ([.int .i64 2,.int .i64 2]) U8<|Ux [[.int .i64 0,.int .i64 0],[.int .i64 6,.int .i64 0],[.int .i64 0,.int .i64 6],[.int .i64 2,.int .i64 2]] U12 fun ai _ _ E=>Uu ([.int .i64 0,.int .i64 1,.int .i64 3]) U8<|Uu ([.int .i64 1,.int .i64 2,.int .i64 3]) U8<|Uu ([.int .i64 2,.int .i64 0,.int .i64 3]) U8<|Ux [[.int .i64 0,.int .i64 1,.int .i64 3],[.int .i64 1,.int .i64 2,.int .i64 3],[.int .i64 2,.int .i64 0,.int .i64 3]] U12 fun aj _ _ F=>C4 2 [2,3] b Z<|Up (G.dropAll (UD U3 ?_));exact ⟨Z,by rw [show a % 8=7 by omega];exact ⟨_,_,Z,E.mono mup,F.mono mup⟩⟩
theorem EA (a:-128<=n)(b:n<128):IntKind.i8.wrap n=n:=by
 simp [IntKind.wrap,IntKind.bits,IntKind.signed];omega
theorem Lc:∀ m:Nat,∀ p∈shP m,0<=p.1/\p.1<=6/\0<=p.2/\p.2<=6
 | 0=>by decide
 | 1=>by decide
 | 2=>by decide
 | 3=>by decide
 | 4=>by decide
 | 5=>by decide
 | 6=>by decide
 | _+7=>by
  show ∀ p∈([(0,0),(6,0),(0,6),(2,2)]:List (Int × Int)),0<=p.1/\p.1<=6/\0<=p.2/\p.2<=6;decide
theorem Fe:∀ m:Nat,(shP m).length<=6
 | 0=>by decide
 | 1=>by decide
 | 2=>by decide
 | 3=>by decide
 | 4=>by decide
 | 5=>by decide
 | 6=>by decide
 | _+7=>by
  show ([(0,0),(6,0),(0,6),(2,2)]:List (Int × Int)).length<=6;decide
def cD (m:Nat)(a b:Int)(h:Bool):List Pt:=(shP m).map fun p=>dB a b h p.1 p.2 1
theorem lG (m:Nat)(a b:Int)(h:Bool):(cD m a b h).length<=6:=by rw [cD,al];exact Fe m
theorem qw {z w:Int}(c:w≠0)(a:z.natAbs<1000000000)(b:w.natAbs<1000000000):QB 1 (kT z w):=by
 unfold kT;refine gZ om_ ?_ ?_
 ·show _<B9 ^ 1;split
  ·rw [Tq];exact a
  exact a
 exact b
theorem Bd {a b:Int}{h:Bool}{x y:Int}(i:0<n)(j:n<=4)(k:-128<=x/\x<=127)(l:-128<=y/\y<=127):QP 1 (dB a b h x y n):=by
 have c:=xX a;have d:=xX b;have g:dU h=1∨dU h=2:=by cases h <;> simp [dU]
 have f:∀ z:Int, -8<z->z<8->-32<z*n/\z*n<32:=fun z h1 h2=>by
  rcases (by omega:n=1∨n=2∨n=3∨n=4) with e | e | e | e <;> subst e <;> omega
 have m:=f _ c.1 c.2;have o:=f _ d.1 d.2;have p:0<dU h*n/\dU h*n<=8:=by rcases g with e | e <;> rw [e] <;> omega
 exact ⟨qw om_ om_ om_,qw om_ om_ om_⟩
theorem wK (C:Mem)(F:Tabs C)(d:Nat)(a b:Int)(h:Bool)(H:d<256):Pur cx.P 61 [Lb d a b h] C fun u D=>MeshIn D u (cD (d % 8) a b h) (shT (d % 8)):=by
 have I:=Lc (d % 8);have ad:=Fe (d % 8);refine Uk func61 42 U3 fun w0=>Uf fun R e=>Uw U6 fun J=>Uv U5 fun f=>Ug [1,2] e Z<|G.freeze 1 Z fun _ _ x=>Ub 1 Z fun R e=>Uc (bkT x 1) U8<|UM (CS _ d H) U7 (fun ae _ _ K=>?_);obtain ⟨pv,tv,rfl,g,q⟩:=K;obtain ⟨L,M,rfl,N,ag,_⟩:=id g;obtain ⟨k,l,rfl,ah,ai,_⟩:=id q;simp only [al] at g q N ⊢;refine C4 5 [1,2,3,4] e Z<|Ub 1 Z fun R e=>Uu [.slice none 0 0,.slice k (shT (d % 8)).length l] U8<|Uv U5 fun n=>Um (j:=0) U12<|Ug [1,2,3,5] e Z<|Ua 1 [1,2,3,5,6] Z<|G.nilArr 58 2<|G.perm (L':=[.obj n (.cells ⟨[.slice none 0 0,.slice k (shT (d % 8)).length l]⟩ 36 (0,0)),.arr (.slice none 0 0) 58 2 0 [],.obj f (.cells ⟨[.slice none 0 0,.slice none 0 0]⟩ 36 (0,0))]) (List.Perm.swap _ _ _)<|G.loop (fun fr C' s O=>∃ (i:Nat)(w:Value),(i<=(shP (d % 8)).length)/\fr=[(1,[],.pointer (some ⟨J,0,none⟩)),(2,[],.pointer (some ⟨f,0,none⟩)),(3,[],.slice L (shP (d % 8)).length M),(5,[],.pointer (some ⟨n,0,none⟩)),(6,[],.int .i64 i)]/\s=[.obj n (.cells ⟨[w,.slice k (shT (d % 8)).length l]⟩ 36 (0,0)),.arr w 58 2 ((cD (d % 8) a b h).take i).length (((cD (d % 8) a b h).take i).map gn).flatten,.obj f (.cells ⟨[.slice none 0 0,.slice none 0 0]⟩ 36 (0,0))]/\O=(shP (d % 8)).length-i) (hn_ [1,2,3,5,6] Z) ⟨0,.slice none 0 0,Qm _,Z,Z,Z⟩ (fun fr aj am m _ Q=>?_);obtain ⟨i,w,hi,rfl,rfl,rfl⟩:=Q;refine Ua 4 [1,2,3,5,6,18] Z<|Ud (fun t=>?_) fun t=>?_
 ·have v:i<(shP (d % 8)).length:=by
   have:=aK t;omega
  obtain ⟨p,o⟩:∃ p,(shP (d % 8))[i]?=some p:=⟨(shP (d % 8))[i],ak v⟩;obtain ⟨an,ao,ap,aq⟩:=I p (Qj o);have S:(cD (d % 8) a b h)[i]?=some (dB a b h p.1 p.2 1):=by unfold cD;rw [Qn,o];rfl
  have T:(cD (d % 8) a b h).take (i+1)=(cD (d % 8) a b h).take i++[dB a b h p.1 p.2 1]:=by rw [QO,S];rfl
  have ar:((cD (d % 8) a b h).take i).length<=6:=by rw [Qx];have:=lG (d % 8) a b h;omega
  refine Uy [0,1,2,3,4,5,6,7,8,9,10,11,12,13,14,15,16,17,18,19,20] [(16,1),(8,0),(14,0)] Z kr_ fun R hB e=>Ue U6<|Uj af U9<|Uc (bkT x 4) U8<|Uh 2 Z<|Ur g.m_ U10 om_ (bY o) fl_ fun au U=>VM U9 (fun _=>U) (fun _=>⟨by omega,om_⟩) fl_ Z (fun av V=>?_);have W:=V trivial;refine Uc W U8<|Vj (c:=p.1) U8 (EA om_ om_) U2<|Uh 2 Z<|Ur g.m_ U10 om_ (bY o) fl_ fun ax X=>VM U9 (fun _=>X) (fun _=>⟨by omega,om_⟩) fl_ Z (fun ay Y=>?_);have aa:=Y trivial;refine Uc aa U8<|Vj (c:=p.2) U8 (EA om_ om_) U2<|Uu [.int .i8 p.1,.int .i8 p.2] U8<|Uz (fun _=>(Be _ F.m_ d a b h p.1 p.2 1 dc_ dc_ ⟨by omega,by omega⟩ ⟨by omega,by omega⟩)) U9<|Ux [gn (dB a b h p.1 p.2 1)] U12 fun az _ _ ab=>UF (j:=1) U11 ab.m_ Z aw (by simp only [aJ];omega) fl_ fun z A B=>Ue U6<|Um (j:=1) U12<|Ug [1,2,3,5,6] e Z<|Ub 1 Z fun R e=>Ul _ U7<|C4 1 [1,2,3,5,6] e Z<|Ut (L':=[.obj n (.cells ⟨[.slice z A B,.slice k (shT (d % 8)).length l]⟩ 36 (0,0)),.arr (.slice z A B) 58 2 ((cD (d % 8) a b h).take (i+1)).length (((cD (d % 8) a b h).take (i+1)).map gn).flatten,.obj f (.cells ⟨[.slice none 0 0,.slice none 0 0]⟩ 36 (0,0))]) (by rw [T,QZ,Q5,Qp];rfl)<|Un (m':=(shP (d % 8)).length-(i+1)) om_ mup (hn_ [1,2,3,5,6] Z) ⟨i+1,_,om_,Z,Z,Z⟩
 have v:i=(shP (d % 8)).length:=by
  have:=Ql t;omega
 have ac:(cD (d % 8) a b h).take i=cD (d % 8) a b h:=QI (by rw [v,cD,al];exact Qi _);rw [ac];refine G.freezeArr 1 ((cD (d % 8) a b h).map gn) rfl rfl (by intro r hr;obtain ⟨y,_,rfl⟩:=Qq.1 hr;rfl) (by rw [al]) (fun Cg hg E=>?_);obtain ⟨Aw,cw,rfl,_⟩:=id E;refine Uf fun R e=>Uj af U9<|Um (j:=1) U12<|Ug [2] e Z<|Up (UU af U4 ?_);exact ⟨Z,_,_,Z,E,q.mono mup⟩
structure Hts where
 h0:Int
 h1:Int
 h2:Int
 h3:Int
 h4:Int
 h5:Int
 half:Bool
def Ii (H:Hts):List Int:=[H.h0,H.h1,H.h2,H.h3,H.h4,H.h5]
def O6 (H:Hts):List Value:=[.int .i8 H.h0,.int .i8 H.h1,.int .i8 H.h2,.int .i8 H.h3,.int .i8 H.h4,.int .i8 H.h5,.bool H.half]
def PG (H:Hts):Prop:=∀ z∈Ii H, -128<=z/\z<=127
def fsK (n:Nat)(H:Hts):List Rat:=(List.range n).map fun i=>kT (((Ii H).getD (i % 6) 0).tmod 20) (dU H.half)
theorem ES (a:Int):-20<a.tmod 20/\a.tmod 20<20:=by
 have h:(a.tmod 20).natAbs=a.natAbs % 20:=S4 a 20;omega
theorem uz (h:Bool):dU h=1∨dU h=2:=by cases h <;> simp [dU]
theorem uC (n:Nat)(H:Hts):(fsK n H).length=n:=by simp [fsK]
theorem G9 (n:Nat)(H:Hts):∀ q∈fsK n H,QB 1 q:=by
 intro q a;unfold fsK at a;obtain ⟨i,_,rfl⟩:=Qq.1 a;have h1:=ES ((Ii H).getD (i % 6) 0);have h2:=uz H.half;exact qw om_ om_ om_
theorem Nm (H:Hts)(j:Nat)(a:j<6):((O6 H).drop j).take 1=[.int .i8 ((Ii H).getD j 0)]:=by
 rcases (by omega:j=0∨j=1∨j=2∨j=3∨j=4∨j=5) with rfl | rfl | rfl | rfl | rfl | rfl <;> rfl
theorem jg (C:Mem)(B:Tabs C)(o E:Value)(n:Nat)(F:Option Addr)(I:Nat)(H:Hts)(J:o=.slice F n I)(S:n<=400)(K:PG H):Pur cx.P 62 [.agg ⟨[o,E]⟩,.agg ⟨O6 H⟩] C fun u D=>Sl D 1 u ((fsK n H).map fh):=by
 subst J;obtain ⟨h0,h1,h2,h3,h4,h5,a⟩:=H;have T:maxLen<=9223372036854775807:=by simp [maxLen]
 refine Uk func62 31 U3 fun w0=>Uf fun R b=>Uw U6 fun p=>Uw U6 fun q=>C4 1 [2,3] b Z<|G.freeze 1 Z fun _ _ L=>G.freeze 0 Z fun _ _ s=>Uf fun R b=>Vi [] U12 fl_ fun t=>C4 1 [2,3,5] b Z<|Ua 1 [2,3,5,6] Z<|Ub 1 Z fun R b=>Uc (bkT s 1) U8<|Ug [2,3,5,6,10] b Z<|G.cut (fun fr C' d e=>(True)/\fr=[(2,[],.pointer (some ⟨p,0,none⟩)),(3,[],.pointer (some ⟨q,0,none⟩)),(5,[],.slice (some ⟨t,0,none⟩) 0 0),(6,[],.int .i64 (dU a))]/\d=[.arr (.slice (some ⟨t,0,none⟩) 0 0) 56 1 0 []]) ?_ (fun fr _ U e _ f=>?_)
 ·refine Ud (fun g=>?_) fun g=>?_
  ·have h1:a=true:=g;subst h1;refine Ua 1 [2,3,5,6] Z<|Uq 0 (Mem.le.refl _) (hn_ [2,3,5,6] Z) ⟨trivial,Z,Z⟩
  have h1:a=false:=g;subst h1;refine Uq 0 (Mem.le.refl _) (hn_ [2,3,5,6] Z) ⟨trivial,Z,Z⟩
 obtain ⟨_,rfl,rfl⟩:=f;refine Ua 1 [2,3,5,6,7] Z<|G.loop (fun fr C' d e=>∃ (i:Nat)(w:Value),(i<=n)/\fr=[(2,[],.pointer (some ⟨p,0,none⟩)),(3,[],.pointer (some ⟨q,0,none⟩)),(5,[],w),(6,[],.int .i64 (dU a)),(7,[],.int .i64 i)]/\d=[.arr w 56 1 ((fsK n ⟨h0,h1,h2,h3,h4,h5,a⟩).take i).length (((fsK n ⟨h0,h1,h2,h3,h4,h5,a⟩).take i).map fh).flatten]/\e=n-i) (hn_ [2,3,5,6,7] Z) ⟨0,_,Qm _,Z,Z,Z⟩ (fun fr V W m _ f=>?_);obtain ⟨i,w,X,rfl,rfl,rfl⟩:=f;refine Ub 2 Z fun R b=>Uc (bkT L 1) U8<|C4 2 [2,3,5,6,7,15] b Z<|Ud (fun h=>?_) fun h=>?_
 ·have k:i<n:=by
   have:=aK h;omega
  have v:i % 6<6:=Q2 _ dc_;obtain ⟨z,l⟩:∃ z,(Ii ⟨h0,h1,h2,h3,h4,h5,a⟩).getD (i % 6) 0=z:=⟨_,rfl⟩;have x:=Nm ⟨h0,h1,h2,h3,h4,h5,a⟩ (i % 6) v;rw [l] at x;have M:z∈Ii ⟨h0,h1,h2,h3,h4,h5,a⟩:=by
   rw [<- l,ax,ak (show i % 6<(Ii ⟨h0,h1,h2,h3,h4,h5,a⟩).length from v),Ry];exact Rh _
  have Y:=K z M;have aa:=ES z;have ab:=uz a;have N:(fsK n ⟨h0,h1,h2,h3,h4,h5,a⟩).take (i+1)=(fsK n ⟨h0,h1,h2,h3,h4,h5,a⟩).take i++[kT (z.tmod 20) (dU a)]:=by
   rw [QO,show (fsK n ⟨h0,h1,h2,h3,h4,h5,a⟩)[i]?=some (kT (z.tmod 20) (dU a)) by unfold fsK;rw [Qn,QY k,<- l];rfl];rfl
  have ac:((fsK n ⟨h0,h1,h2,h3,h4,h5,a⟩).take i).length<=400:=by rw [Qx,uC];omega
  refine Ub 2 Z fun R b=>U1 (i) (6) U6 om_ U2<|Ue U6<|UA ((i % 6)) U9 (fun _=>⟨by omega,by omega,(by show i % 6=0+(i % 6)*1;omega)⟩) U2<|Vr (PtrTo.blockT (Mem.get s mup) (i % 6) 1) U6 (show cq _ (((O6 ⟨h0,h1,h2,h3,h4,h5,a⟩).drop (i % 6)).take 1)=some (.int .i8 z) from by rw [x];rfl) Z<|UQ (c:=z) U8 (wrap_i64 om_ om_) fl_<|Vh (z.tmod 20) U6 dc_ U3<|Ue U6<|Us (OU _ B.m_ (z.tmod 20) (dU a) om_ om_ om_) U7 fl_<|Ux [fh (kT (z.tmod 20) (dU a))] U12 fun ad _ _ O=>D.append (j:=0) U11 O Z aw (by simp only [aJ];omega) fl_ fun A=>C4 1 [2,3,5,6,7] b Z<|Ub 1 Z fun R b=>Ul _ U7<|C4 1 [2,3,5,6,7] b Z<|Ut (L':=[.arr A 56 1 ((fsK n ⟨h0,h1,h2,h3,h4,h5,a⟩).take (i+1)).length (((fsK n ⟨h0,h1,h2,h3,h4,h5,a⟩).take (i+1)).map fh).flatten]) (by rw [N,QZ,Q5,Qp];rfl)<|Un (m':=n-(i+1)) om_ mup (hn_ [2,3,5,6,7] Z) ⟨i+1,A,om_,Z,Z,Z⟩
 have k:i=n:=by
  have:=Ql h;omega
 rw [show (fsK n ⟨h0,h1,h2,h3,h4,h5,a⟩).take i=fsK n ⟨h0,h1,h2,h3,h4,h5,a⟩ from QI (by rw [k,uC];exact Qi _)];exact Ua 2 [4] Z<|G.freezeArr 0 ((fsK n ⟨h0,h1,h2,h3,h4,h5,a⟩).map fh) rfl rfl (by intro r hr;obtain ⟨y,_,rfl⟩:=Qq.1 hr;rfl) (by rw [al]) fun Cg hg Q=>Ui U2<|⟨Z,Q⟩
structure Sgt where
 kind:Nat
 px:Int
 py:Int
 u0:Nat
 u1:Nat
 depth:Nat
 n0:Int
 n1:Int
 n2:Int
def N2 (s:Sgt):List Value:=[.int .u8 s.kind,.int .i8 s.px,.int .i8 s.py,.int .u8 s.u0,.int .u8 s.u1,.int .u8 s.depth,.int .i8 s.n0,.int .i8 s.n1,.int .i8 s.n2]
structure SgtR (s:Sgt):Prop where
 kind:s.kind<256
 px:-128<=s.px/\s.px<=127
 py:-128<=s.py/\s.py<=127
 u0:s.u0<256
 u1:s.u1<256
 depth:s.depth<256
 n0:-128<=s.n0/\s.n0<=127
 n1:-128<=s.n1/\s.n1<=127
 n2:-128<=s.n2/\s.n2<=127
structure Sht where
 kd:Nat
 a:Int
 b:Int
 h:Bool
def MP (S:Sht)(H:Hts)(sv:Value):List Value:=[.int .u8 S.kd,.int .i8 S.a,.int .i8 S.b,.bool S.h,.int .i8 H.h0,.int .i8 H.h1,.int .i8 H.h2,.int .i8 H.h3,.int .i8 H.h4,.int .i8 H.h5,.bool H.half,sv]
def rt (i:Nat):Str:=[UInt8.ofNat (65+i)]
def lH (S:Sht)(s:Sgt):Pt :=
 if lP (cD (S.kd % 8) S.a S.b S.h) (shT (S.kd % 8)) (dB S.a S.b S.h s.px s.py 2)≠[] then dB S.a S.b S.h s.px s.py 2
 else (cD (S.kd % 8) S.a S.b S.h).getD (s.depth % (cD (S.kd % 8) S.a S.b S.h).length) (0,0)
def ff (z:Int):Int:=if z.tmod 5=0 then 1 else z.tmod 5
def loU (s:Sgt):Nat:=if s.u0 % 3=s.u1 % 3 then 0 else s.u0 % 3
def upU (s:Sgt):Nat:=if s.u0 % 3=s.u1 % 3 then 1+s.u1 % 3 % 2 else s.u1 % 3
def fJ (S:Sht)(s:Sgt)(i:Nat):Obs :=
 if s.kind % 3=0 then ⟨1,[111,UInt8.ofNat (49+i)],qtx (lH S s).1,qtx (lH S s).2,[],rt (s.u1 % 3),[],[],[],[]⟩
 else if s.kind % 3=1 then ⟨2,[111,UInt8.ofNat (49+i)],qtx (lH S s).1,qtx (lH S s).2,qtx (kT (s.depth % 12:Nat) 2),rt (max (loU s) (upU s)),rt (min (loU s) (upU s)),[],[],[]⟩
 else ⟨3,[111,UInt8.ofNat (49+i)],qtx (lH S s).1,qtx (lH S s).2,[],rt (max (loU s) (upU s)),rt (min (loU s) (upU s)),qtx ((s.n0.tmod 5:Int):Rat),qtx ((s.n1.tmod 5:Int):Rat),qtx ((ff s.n2:Int):Rat)⟩
theorem wrap_u8 (a:0<=n)(b:n<256):IntKind.u8.wrap n=n:=by
 simp only [IntKind.wrap,IntKind.bits,IntKind.signed];simp;omega
theorem mW (i:Nat)(a:i<6):([[.int .u8 111],[.int .u8 (49+(i:Int))]]:List (List Value))=(([111,UInt8.ofNat (49+i)]:Str).map fun b=>[.int .u8 b.toNat]):=by
 rcases (by omega:i=0∨i=1∨i=2∨i=3∨i=4∨i=5) with rfl | rfl | rfl | rfl | rfl | rfl <;> rfl
theorem BC (j:Nat)(a:j<3):(([ah [65],ah [66],ah [67]]:List Value).drop j).take 1=[ah (rt j)]:=by
 rcases (by omega:j=0∨j=1∨j=2) with rfl | rfl | rfl <;> rfl
theorem yj:∀ m:Nat,0<(shP m).length
 | 0=>by decide
 | 1=>by decide
 | 2=>by decide
 | 3=>by decide
 | 4=>by decide
 | 5=>by decide
 | 6=>by decide
 | _+7=>by
  show 0<([(0,0),(6,0),(0,6),(2,2)]:List (Int × Int)).length;decide
theorem nL (a:Int):-5<a.tmod 5/\a.tmod 5<5:=by
 have h:(a.tmod 5).natAbs=a.natAbs % 5:=S4 a 5;omega
theorem Nf (s:Sgt):loU s<=2:=by unfold loU;split <;> omega
theorem Ma (s:Sgt):upU s<=2:=by unfold upU;split <;> omega
theorem FH (h:QP 1 p):QP 23 p/\PtR p:=⟨⟨h.1.le dc_,h.2.le dc_⟩,bO (h.1.le dc_),bO (h.2.le dc_)⟩
theorem rq (C:Mem)(r:Tabs C)(S:Sht)(s:Sgt)(H:Hts)(sv:Value)(i:Nat)(T:i<6)(hk:S.kd<256)(q:SgtR s)(hG:Good (cD (S.kd % 8) S.a S.b S.h) (shT (S.kd % 8))) :
  Pur cx.P 63 [.agg ⟨MP S H sv⟩,.agg ⟨N2 s⟩,.int .i64 i] C fun u _D=>u=.agg ⟨Ij (fJ S s i)⟩:=by
 have aE:=q.kind;have aF:=q.u0;have aG:=q.u1;have aH:=q.depth;have aI:=nL s.n0;have aJ:=nL s.n1;have aK:=nL s.n2;have am:=Nf s;have an:=Ma s;have ao:QP 1 (dB S.a S.b S.h s.px s.py 2):=Bd dc_ dc_ q.px q.py;obtain ⟨ap,aq⟩:=FH ao;obtain ⟨lo,v⟩:∃ n,loU s=n:=⟨_,rfl⟩;obtain ⟨up,w⟩:∃ n,upU s=n:=⟨_,rfl⟩;obtain ⟨p,x⟩:∃ p,lH S s=p:=⟨_,rfl⟩;obtain ⟨t,E⟩:∃ z,ff s.n2=z:=⟨_,rfl⟩;have aL:-5<t/\t<5:=by rw [<- E];unfold ff;split <;> omega
 rw [v] at am;rw [w] at an;have ae:0<(cD (S.kd % 8) S.a S.b S.h).length:=by rw [cD,al];exact yj _
 have aM:=lG (S.kd % 8) S.a S.b S.h;refine Uk func63 129 U3 fun w0=>Uf fun R d=>Uw U6 fun b3=>Uw U6 fun y=>Uv U5 fun g=>Ug [2,3,4,6] d Z<|G.freeze 2 Z fun _ _ ai=>G.freeze 1 Z fun _ _ k=>Ub 1 Z fun R d=>Uc (bkT ai 4) U8<|UM (wK _ r.m_ S.kd S.a S.b S.h hk) U7 (fun aN _ _ U=>?_);obtain ⟨v1,v2,rfl,V,ar⟩:=id U.ex;obtain ⟨A1,c1,rfl,au,aO,_⟩:=id V;obtain ⟨A2,c2,rfl,_,_,_⟩:=id ar;simp only [al] at V au U ⊢;refine Uv U5 fun b7=>Um (j:=0) U12<|Ug [2,3,4,6,7] d Z<|G.freeze 0 Z fun _ _ W=>G.cut (fun fr C' l m=>∃ (f:Nat),(True)/\fr=[(4,[],.pointer (some ⟨y,0,none⟩)),(6,[],.pointer (some ⟨g,0,none⟩)),(7,[],.pointer (some ⟨b7,0,none⟩)),(8,[],.pointer (some ⟨f,0,none⟩))]/\l=[.obj f (.cells ⟨[.int .i64 (1+((s.kind % 3:Nat):Int)),ah [111,UInt8.ofNat (49+i)],ah (qtx (dB S.a S.b S.h s.px s.py 2).1),ah (qtx (dB S.a S.b S.h s.px s.py 2).2),ah [],ah [],ah [],ah [],ah [],ah []]⟩ 62 (0,0)),.obj g (.cells ⟨[.int .i64 0,ah [],ah [],ah [],ah [],ah [],ah [],ah [],ah [],ah []]⟩ 62 (0,0))]) ?_ (fun fr aP aQ m aR o=>?_)
 ·refine UV (.cut [0,1,2,3,4,5,6,7,10,11,12,13,14] (.alt 8 (.cut [] (.alt 9 (.fin [15,16,17]) (.alt 16 (.fin [9,15,17]) .stop))) (.alt 16 (.fin [8,9,15,17]) .stop))) [(14,1),(3,0),(6,0)] Z Z kr_ fun R F d I=>Ue U6<|Uc (bkT k 1) U8<|U1 (s.kind) (3) U6 om_ U2<|Vj (c:=((s.kind % 3:Nat):Int)) U8 (wrap_i64 om_ om_) U2<|Ul _ U7<|Ue U6<|Vj (c:=(i:Int)) U8 (wrap_u8 om_ om_) U2<|D.int ((49+(i:Int))) U4 (wrap_u8 om_ om_) U2<|Ue U6<|Uc (bkT ai 4) U8<|Ue U6<|Uc (bkT k 2) U8<|Uz (fun _=>(Be _ r.m_ S.kd S.a S.b S.h s.px s.py 2 dc_ dc_ q.px q.py)) U9<|UK I Z ⟨?_, ?_,trivial⟩
  ·refine Ux [[.int .u8 111],[.int .u8 (49+(i:Int))]] U12 fun av aw _ J=>UK I Z ⟨?_, ?_,trivial⟩
   ·exact VE (show Sl _ 1 _ (([111,UInt8.ofNat (49+i)]:Str).map fun b=>[.int .u8 b.toNat]) from by rw [<- mW i T];exact J.mono mup) U11 fl_<|Uu [.int .i64 (1+((s.kind % 3:Nat):Int)),ah [111,UInt8.ofNat (49+i)],ah (qtx (dB S.a S.b S.h s.px s.py 2).1),ah (qtx (dB S.a S.b S.h s.px s.py 2).2),ah [],ah [],ah [],ah [],ah [],ah []] U8<|Uv U5 fun f=>Um (j:=0) U12<|Ug [4,6,7,8] d Z<|Uq 0 mup (hn_ [4,6,7,8] Z) ⟨f,trivial,Z,Z⟩
   exact Uv U5 fun f=>VE (show Sl _ 1 _ (([111,UInt8.ofNat (49+i)]:Str).map fun b=>[.int .u8 b.toNat]) from by rw [<- mW i T];exact J.mono mup) U11 fl_<|Uu [.int .i64 (1+((s.kind % 3:Nat):Int)),ah [111,UInt8.ofNat (49+i)],ah (qtx (dB S.a S.b S.h s.px s.py 2).1),ah (qtx (dB S.a S.b S.h s.px s.py 2).2),ah [],ah [],ah [],ah [],ah [],ah []] U8<|Um (j:=0) U12<|Ug [4,6,7,8] d Z<|Uq 0 mup (hn_ [4,6,7,8] Z) ⟨f,trivial,Z,Z⟩
  exact Uv U5 fun f=>Ux [[.int .u8 111],[.int .u8 (49+(i:Int))]] U12 fun av aw _ J=>VE (show Sl _ 1 _ (([111,UInt8.ofNat (49+i)]:Str).map fun b=>[.int .u8 b.toNat]) from by rw [<- mW i T];exact J.mono mup) U11 fl_<|Uu [.int .i64 (1+((s.kind % 3:Nat):Int)),ah [111,UInt8.ofNat (49+i)],ah (qtx (dB S.a S.b S.h s.px s.py 2).1),ah (qtx (dB S.a S.b S.h s.px s.py 2).2),ah [],ah [],ah [],ah [],ah [],ah []] U8<|Um (j:=0) U12<|Ug [4,6,7,8] d Z<|Uq 0 mup (hn_ [4,6,7,8] Z) ⟨f,trivial,Z,Z⟩
 obtain ⟨f,_,rfl,rfl⟩:=o;refine Uf fun R d=>Uc (bkT W 2) U8<|Ue U6<|Uj af U9<|Uo (qE _ r.m_ _ _ _ (dB S.a S.b S.h s.px s.py 2) U.m_ hG ap aq) U7<|C4 5 [4,6,7,8,9] d Z<|Ua 2 [4,6,7,8,42] Z<|G.cut (fun fr C' l m=>(True)/\fr=[(4,[],.pointer (some ⟨y,0,none⟩)),(6,[],.pointer (some ⟨g,0,none⟩)),(8,[],.pointer (some ⟨f,0,none⟩))]/\l=[.obj f (.cells ⟨[.int .i64 (1+((s.kind % 3:Nat):Int)),ah [111,UInt8.ofNat (49+i)],ah (qtx p.1),ah (qtx p.2),ah [],ah [],ah [],ah [],ah [],ah []]⟩ 62 (0,0)),.obj g (.cells ⟨[.int .i64 0,ah [],ah [],ah [],ah [],ah [],ah [],ah [],ah [],ah []]⟩ 62 (0,0))]) ?_ (fun fr _ aS m _ o=>?_)
 ·refine Ud (fun X=>?_) fun X=>?_
  ·have ay:lP (cD (S.kd % 8) S.a S.b S.h) (shT (S.kd % 8)) (dB S.a S.b S.h s.px s.py 2)=[]:=by simpa using X
   have aj:s.depth % (cD (S.kd % 8) S.a S.b S.h).length<(cD (S.kd % 8) S.a S.b S.h).length:=Q2 _ ae;have Y:p=(cD (S.kd % 8) S.a S.b S.h)[s.depth % (cD (S.kd % 8) S.a S.b S.h).length]:=by
    rw [<- x,lH,aA (by rw [ay];simp),ax,ak aj,Ry]
   have hp:(cD (S.kd % 8) S.a S.b S.h)[s.depth % (cD (S.kd % 8) S.a S.b S.h).length]?=some p:=by rw [Y];exact ak aj
   refine Uy [0,1,2,3,4,5,6,7,8,9,10,11,12] [(4,0)] Z kr_ fun R F d=>Ue U6<|Uc (bkT W 1) U8<|Ue U6<|Uc (bkT k 1) U8<|Vj (c:=(s.depth:Int)) U8 (wrap_i64 om_ om_) U2<|Ue U6<|Uc (bkT W 1) U8<|Ue U6<|U1 (s.depth) ((cD (S.kd % 8) S.a S.b S.h).length) U6 ae U2<|Ur V.m_ U10 om_ (bY hp) fl_ fun aT az=>Uc az U8<|Ue U6<|Um (j:=0) U12<|Ug [4,6,8] d Z<|Uq 0 (Mem.le.refl _) (hn_ [4,6,8] Z) ⟨trivial,Z,Z⟩
  have aB:lP (cD (S.kd % 8) S.a S.b S.h) (shT (S.kd % 8)) (dB S.a S.b S.h s.px s.py 2)≠[]:=by simpa using X
  have Y:p=dB S.a S.b S.h s.px s.py 2:=by rw [<- x,lH,aV aB]
  subst Y;refine Uq 0 (Mem.le.refl _) (hn_ [4,6,8] Z) ⟨trivial,Z,Z⟩
 obtain ⟨_,rfl,rfl⟩:=o;refine Uf fun R d=>Uu ([ah [65],ah [66],ah [67]]) U8<|Uv U5 fun aC=>Um (j:=0) U12<|Ug [4,6,8,11] d Z<|G.freeze 0 Z fun _ _ K=>Uy [0,1,2,3,4,5,6,7,8,9,10,11] [(4,0),(9,0)] Z kr_ fun R F d=>Ue U6<|UA (3) U9 ag U2<|Uc (bkT k 1) U8<|U1 (s.u0) (3) U6 om_ U2<|Vj (c:=((s.u0 % 3:Nat):Int)) U8 (wrap_i64 om_ om_) U2<|Ue U6<|UA (4) U9 ag U2<|Uc (bkT k 1) U8<|U1 (s.u1) (3) U6 om_ U2<|Vj (c:=((s.u1 % 3:Nat):Int)) U8 (wrap_i64 om_ om_) U2<|C4 2 [4,6,8,11,12,13] d Z<|Ub 1 Z fun R d=>Uj af U9<|C4 1 [4,6,8,11,12,13,68] d Z<|Ud (fun L=>?_) fun L=>?_
 ·have A:s.kind % 3=0:=by
   have:=dT L;omega
  refine Ub 1 Z fun R d=>UA ((s.u1 % 3)) U9 (fun _=>⟨by omega,by omega,(by show s.u1 % 3=0+(s.u1 % 3)*1;omega)⟩) U2<|Vr (PtrTo.blockT (Mem.get K mup) (s.u1 % 3) 1) U6 (show cq _ ((([ah [65],ah [66],ah [67]]:List Value).drop (s.u1 % 3)).take 1)=some (ah (rt (s.u1 % 3))) from by rw [BC _ om_];rfl) Z<|Ue U6<|Um (j:=0) U12<|Ug [6,8] d Z<|Uf fun R d=>Uj af U9<|Um (j:=1) U12<|Ug [6] d Z<|Up (UU af U4 ?_);exact ⟨Z,by unfold fJ;rw [aV A,x,A];rfl⟩
 have A:¬ s.kind % 3=0:=by
  intro e;rw [e] at L;exact absurd L dc_
 refine Ua 3 [4,6,8,11,12,13,76] Z<|G.cut (fun fr C' l m=>(True)/\fr=[(4,[],.pointer (some ⟨y,0,none⟩)),(6,[],.pointer (some ⟨g,0,none⟩)),(8,[],.pointer (some ⟨f,0,none⟩)),(11,[],.pointer (some ⟨aC,0,none⟩)),(12,[],.int .i64 (lo:Nat)),(13,[],.int .i64 (up:Nat))]/\l=[.obj f (.cells ⟨[.int .i64 (1+((s.kind % 3:Nat):Int)),ah [111,UInt8.ofNat (49+i)],ah (qtx p.1),ah (qtx p.2),ah [],ah [],ah [],ah [],ah [],ah []]⟩ 62 (0,0)),.obj g (.cells ⟨[.int .i64 0,ah [],ah [],ah [],ah [],ah [],ah [],ah [],ah [],ah []]⟩ 62 (0,0))]) ?_ (fun fr _ aU m _ o=>?_)
 ·refine Ud (fun M=>?_) fun M=>?_
  ·have B:s.u0 % 3=s.u1 % 3:=by
    have:=dT M;omega
   have aa:lo=0:=by rw [<- v,loU,aV B]
   have ab:up=1+s.u1 % 3 % 2:=by rw [<- w,upU,aV B]
   subst aa;subst ab;refine Ub 1 Z fun R d=>U1 ((s.u1 % 3)) (2) U6 om_ U2<|Ul _ U7<|C4 2 [4,6,8,11,12,13] d Z<|Uq 0 (Mem.le.refl _) (hn_ [4,6,8,11,12,13] Z) ⟨trivial,Z,Z⟩
  have B:¬ s.u0 % 3=s.u1 % 3:=by
   intro e;rw [e,beq_self_eq_true] at M;exact absurd M dc_
  have aa:lo=s.u0 % 3:=by rw [<- v,loU,aA B]
  have ab:up=s.u1 % 3:=by rw [<- w,upU,aA B]
  subst aa;subst ab;refine Uq 0 (Mem.le.refl _) (hn_ [4,6,8,11,12,13] Z) ⟨trivial,Z,Z⟩
 obtain ⟨_,rfl,rfl⟩:=o;refine G.cut (fun fr C' l m=>(True)/\fr=[(4,[],.pointer (some ⟨y,0,none⟩)),(6,[],.pointer (some ⟨g,0,none⟩)),(8,[],.pointer (some ⟨f,0,none⟩))]/\l=[.obj f (.cells ⟨[.int .i64 (1+((s.kind % 3:Nat):Int)),ah [111,UInt8.ofNat (49+i)],ah (qtx p.1),ah (qtx p.2),ah [],ah (rt (max lo up)),ah (rt (min lo up)),ah [],ah [],ah []]⟩ 62 (0,0)),.obj g (.cells ⟨[.int .i64 0,ah [],ah [],ah [],ah [],ah [],ah [],ah [],ah [],ah []]⟩ 62 (0,0))]) ?_ (fun fr aW aX m aY o=>?_)
 ·refine UV (.cut [0,1,2,3,4,5,6,7,8,10] (.alt 9 (.fin [11,12,13]) (.alt 11 (.fin [9,12,13]) .stop))) [] Z Z kr_ fun R F d I=>Uh 2 Z<|D.max (((max lo up:Nat):Int)) U6 om_ U2<|UA ((max lo up)) U9 (fun _=>⟨by omega,by omega,(by show max lo up=0+(max lo up)*1;omega)⟩) U2<|Vr (PtrTo.blockT (Mem.get K mup) (max lo up) 1) U6 (show cq _ ((([ah [65],ah [66],ah [67]]:List Value).drop (max lo up)).take 1)=some (ah (rt (max lo up))) from by rw [BC _ om_];rfl) Z<|Uh 2 Z<|D.min (((min lo up:Nat):Int)) Z Z Z Z Z Z om_ Z Z<|UA ((min lo up)) U9 (fun _=>⟨by omega,by omega,(by show min lo up=0+(min lo up)*1;omega)⟩) U2<|Ue U6<|UK I Z ⟨?_, ?_,trivial⟩
  ·exact Vr (PtrTo.blockT (Mem.get K mup) (min lo up) 1) U6 (show cq _ ((([ah [65],ah [66],ah [67]]:List Value).drop (min lo up)).take 1)=some (ah (rt (min lo up))) from by rw [BC _ om_];rfl) Z<|Um (j:=0) U12<|Ue U6<|Um (j:=0) U12<|Ug [4,6,8] d Z<|Uq 0 mup (hn_ [4,6,8] Z) ⟨trivial,Z,Z⟩
  exact Um (j:=0) U12<|Vr (PtrTo.blockT (Mem.get K mup) (min lo up) 1) U6 (show cq _ ((([ah [65],ah [66],ah [67]]:List Value).drop (min lo up)).take 1)=some (ah (rt (min lo up))) from by rw [BC _ om_];rfl) Z<|Ue U6<|Um (j:=0) U12<|Ug [4,6,8] d Z<|Uq 0 mup (hn_ [4,6,8] Z) ⟨trivial,Z,Z⟩
 obtain ⟨_,rfl,rfl⟩:=o;refine Ub 1 Z fun R d=>Uj af U9<|C4 1 [4,6,8,94] d Z<|Ud (fun N=>?_) fun N=>?_
 ·have O:s.kind % 3=1:=by
   have:=dT N;omega
  refine Ub 1 Z fun R d=>Uc (bkT k 1) U8<|U1 (s.depth) (12) U6 om_ U2<|UQ (c:=((s.depth % 12:Nat):Int)) U8 (wrap_i64 om_ om_) fl_<|Us (Ft _ r.m_ ((s.depth % 12:Nat):Int) 2 om_ om_ om_) U7 fl_<|Uh 4 Z<|Um (j:=0) U12<|Ug [6,8] d Z<|Uf fun R d=>Uj af U9<|Um (j:=1) U12<|Ug [6] d Z<|Up (UU af U4 ?_);exact ⟨Z,by unfold fJ;rw [aA A,aV O,x,v,w,O];rfl⟩
 have O:¬ s.kind % 3=1:=by
  intro e;rw [e] at N;exact absurd N dc_
 have aD:s.kind % 3=2:=by omega
 refine Ub 1 Z fun R d=>UA (8) U9 ag U2<|Uc (bkT k 1) U8<|Vh (s.n2.tmod 5) U6 dc_ U3<|UQ (c:=(s.n2.tmod 5)) U8 (wrap_i64 om_ om_) fl_<|C4 1 [4,6,8,14] d Z<|Ua 2 [4,6,8,14,111] Z<|G.cut (fun fr C' l m=>(True)/\fr=[(4,[],.pointer (some ⟨y,0,none⟩)),(6,[],.pointer (some ⟨g,0,none⟩)),(8,[],.pointer (some ⟨f,0,none⟩)),(14,[],.int .i64 t)]/\l=[.obj f (.cells ⟨[.int .i64 (1+((s.kind % 3:Nat):Int)),ah [111,UInt8.ofNat (49+i)],ah (qtx p.1),ah (qtx p.2),ah [],ah (rt (max lo up)),ah (rt (min lo up)),ah [],ah [],ah []]⟩ 62 (0,0)),.obj g (.cells ⟨[.int .i64 0,ah [],ah [],ah [],ah [],ah [],ah [],ah [],ah [],ah []]⟩ 62 (0,0))]) ?_ (fun fr _ aZ m _ o=>?_)
 ·refine Ud (fun Q=>?_) fun Q=>?_
  ·have ac:s.n2.tmod 5=0:=dT Q;have ad:t=1:=by rw [<- E,ff,aV ac]
   subst ad;refine Ua 1 [4,6,8,14] Z<|Uq 0 (Mem.le.refl _) (hn_ [4,6,8,14] Z) ⟨trivial,Z,Z⟩
  have ac:¬ s.n2.tmod 5=0:=by
   intro e;rw [e] at Q;exact absurd Q dc_
  have ad:t=s.n2.tmod 5:=by rw [<- E,ff,aA ac]
  subst ad;refine Uq 0 (Mem.le.refl _) (hn_ [4,6,8,14] Z) ⟨trivial,Z,Z⟩
 obtain ⟨_,rfl,rfl⟩:=o;refine Uy [0,1,2,3,4,5,6,7,8,9,10,11,12,13,14,15,16] [(5,1),(11,1),(13,1),(4,0),(10,0)] Z kr_ fun R F d=>Ue U6<|UA (6) U9 ag U2<|Uc (bkT k 1) U8<|Vh (s.n0.tmod 5) U6 dc_ U3<|Vj (c:=(s.n0.tmod 5)) U8 (wrap_i64 om_ om_) U2<|Uz (fun _=>(li _ r.m_ (s.n0.tmod 5) om_)) U9<|Ue U6<|UA (7) U9 ag U2<|Uc (bkT k 1) U8<|Vh (s.n1.tmod 5) U6 dc_ U3<|Vj (c:=(s.n1.tmod 5)) U8 (wrap_i64 om_ om_) U2<|Uz (fun _=>(li _ r.m_ (s.n1.tmod 5) om_)) U9<|Ue U6<|Uz (fun _=>(li _ r.m_ t om_)) U9<|Uu [ah (qtx ((s.n0.tmod 5:Int):Rat)),ah (qtx ((s.n1.tmod 5:Int):Rat)),ah (qtx ((t:Int):Rat))] U8<|Ue U6<|Um (j:=0) U12<|Ug [6,8] d Z<|Uf fun R d=>Uj af U9<|Um (j:=1) U12<|Ug [6] d Z<|Up (UU af U4 ?_);exact ⟨Z,by unfold fJ;rw [aA A,aA O,x,v,w,E,aD];rfl⟩
def Dq:Sgt:=⟨0,0,0,0,0,0,0,0,0⟩
def colK:List Lay:=[⟨[65],0,none⟩,⟨[66],0,some 5⟩,⟨[67],1,none⟩]
theorem Jg:qtx 5=[53]:=by
 show qtx ((5:Int):Rat)=_;rw [mS];decide +kernel
theorem KB:colK.map yT=[[ah [65],ah [48],ah []],[ah [66],ah [48],ah [53]],[ah [67],ah [49],ah []]]:=by
 simp only [colK,List.map,yT,vo,qtx_zero,dz,Jg]
def qZ (S:Sht)(l:List Sgt):List Obs:=(List.range (min l.length 6)).map fun i=>fJ S (l.getD i Dq) i
def cA (S:Sht)(H:Hts)(l:List Sgt):Bk:=⟨cD (S.kd % 8) S.a S.b S.h,shT (S.kd % 8),(fsK (cD (S.kd % 8) S.a S.b S.h).length H).map qtx,colK,qZ S l⟩
theorem jJ (S:Sht)(l:List Sgt):(qZ S l).length=min l.length 6:=by simp [qZ]
theorem Ge (S:Sht){l:List Sgt}{s:Sgt}(h:l[i]?=some s)(a:i<6):(qZ S l)[i]?=some (fJ S s i):=by
 have h1:=(aE.1 h).1;rw [qZ,Qn,QY om_];show some (fJ S (l.getD i Dq) i)=_;rw [ax,h];rfl
theorem Gs (C:Mem)(q:Tabs C)(S:Sht)(H:Hts)(U:Value)(l:List Sgt)(V:S.kd<256)(A:PG H)(L:Sl C 9 U (l.map N2))(hs:∀ s∈l,SgtR s)(hG:Good (cD (S.kd % 8) S.a S.b S.h) (shT (S.kd % 8))) :
  Pur cx.P 34 [.agg ⟨MP S H U⟩] C fun u D=>BookIn D u (cA S H l):=by
 obtain ⟨As,cs,rfl,ag,au,_⟩:=id L;have av:maxLen<=9223372036854775807:=by simp [maxLen]
 simp only [al] at L ag ⊢;have ax:=lG (S.kd % 8) S.a S.b S.h;refine Uk func34 44 U3 fun w0=>?_;refine Uf fun R f=>?_;refine Uw U6 (fun W=>?_);refine Uv U5 (fun v=>?_);refine Ug [1,2] f Z ?_;refine G.freeze 1 Z (fun _ _ B=>?_);refine Ub 1 Z fun R f=>?_;refine Uc (bkT B 4) U8 ?_;refine UM (wK _ q.m_ S.kd S.a S.b S.h V) U7 (fun v8 _ _ X=>?_);obtain ⟨v1,v2,rfl,M,N⟩:=id X.ex;obtain ⟨k,n,rfl,ai,ay,_⟩:=id M;obtain ⟨A2,c2,rfl,_,_,_⟩:=id N;simp only [al] at M N ai X ⊢;refine Uv U5 (fun b3=>?_);refine Um (j:=0) U12 ?_;refine Ug [1,2,3] f Z ?_;refine G.freeze 0 Z (fun _ _ Y=>?_);refine G.cut (fun fr C' E O=>∃ (c:Option Addr)(d:Nat)(x:Value)(g:Nat),(Sl C' 1 (.slice c (fsK (cD (S.kd % 8) S.a S.b S.h).length H).length d) ((fsK (cD (S.kd % 8) S.a S.b S.h).length H).map fh)/\Sl C' 3 x [[ah [65],ah [48],ah []],[ah [66],ah [48],ah [53]],[ah [67],ah [49],ah []]])/\fr=[(1,[],.pointer (some ⟨W,0,none⟩)),(2,[],.pointer (some ⟨v,0,none⟩)),(4,[],.pointer (some ⟨g,0,none⟩))]/\E=[.obj g (.cells ⟨[.slice k (cD (S.kd % 8) S.a S.b S.h).length n,.slice A2 (shT (S.kd % 8)).length c2,.slice c (fsK (cD (S.kd % 8) S.a S.b S.h).length H).length d,x,.slice none 0 0]⟩ 42 (0,0)),.obj v (.cells ⟨[.slice none 0 0,.slice none 0 0,.slice none 0 0,.slice none 0 0,.slice none 0 0]⟩ 42 (0,0))]) ?_ (fun fr az aA O aB Q=>?_)
 ·refine UV (.cut [0,1,2,3,5,6,7] (.alt 4 (.cut [] (.alt 8 (.fin [9,10,11]) (.alt 10 (.fin [8,9,11]) .stop))) (.alt 8 (.cut [] (.alt 4 (.fin [9,10,11]) (.alt 10 (.fin [4,9,11]) .stop))) (.alt 10 (.cut [] (.alt 4 (.fin [8,9,11]) (.alt 8 (.fin [4,9,11]) .stop))) .stop)))) [] Z Z kr_ (fun R hB f F=>?_);refine Uc (bkT Y 2) U8 ?_;refine Uc (bkT Y 2) U8 ?_;refine Ue U6 ?_;refine Uc (bkT B 7) U8 ?_;refine Uu ([ah [65],ah [48],ah []]) U8 ?_;refine Uu ([ah [66],ah [48],ah [53]]) U8 ?_;refine Uu ([ah [67],ah [49],ah []]) U8 ?_;refine UK F Z ⟨?_, ?_, ?_,trivial⟩
  ·refine UG (jg _ q.m_ _ _ (cD (S.kd % 8) S.a S.b S.h).length k n H Z om_ A) U7 fl_ (fun I J _ e=>?_);refine UK F Z ⟨?_, ?_,trivial⟩
   ·refine UO [[ah [65],ah [48],ah []],[ah [66],ah [48],ah [53]],[ah [67],ah [49],ah []]] U12 fl_ (fun o K _ p=>?_);obtain ⟨c,d,rfl,_,_,_⟩:=id e;simp only [al] at e ⊢;refine Uu [.slice k (cD (S.kd % 8) S.a S.b S.h).length n,.slice A2 (shT (S.kd % 8)).length c2,.slice c (fsK (cD (S.kd % 8) S.a S.b S.h).length H).length d,.slice (some ⟨o,0,none⟩) 3 3,.slice none 0 0] U8 ?_;refine Uv U5 (fun g=>?_);refine Um (j:=0) U12 ?_;refine Ug [1,2,4] f Z ?_;exact Uq 0 mup (hn_ [1,2,4] Z) ⟨c,d,_,g,⟨e.mono mup,p.mono mup⟩,Z,Z⟩
   refine Uv U5 (fun g=>?_);refine UO [[ah [65],ah [48],ah []],[ah [66],ah [48],ah [53]],[ah [67],ah [49],ah []]] U12 fl_ (fun o K _ p=>?_);obtain ⟨c,d,rfl,_,_,_⟩:=id e;simp only [al] at e ⊢;refine Uu [.slice k (cD (S.kd % 8) S.a S.b S.h).length n,.slice A2 (shT (S.kd % 8)).length c2,.slice c (fsK (cD (S.kd % 8) S.a S.b S.h).length H).length d,.slice (some ⟨o,0,none⟩) 3 3,.slice none 0 0] U8 ?_;refine Um (j:=0) U12 ?_;refine Ug [1,2,4] f Z ?_;exact Uq 0 mup (hn_ [1,2,4] Z) ⟨c,d,_,g,⟨e.mono mup,p.mono mup⟩,Z,Z⟩
  ·refine UO [[ah [65],ah [48],ah []],[ah [66],ah [48],ah [53]],[ah [67],ah [49],ah []]] U12 fl_ (fun o K _ p=>?_);refine UK F Z ⟨?_, ?_,trivial⟩
   ·refine UG (jg _ q.m_ _ _ (cD (S.kd % 8) S.a S.b S.h).length k n H Z om_ A) U7 fl_ (fun I J _ e=>?_);obtain ⟨c,d,rfl,_,_,_⟩:=id e;simp only [al] at e ⊢;refine Uu [.slice k (cD (S.kd % 8) S.a S.b S.h).length n,.slice A2 (shT (S.kd % 8)).length c2,.slice c (fsK (cD (S.kd % 8) S.a S.b S.h).length H).length d,.slice (some ⟨o,0,none⟩) 3 3,.slice none 0 0] U8 ?_;refine Uv U5 (fun g=>?_);refine Um (j:=0) U12 ?_;refine Ug [1,2,4] f Z ?_;exact Uq 0 mup (hn_ [1,2,4] Z) ⟨c,d,_,g,⟨e.mono mup,p.mono mup⟩,Z,Z⟩
   refine Uv U5 (fun g=>?_);refine UG (jg _ q.m_ _ _ (cD (S.kd % 8) S.a S.b S.h).length k n H Z om_ A) U7 fl_ (fun I J _ e=>?_);obtain ⟨c,d,rfl,_,_,_⟩:=id e;simp only [al] at e ⊢;refine Uu [.slice k (cD (S.kd % 8) S.a S.b S.h).length n,.slice A2 (shT (S.kd % 8)).length c2,.slice c (fsK (cD (S.kd % 8) S.a S.b S.h).length H).length d,.slice (some ⟨o,0,none⟩) 3 3,.slice none 0 0] U8 ?_;refine Um (j:=0) U12 ?_;refine Ug [1,2,4] f Z ?_;exact Uq 0 mup (hn_ [1,2,4] Z) ⟨c,d,_,g,⟨e.mono mup,p.mono mup⟩,Z,Z⟩
  refine Uv U5 (fun g=>?_);refine UK F Z ⟨?_, ?_,trivial⟩
  ·refine UG (jg _ q.m_ _ _ (cD (S.kd % 8) S.a S.b S.h).length k n H Z om_ A) U7 fl_ (fun I J _ e=>?_);refine UO [[ah [65],ah [48],ah []],[ah [66],ah [48],ah [53]],[ah [67],ah [49],ah []]] U12 fl_ (fun o K _ p=>?_);obtain ⟨c,d,rfl,_,_,_⟩:=id e;simp only [al] at e ⊢;refine Uu [.slice k (cD (S.kd % 8) S.a S.b S.h).length n,.slice A2 (shT (S.kd % 8)).length c2,.slice c (fsK (cD (S.kd % 8) S.a S.b S.h).length H).length d,.slice (some ⟨o,0,none⟩) 3 3,.slice none 0 0] U8 ?_;refine Um (j:=0) U12 ?_;refine Ug [1,2,4] f Z ?_;exact Uq 0 mup (hn_ [1,2,4] Z) ⟨c,d,_,g,⟨e.mono mup,p.mono mup⟩,Z,Z⟩
  refine UO [[ah [65],ah [48],ah []],[ah [66],ah [48],ah [53]],[ah [67],ah [49],ah []]] U12 fl_ (fun o K _ p=>?_);refine UG (jg _ q.m_ _ _ (cD (S.kd % 8) S.a S.b S.h).length k n H Z om_ A) U7 fl_ (fun I J _ e=>?_);obtain ⟨c,d,rfl,_,_,_⟩:=id e;simp only [al] at e ⊢;refine Uu [.slice k (cD (S.kd % 8) S.a S.b S.h).length n,.slice A2 (shT (S.kd % 8)).length c2,.slice c (fsK (cD (S.kd % 8) S.a S.b S.h).length H).length d,.slice (some ⟨o,0,none⟩) 3 3,.slice none 0 0] U8 ?_;refine Um (j:=0) U12 ?_;refine Ug [1,2,4] f Z ?_;exact Uq 0 mup (hn_ [1,2,4] Z) ⟨c,d,_,g,⟨e.mono mup,p.mono mup⟩,Z,Z⟩
 obtain ⟨c,d,x,g,⟨aj,aa⟩,rfl,rfl⟩:=Q;refine Ua 1 [1,2,4,5] Z ?_;refine G.nilArr 62 10 ?_;refine G.perm (L':=[.obj g (.cells ⟨[.slice k (cD (S.kd % 8) S.a S.b S.h).length n,.slice A2 (shT (S.kd % 8)).length c2,.slice c (fsK (cD (S.kd % 8) S.a S.b S.h).length H).length d,x,.slice none 0 0]⟩ 42 (0,0)),.arr (.slice none 0 0) 62 10 0 [],.obj v (.cells ⟨[.slice none 0 0,.slice none 0 0,.slice none 0 0,.slice none 0 0,.slice none 0 0]⟩ 42 (0,0))]) (List.Perm.swap _ _ _) ?_;refine G.loop (fun fr C' E O=>∃ (i:Nat)(w:Value),(i<=l.length/\i<=6)/\fr=[(1,[],.pointer (some ⟨W,0,none⟩)),(2,[],.pointer (some ⟨v,0,none⟩)),(4,[],.pointer (some ⟨g,0,none⟩)),(5,[],.int .i64 i)]/\E=[.obj g (.cells ⟨[.slice k (cD (S.kd % 8) S.a S.b S.h).length n,.slice A2 (shT (S.kd % 8)).length c2,.slice c (fsK (cD (S.kd % 8) S.a S.b S.h).length H).length d,x,w]⟩ 42 (0,0)),.arr w 62 10 ((qZ S l).take i).length (((qZ S l).take i).map Ij).flatten,.obj v (.cells ⟨[.slice none 0 0,.slice none 0 0,.slice none 0 0,.slice none 0 0,.slice none 0 0]⟩ 42 (0,0))]/\O=6-i) (hn_ [1,2,4,5] Z) ⟨0,.slice none 0 0,⟨Qm _,Qm _⟩,Z,Z,Z⟩ (fun fr aC aD m _ Q=>?_);obtain ⟨i,w,⟨hi,aE⟩,rfl,rfl,rfl⟩:=Q;refine Ub 2 Z fun R f=>?_;refine Uc (bkT B 1) U8 ?_;refine Uh 5 Z ?_;refine UB U8 ?_;refine Ug [1,2,4,5,27] f Z ?_;refine Ud (fun t=>?_) fun t=>?_
 ·have z:i<l.length/\i<6:=by
   by_cases h1:((i:Nat):Int)<(l.length:Nat)
   ·rw [QC h1] at t;have h2:=aK t;omega
   rw [QJ h1] at t;exact absurd t am
  obtain ⟨s,T⟩:∃ s,l[i]?=some s:=⟨l[i]'z.1,ak z.1⟩;have an:(qZ S l).take (i+1)=(qZ S l).take i++[fJ S s i]:=by rw [QO,Ge S T z.2];rfl
  have aF:((qZ S l).take i).length<=6:=by rw [Qx,jJ];omega
  refine Uy [0,1,2,3,4,5,6,7,8,9,10,11,12,13] [] Z kr_ (fun R hB f=>?_);refine Ue U6 ?_;refine Uj af U9 ?_;refine Uc (bkT B 12) U8 ?_;refine Ue U6 ?_;refine Uc (bkT B 1) U8 ?_;refine Ue U6 ?_;refine Ur L.m_ U10 om_ (bY T) fl_ (fun aG ao=>?_);refine Uc ao U8 ?_;refine Ue U6 ?_;refine UM (rq _ q.m_ S s H _ i z.2 V (hs s (Qj T)) hG) U7 (fun aH _ _ ap=>?_);subst ap;refine Ux [Ij (fJ S s i)] U12 (fun aI _ _ aq=>?_);refine UF (j:=1) U11 aq.m_ Z aw (by simp only [aJ];omega) fl_ (fun ab ac ad=>?_);refine Ue U6 ?_;refine Um (j:=1) U12 ?_;refine Ug [1,2,4,5] f Z ?_;refine Ub 1 Z fun R f=>?_;refine Ul _ U7 ?_;refine C4 1 [1,2,4,5] f Z ?_;refine Ut (L':=[.obj g (.cells ⟨[.slice k (cD (S.kd % 8) S.a S.b S.h).length n,.slice A2 (shT (S.kd % 8)).length c2,.slice c (fsK (cD (S.kd % 8) S.a S.b S.h).length H).length d,x,.slice ab ac ad]⟩ 42 (0,0)),.arr (.slice ab ac ad) 62 10 ((qZ S l).take (i+1)).length (((qZ S l).take (i+1)).map Ij).flatten,.obj v (.cells ⟨[.slice none 0 0,.slice none 0 0,.slice none 0 0,.slice none 0 0,.slice none 0 0]⟩ 42 (0,0))]) (by rw [an,QZ,Q5,Qp];rfl) ?_;refine Un (m':=6-(i+1)) om_ mup (hn_ [1,2,4,5] Z) ⟨i+1,_,⟨by omega,by omega⟩,Z,Z,Z⟩
 have z:i=min l.length 6:=by
  by_cases h1:((i:Nat):Int)<(l.length:Nat)
  ·rw [QC h1] at t;have h2:=Ql t;omega
  omega
 have ar:(qZ S l).take i=qZ S l:=QI (by rw [z,jJ];exact Qi _);rw [ar];refine G.freezeArr 1 ((qZ S l).map Ij) rfl rfl (by intro r hr;obtain ⟨y,_,rfl⟩:=Qq.1 hr;rfl) (by rw [al]) (fun Cg hg ae=>?_);obtain ⟨Aw,cw,rfl,_⟩:=id ae;obtain ⟨Ap,cp,rfl,_⟩:=id aa;refine Uf fun R f=>?_;refine Uj af U9 ?_;refine Um (j:=1) U12 ?_;refine Ug [2] f Z ?_;refine Up (UU af U4 ?_);exact ⟨Z,_,_,_,_,_,Z,M.mono mup,N.mono mup,(by rw [cA,<- yS];exact aj.mono mup),(by rw [cA,KB];exact aa.mono mup),ae⟩
instance:DecidableEq RowQ:=fun a b=>decidable_of_iff (a.f=b.f/\a.b=b.b) (by cases a;cases b;simp)
end Go.Proofs.YthnpijdjlddpmaaGreatDoor
