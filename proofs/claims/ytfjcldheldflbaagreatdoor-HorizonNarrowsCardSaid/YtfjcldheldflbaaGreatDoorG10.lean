/- Laws that the proofs of this seat share, part 10. -/
import Derived.Test.YtfjcldheldflbaaGreatDoorG9
import Derived.Test.YtfjcldheldflbaaGreatDoorShelf
set_option maxHeartbeats 4000000
namespace Go.Proofs.YtfjcldheldflbaaGreatDoor
open Go.Proofs.Tryz
open Go Go.Jog
set_option maxRecDepth 100000
variable {B:Bk}{C:Mem}{a b:Nat}{err:Nat->Int}{fs:List Rat}{i k n:Nat}{o:Obs}{p:Pt}{t:Tri}{v:Value}{vs:List Value}{z:Rat}
structure RowQ where
 f:List Rat
 b:Rat
def aC (vs:List Value)(rows:List RowQ):List (List Value):=List.zipWith (fun w (r:RowQ)=>[w,af (qtx r.b)]) vs rows
def RowsOk (C:Mem)(vs:List Value)(rows:List RowQ):Prop:=vs.length=rows.length/\∀ (i:Nat)(w:Value)(r:RowQ),vs[i]?=some w->rows[i]?=some r->Sl C 1 w (r.f.map eM)
theorem RowsOk.mono {C D:Mem}{a:List Value}{b:List RowQ}(h:RowsOk C a b)(c:C.le D):RowsOk D a b:=⟨h.1,fun i w r h1 h2=>(h.2 i w r h1 h2).mono c⟩
theorem RowsOk.m_ {D:Mem}{a:List RowQ}(h:RowsOk C vs a)(b:C.le D:=by exact mup):RowsOk D vs a:=RowsOk.mono h b
theorem RowsOk.nil (C:Mem):RowsOk C [] []:=⟨rfl,fun i w r h1 _=>by simp at h1⟩
theorem RowsOk.snoc {a:List RowQ}{r:RowQ}(h:RowsOk C vs a)(c:Sl C 1 v (r.f.map eM)):RowsOk C (vs++[v]) (a++[r]):=by
 have h0:=h.1;refine ⟨by simp [h0],fun j w r' h1 h2=>?_⟩;rcases Q1 j vs.length with d | e
 ·rw [Rr d] at h1;rw [Rr om_] at h2;exact h.2 j w r' h1 h2
 rw [Q3 e] at h1;rw [Q3 om_,<- h0] at h2;cases b:j-vs.length with
 | zero=>rw [b] at h1 h2;simp at h1 h2;subst h1;subst h2;exact c
 | succ q=>rw [b] at h1;simp at h1
theorem eJ {a:List RowQ}(h:vs.length=a.length)(v:Value)(r:RowQ):aC (vs++[v]) (a++[r])=aC vs a++[[v,af (qtx r.b)]]:=by
 unfold aC;rw [List.zipWith_append h];rfl
theorem bN {a:List RowQ}(h:vs.length=a.length):(aC vs a).length=a.length:=by simp [aC,h]
theorem bZ (b:List Value)(c:List RowQ):∀ r∈aC b c,r.length=2:=by
 intro r hr;unfold aC at hr;obtain ⟨i,a⟩:=Sc hr;rw [List.getElem?_zipWith] at a;cases h1:b[i]? <;> cases h2:c[i]? <;> rw [h1,h2] at a <;> simp at a
 subst a;rfl
def RowsIn (C:Mem)(v:Value)(rows:List RowQ):Prop:=∃ vs:List Value,RowsOk C vs rows/\Sl C 2 v (aC vs rows)
theorem RowsIn.mono {C D:Mem}{v:Value}{a:List RowQ}(h:RowsIn C v a)(b:C.le D):RowsIn D v a:=by
 obtain ⟨vs,h1,h2⟩:=h;exact ⟨vs,h1.mono b,h2.mono b⟩
theorem RowsIn.m_ {D:Mem}{a:List RowQ}(h:RowsIn C v a)(b:C.le D:=by exact mup):RowsIn D v a:=RowsIn.mono h b
def sC (s p:Nat)(x:Lay)(i k:Nat):RowQ:=⟨rZ (s*p) [(i*p+k, -1),((i-1)*p+k,1)], -x.min⟩
def G6 (s p:Nat)(m:Rat)(i k:Nat):RowQ:=⟨rZ (s*p) [(i*p+k,1),((i-1)*p+k, -1)],m⟩
def kv (s p:Nat)(x:Lay)(i k:Nat):List RowQ :=
 sC s p x i k::(match x.max with
  | none=>[]
  | some m=>[G6 s p m i k])
def bA (s p:Nat)(x:Lay)(i:Nat):Nat->List RowQ
 | 0=>[]
 | k+1=>bA s p x i k++kv s p x i k
def bh (s p:Nat)(col:List Lay):Nat->List RowQ
 | 0=>[]
 | n+1=>bh s p col n++bA s p (col.getD (n+1) ⟨[],0,none⟩) (n+1) p
theorem mV (s p:Nat)(x:Lay)(i:Nat):∀ k,(bA s p x i k).length<=2*k
 | 0=>Qz _
 | k+1=>by
  have:=mV s p x i k;have h2:(kv s p x i k).length<=2:=by unfold kv;split <;> simp
  simp only [bA,QG];omega
theorem jH (s p:Nat)(a:List Lay):∀ n,(bh s p a n).length<=2*(n*p)
 | 0=>by simp [bh]
 | n+1=>by
  have:=jH s p a n;have h2:=mV s p (a.getD (n+1) ⟨[],0,none⟩) (n+1) p;simp only [bh,QG,Nat.succ_mul];omega
theorem cX:qtx (-1)=[45,49]:=by
 rw [eY (q:=1) dc_ dc_,dF]
theorem st2 (c d:Rat)(e:a<n)(f:b<n):aD (aD (List.replicate n (af [48])) [af (qtx c)] a) [af (qtx d)] b=lm n [(b,d),(a,c)]:=by
 rw [mr,fD _ _ e,fD _ _ f]
theorem PS (c d:Rat)(e:a<n)(f:b<n)(g:a≠b):aD (aD (List.replicate n (af [48])) [af (qtx d)] b) [af (qtx c)] a=lm n [(b,d),(a,c)]:=by
 rw [st2 d c f e];unfold lm;rw [wP (List.Perm.swap _ _ _) (by simp;exact g)]
theorem js (n:Nat)(d:List (Nat × Rat)):lm n d=((rZ n d).map eM).flatten:=(eE (fun q=>af (qtx q)) _).symm
theorem jM (n:Nat)(d:List (Nat × Rat)):(rZ n d).length=n:=by simp [rZ]
theorem wi (C:Mem)(_aN:Tabs C)(v:Value)(s p:Nat)(c:List Lay)(K:Sl C 3 v (c.map xY))(hs:s+1=c.length)(aO:s*p<=60)(an:∀ x∈c,On x) :
  Pur cx.P 182 [gb s p,v] C fun u D=>RowsIn D u (bh s p c (c.length-2)):=by
 obtain ⟨H,c0,rfl,ao,aP,_⟩:=id K;have aQ:maxLen<=9223372036854775807:=by simp [maxLen]
 simp only [ar] at K ao ⊢;refine Ur func182 81 U3 fun w0=>Ul fun R d=>UC U6 fun I=>C6 1 [1,2] d Z<|G.freeze 0 Z fun _ _ L=>Uh 1 [1,2,5] Z<|Uh 1 [1,2,5,6] Z<|G.nilArr 140 2<|G.loop (fun fr F f t=>∃ (i:Nat)(vs:List Value)(w:Value),(1<=i/\(i+1<=c.length∨i=1)/\RowsOk F vs (bh s p c (i-1)))/\fr=[(1,[],.slice H c.length c0),(2,[],.pointer (some ⟨I,0,none⟩)),(5,[],w),(6,[],.int .i64 i)]/\f=[.arr w 140 2 (bh s p c (i-1)).length (aC vs (bh s p c (i-1))).flatten]/\t=c.length-i) (hn_ [1,2,5,6] Z) ⟨1,[],_,⟨Qz _,.inr Z,RowsOk.nil _⟩,Z,Z,Z⟩ (fun fr aR aS m _ z=>?_);obtain ⟨i,vs,w,⟨aT,aU,Q⟩,rfl,rfl,rfl⟩:=z;refine Ui 1 Z fun R d=>Uq _ Z U6<|C6 3 [1,2,5,6,15] d Z<|G.cd (fun X=>?_) fun X=>?_
 ·have ad:i+1<c.length:=by
   have:=PZ X;omega
  obtain ⟨x,M⟩:∃ x,c[i]?=some x:=⟨c[i]'om_,aj om_⟩;obtain ⟨N,aV,aW⟩:=an x (aX M);have aY:=jH s p c (i-1);refine Ui 1 Z fun R d=>Uj (bkT L 1) U8<|C6 1 [1,2,5,6,19,20] d Z<|Uz (L':=[.arr w 140 2 (bh s p c (i-1)++bA s p x i 0).length (aC vs (bh s p c (i-1)++bA s p x i 0)).flatten]) (by simp [bA])<|G.loop (fun fr F f t=>∃ (k:Nat)(g:List Value)(o:Value),(k<=p/\RowsOk F g (bh s p c (i-1)++bA s p x i k))/\fr=[(1,[],.slice H c.length c0),(2,[],.pointer (some ⟨I,0,none⟩)),(5,[],o),(6,[],.int .i64 i),(19,[],.int .i64 p),(20,[],.int .i64 k)]/\f=[.arr o 140 2 (bh s p c (i-1)++bA s p x i k).length (aC g (bh s p c (i-1)++bA s p x i k)).flatten]/\t=p-k) (hn_ [1,2,5,6,19,20] Z) ⟨0,vs,w,⟨QH _,by simpa [bA] using Q⟩,Z,Z,Z⟩ (fun fr aZ a0 m _ z=>?_);obtain ⟨k,g,o,⟨hk,Y⟩,rfl,rfl,rfl⟩:=z;refine Uh 1 [1,2,5,6,19,20,21] Z<|G.cd (fun aa=>?_) fun aa=>?_
  ·have ah:k<p:=by simpa using aa
   have a1:i*p+p<=s*p:=by
    rw [<- Nat.succ_mul];exact Rq _ om_
   have a2:(i-1)*p+p=i*p:=by
    rw [<- Nat.succ_mul,show (i-1).succ=i by omega]
   have a3:=mV s p x i k;have a4:(i-1)*p<=60:=by omega
   have ai:(bh s p c (i-1)++bA s p x i k).length<=400:=by
    rw [QG];omega
   refine Uh 2 [1,2,5,6,7,19,20] Z<|UD [0,1,2,3,4,5,6,7,8,9,10] [(4,1),(8,1)] Z kr_ fun R S d=>Uj (bkT L 2) U8<|Uk U6<|UQ (((i-1:Nat):Int)) U4 om_ om_ om_ U2<|Uk U6<|UG (fun _=>(yW _ s p (i-1) k om_)) U9<|Uj (bkT L 2) U8<|Um 2 Z<|UG (fun _=>(yW _ s p i k om_)) U9<|C6 2 [1,2,5,6,8,9,19,20] d Z<|G.cut (fun fr F f t=>∃ (bz e:Nat),(True)/\fr=[(1,[],.slice H c.length c0),(2,[],.pointer (some ⟨I,0,none⟩)),(5,[],o),(6,[],.int .i64 i),(8,[],.int .i64 ((((i-1)*p+k:Nat)):Int)),(9,[],.int .i64 (((i*p+k:Nat)):Int)),(10,[],.pointer (some ⟨e,0,none⟩)),(19,[],.int .i64 p),(20,[],.int .i64 k)]/\f=[.arr (.slice (some ⟨bz,0,none⟩) (s*p) (s*p)) 32 1 (s*p) (List.replicate (s*p) (af [48])),.obj e (.cells ⟨[.slice (some ⟨bz,0,none⟩) (s*p) (s*p),af (qtx (-x.min))]⟩ 140 (0,0)),.arr o 140 2 (bh s p c (i-1)++bA s p x i k).length (aC g (bh s p c (i-1)++bA s p x i k)).flatten]) ?_ (fun fr a5 a6 t a7 z=>?_)
   ·refine Vd (.cut [0,2,3,4,5] (.alt 1 (.fin [6,7,8,9,10]) (.alt 6 (.cut [] (.alt 1 (.fin [7,8,9,10]) (.alt 9 (.fin [1,7,8,10]) .stop))) (.alt 9 (.cut [] (.alt 1 (.fin [6,7,8,10]) (.alt 6 (.fin [1,7,8,10]) .stop))) .stop)))) [(7,1),(1,3)] Z Z kr_ fun R S d B=>Uj (bkT L 2) U8<|Um 2 Z<|Uy K.m_ U10 om_ (cq M) fl_ fun a8 ap=>Vz ap U10 fl_ fun a9 T=>UT B Z ⟨?_, ?_, ?_,trivial⟩
    ·refine D.call (fY _ s p om_) Z (.inr dc_) U6 (QI _) fl_ fun U V W _ E=>Uj T.m_ U8<|US (fun _=>(eK _ x.min (DF N))) U9 ?_;obtain ⟨bz,rfl,rfl⟩:=E;refine UA [.slice (some ⟨bz,0,none⟩) (s*p:Nat) (s*p:Nat),af (qtx (-x.min))] U8<|UB U5 (fun e=>?_)
     first | refine Vh (j:=0) U12 ?_ | refine Vh (j:=1) U12 ?_
     exact Un [1,2,5,6,8,9,10,19,20] d Z<|G.perm (L':=[.arr (.slice (some ⟨bz,0,none⟩) (s*p) (s*p)) 32 1 (s*p) (List.replicate (s*p) (af [48])),.obj e (.cells ⟨[.slice (some ⟨bz,0,none⟩) (s*p) (s*p),af (qtx (-x.min))]⟩ 140 (0,0)),.arr o 140 2 (bh s p c (i-1)++bA s p x i k).length (aC g (bh s p c (i-1)++bA s p x i k)).flatten]) (by first | exact QI _ | exact List.Perm.swap _ _ _)<|Ux 0 mup (hn_ [1,2,5,6,8,9,10,19,20] Z) ⟨bz,e,trivial,Z,Z⟩
    ·refine Uj T.m_ U8<|UT B Z ⟨?_, ?_,trivial⟩
     ·refine D.call (fY _ s p om_) Z (.inr dc_) U6 (QI _) fl_ fun U V W _ E=>US (fun _=>(eK _ x.min (DF N))) U9 ?_;obtain ⟨bz,rfl,rfl⟩:=E;refine UA [.slice (some ⟨bz,0,none⟩) (s*p:Nat) (s*p:Nat),af (qtx (-x.min))] U8<|UB U5 (fun e=>?_)
      first | refine Vh (j:=0) U12 ?_ | refine Vh (j:=1) U12 ?_
      exact Un [1,2,5,6,8,9,10,19,20] d Z<|G.perm (L':=[.arr (.slice (some ⟨bz,0,none⟩) (s*p) (s*p)) 32 1 (s*p) (List.replicate (s*p) (af [48])),.obj e (.cells ⟨[.slice (some ⟨bz,0,none⟩) (s*p) (s*p),af (qtx (-x.min))]⟩ 140 (0,0)),.arr o 140 2 (bh s p c (i-1)++bA s p x i k).length (aC g (bh s p c (i-1)++bA s p x i k)).flatten]) (by first | exact QI _ | exact List.Perm.swap _ _ _)<|Ux 0 mup (hn_ [1,2,5,6,8,9,10,19,20] Z) ⟨bz,e,trivial,Z,Z⟩
     refine UB U5 fun e=>D.call (fY _ s p om_) Z (.inr dc_) U6 (QI _) fl_ fun U V W _ E=>US (fun _=>(eK _ x.min (DF N))) U9 ?_;obtain ⟨bz,rfl,rfl⟩:=E;refine UA [.slice (some ⟨bz,0,none⟩) (s*p:Nat) (s*p:Nat),af (qtx (-x.min))] U8 ?_
     first | refine Vh (j:=0) U12 ?_ | refine Vh (j:=1) U12 ?_
     exact Un [1,2,5,6,8,9,10,19,20] d Z<|G.perm (L':=[.arr (.slice (some ⟨bz,0,none⟩) (s*p) (s*p)) 32 1 (s*p) (List.replicate (s*p) (af [48])),.obj e (.cells ⟨[.slice (some ⟨bz,0,none⟩) (s*p) (s*p),af (qtx (-x.min))]⟩ 140 (0,0)),.arr o 140 2 (bh s p c (i-1)++bA s p x i k).length (aC g (bh s p c (i-1)++bA s p x i k)).flatten]) (by first | exact QI _ | exact List.Perm.swap _ _ _)<|Ux 0 mup (hn_ [1,2,5,6,8,9,10,19,20] Z) ⟨bz,e,trivial,Z,Z⟩
    refine UB U5 fun e=>UT B Z ⟨?_, ?_,trivial⟩
    ·refine D.call (fY _ s p om_) Z (.inr dc_) U6 (QI _) fl_ fun U V W _ E=>Uj T.m_ U8<|US (fun _=>(eK _ x.min (DF N))) U9 ?_;obtain ⟨bz,rfl,rfl⟩:=E;refine UA [.slice (some ⟨bz,0,none⟩) (s*p:Nat) (s*p:Nat),af (qtx (-x.min))] U8 ?_
     first | refine Vh (j:=0) U12 ?_ | refine Vh (j:=1) U12 ?_
     exact Un [1,2,5,6,8,9,10,19,20] d Z<|G.perm (L':=[.arr (.slice (some ⟨bz,0,none⟩) (s*p) (s*p)) 32 1 (s*p) (List.replicate (s*p) (af [48])),.obj e (.cells ⟨[.slice (some ⟨bz,0,none⟩) (s*p) (s*p),af (qtx (-x.min))]⟩ 140 (0,0)),.arr o 140 2 (bh s p c (i-1)++bA s p x i k).length (aC g (bh s p c (i-1)++bA s p x i k)).flatten]) (by first | exact QI _ | exact List.Perm.swap _ _ _)<|Ux 0 mup (hn_ [1,2,5,6,8,9,10,19,20] Z) ⟨bz,e,trivial,Z,Z⟩
    refine Uj T.m_ U8<|D.call (fY _ s p om_) Z (.inr dc_) U6 (QI _) fl_ fun U V W _ E=>US (fun _=>(eK _ x.min (DF N))) U9 ?_;obtain ⟨bz,rfl,rfl⟩:=E;refine UA [.slice (some ⟨bz,0,none⟩) (s*p:Nat) (s*p:Nat),af (qtx (-x.min))] U8 ?_
    first | refine Vh (j:=0) U12 ?_ | refine Vh (j:=1) U12 ?_
    exact Un [1,2,5,6,8,9,10,19,20] d Z<|G.perm (L':=[.arr (.slice (some ⟨bz,0,none⟩) (s*p) (s*p)) 32 1 (s*p) (List.replicate (s*p) (af [48])),.obj e (.cells ⟨[.slice (some ⟨bz,0,none⟩) (s*p) (s*p),af (qtx (-x.min))]⟩ 140 (0,0)),.arr o 140 2 (bh s p c (i-1)++bA s p x i k).length (aC g (bh s p c (i-1)++bA s p x i k)).flatten]) (by first | exact QI _ | exact List.Perm.swap _ _ _)<|Ux 0 mup (hn_ [1,2,5,6,8,9,10,19,20] Z) ⟨bz,e,trivial,Z,Z⟩
   obtain ⟨bz,e,_,rfl,rfl⟩:=z;refine G.cut (fun fr F f t=>(True)/\fr=[(1,[],.slice H c.length c0),(2,[],.pointer (some ⟨I,0,none⟩)),(5,[],o),(6,[],.int .i64 i),(8,[],.int .i64 ((((i-1)*p+k:Nat)):Int)),(9,[],.int .i64 (((i*p+k:Nat)):Int)),(10,[],.pointer (some ⟨e,0,none⟩)),(19,[],.int .i64 p),(20,[],.int .i64 k)]/\f=[.arr (.slice (some ⟨bz,0,none⟩) (s*p) (s*p)) 32 1 (s*p) (lm (s*p) [(i*p+k, -1),((i-1)*p+k,1)]),.obj e (.cells ⟨[.slice (some ⟨bz,0,none⟩) (s*p) (s*p),af (qtx (-x.min))]⟩ 140 (0,0)),.arr o 140 2 (bh s p c (i-1)++bA s p x i k).length (aC g (bh s p c (i-1)++bA s p x i k)).flatten]) ?_ (fun fr ba bb t bc z=>?_)
   ·refine Vd (.cut [0,1,2,3,5,6] (.alt 4 (.fin [7,8,9]) (.alt 7 (.fin [4,8,9]) .stop))) [] Z Z kr_ fun R S d B=>Uk U6<|Uo ae U9<|Um 3 Z<|UL (((i-1)*p+k)) U10 (fun _=>⟨by omega,by omega,(RY _).symm⟩) U2<|UT B Z ⟨?_, ?_,trivial⟩
    ·refine Uo ae U9<|UO (j:=0) U11 (by simp [];omega)<|UL ((i*p+k)) U10 (fun _=>⟨by omega,by omega,(RY _).symm⟩) U2<|UO (j:=0) U11 (by simp [aD];omega)<|Un [1,2,5,6,8,9,10,19,20] d Z<|Uz (L':=[.arr (.slice (some ⟨bz,0,none⟩) (s*p) (s*p)) 32 1 (s*p) (lm (s*p) [(i*p+k, -1),((i-1)*p+k,1)]),.obj e (.cells ⟨[.slice (some ⟨bz,0,none⟩) (s*p) (s*p),af (qtx (-x.min))]⟩ 140 (0,0)),.arr o 140 2 (bh s p c (i-1)++bA s p x i k).length (aC g (bh s p c (i-1)++bA s p x i k)).flatten]) (by
      first
      | (rw [<- st2 (n:=s*p) 1 (-1) om_ om_,dF,cX];rfl)
      | (rw [<- PS (n:=s*p) 1 (-1) om_ om_ om_,dF,cX];rfl)) ?_
     exact Ux 0 (Mem.le.refl _) (hn_ [1,2,5,6,8,9,10,19,20] Z) ⟨trivial,Z,Z⟩
    refine UO (j:=0) U11 (by simp [];omega)<|Uo ae U9<|UL ((i*p+k)) U10 (fun _=>⟨by omega,by omega,(RY _).symm⟩) U2<|UO (j:=0) U11 (by simp [aD];omega)<|Un [1,2,5,6,8,9,10,19,20] d Z<|Uz (L':=[.arr (.slice (some ⟨bz,0,none⟩) (s*p) (s*p)) 32 1 (s*p) (lm (s*p) [(i*p+k, -1),((i-1)*p+k,1)]),.obj e (.cells ⟨[.slice (some ⟨bz,0,none⟩) (s*p) (s*p),af (qtx (-x.min))]⟩ 140 (0,0)),.arr o 140 2 (bh s p c (i-1)++bA s p x i k).length (aC g (bh s p c (i-1)++bA s p x i k)).flatten]) (by
     first
     | (rw [<- st2 (n:=s*p) 1 (-1) om_ om_,dF,cX];rfl)
     | (rw [<- PS (n:=s*p) 1 (-1) om_ om_ om_,dF,cX];rfl)) ?_
    exact Ux 0 (Mem.le.refl _) (hn_ [1,2,5,6,8,9,10,19,20] Z) ⟨trivial,Z,Z⟩
   obtain ⟨_,rfl,rfl⟩:=z;refine G.freezeArr 0 ((rZ (s*p) [(i*p+k, -1),((i-1)*p+k,1)]).map eM) rfl (js _ _) (by intro r hr;obtain ⟨y,_,rfl⟩:=QE.1 hr;rfl) (by simp [jM]) (fun Cz hz aq=>?_);have au:=Y.1;have ab:=RowsOk.snoc (r:=sC s p x i k) Y.m_ aq;have av:=eJ au (.slice (some ⟨bz,0,none⟩) (s*p) (s*p)) (sC s p x i k);refine Ui 1 Z fun R d=>Uo ag U9<|UF [[.slice (some ⟨bz,0,none⟩) (s*p:Nat) (s*p:Nat),af (qtx (-x.min))]] U12 fun bd _ _ aw=>D.append (j:=1) U11 aw Z ax (by simp only [QA];omega) fl_ fun A=>C6 1 [1,2,5,6,8,9,10,19,20] d Z<|Uz (L':=[.arr A 140 2 (bh s p c (i-1)++bA s p x i k++[sC s p x i k]).length (aC (g++[.slice (some ⟨bz,0,none⟩) (s*p) (s*p)]) (bh s p c (i-1)++bA s p x i k++[sC s p x i k])).flatten,.obj e (.cells ⟨[.slice (some ⟨bz,0,none⟩) (s*p) (s*p),af (qtx (-x.min))]⟩ 140 (0,0))]) (by rw [av];simp [sC];omega)<|Ui 2 Z fun R d=>Uy K.m_ U10 om_ (cq M) fl_ fun be ay=>Vz ay U10 fl_ fun bf az=>Uj az U8<|C6 1 [1,2,5,6,8,9,10,19,20,58] d Z<|G.cd (fun J=>?_) fun J=>?_
   ·obtain ⟨m,hm⟩:∃ m,x.max=some m:=by
     rw [pO] at J;exact TF.1 J
    have O:kv s p x i k=[sC s p x i k,G6 s p m i k]:=by unfold kv;rw [hm]
    have aA:vM x.max=qtx m:=by rw [hm];rfl
    refine G.cut (fun fr F f t=>∃ (h:Nat),(True)/\fr=[(1,[],.slice H c.length c0),(2,[],.pointer (some ⟨I,0,none⟩)),(5,[],A),(6,[],.int .i64 i),(8,[],.int .i64 ((((i-1)*p+k:Nat)):Int)),(9,[],.int .i64 (((i*p+k:Nat)):Int)),(10,[],.pointer (some ⟨e,0,none⟩)),(19,[],.int .i64 p),(20,[],.int .i64 k)]/\f=[.arr (.slice (some ⟨h,0,none⟩) (s*p) (s*p)) 32 1 (s*p) (List.replicate (s*p) (af [48])),.obj e (.cells ⟨[.slice (some ⟨h,0,none⟩) (s*p) (s*p),af (vM x.max)]⟩ 140 (0,0)),.arr A 140 2 (bh s p c (i-1)++bA s p x i k++[sC s p x i k]).length (aC (g++[.slice (some ⟨bz,0,none⟩) (s*p) (s*p)]) (bh s p c (i-1)++bA s p x i k++[sC s p x i k])).flatten]) ?_ (fun fr bg bi t bj z=>?_)
    ·refine Vd (.cut [0,2,3,4,5] (.alt 1 (.fin [6,7,8]) (.alt 6 (.fin [1,7,8]) .stop))) [(1,3)] Z Z kr_ fun R S d B=>Uj (bkT L 2) U8<|Um 2 Z<|Uy K.m_ U10 om_ (cq M) fl_ fun bk aB=>Vz aB U10 fl_ fun bl ak=>UT B Z ⟨?_, ?_,trivial⟩
     ·refine D.call (fY _ s p om_) Z (.inr dc_) U6 (QI _) fl_ fun aE aF aG _ ac=>Uj ak.m_ U8 ?_;obtain ⟨h,rfl,rfl⟩:=ac;refine UA [.slice (some ⟨h,0,none⟩) (s*p:Nat) (s*p:Nat),af (vM x.max)] U8 ?_
      first | refine Vh (j:=2) U12 ?_ | refine Vh (j:=1) U12 ?_
      exact Un [1,2,5,6,8,9,10,19,20] d Z<|G.perm (L':=[.arr (.slice (some ⟨h,0,none⟩) (s*p) (s*p)) 32 1 (s*p) (List.replicate (s*p) (af [48])),.obj e (.cells ⟨[.slice (some ⟨h,0,none⟩) (s*p) (s*p),af (vM x.max)]⟩ 140 (0,0)),.arr A 140 2 (bh s p c (i-1)++bA s p x i k++[sC s p x i k]).length (aC (g++[.slice (some ⟨bz,0,none⟩) (s*p) (s*p)]) (bh s p c (i-1)++bA s p x i k++[sC s p x i k])).flatten]) (by first | exact QI _ | exact List.Perm.swap _ _ _)<|Ux 0 mup (hn_ [1,2,5,6,8,9,10,19,20] Z) ⟨h,trivial,Z,Z⟩
     refine Uj ak.m_ U8<|D.call (fY _ s p om_) Z (.inr dc_) U6 (QI _) fl_ (fun aE aF aG _ ac=>?_);obtain ⟨h,rfl,rfl⟩:=ac;refine UA [.slice (some ⟨h,0,none⟩) (s*p:Nat) (s*p:Nat),af (vM x.max)] U8 ?_
     first | refine Vh (j:=2) U12 ?_ | refine Vh (j:=1) U12 ?_
     exact Un [1,2,5,6,8,9,10,19,20] d Z<|G.perm (L':=[.arr (.slice (some ⟨h,0,none⟩) (s*p) (s*p)) 32 1 (s*p) (List.replicate (s*p) (af [48])),.obj e (.cells ⟨[.slice (some ⟨h,0,none⟩) (s*p) (s*p),af (vM x.max)]⟩ 140 (0,0)),.arr A 140 2 (bh s p c (i-1)++bA s p x i k++[sC s p x i k]).length (aC (g++[.slice (some ⟨bz,0,none⟩) (s*p) (s*p)]) (bh s p c (i-1)++bA s p x i k++[sC s p x i k])).flatten]) (by first | exact QI _ | exact List.Perm.swap _ _ _)<|Ux 0 mup (hn_ [1,2,5,6,8,9,10,19,20] Z) ⟨h,trivial,Z,Z⟩
    obtain ⟨h,_,rfl,rfl⟩:=z;refine G.cut (fun fr F f t=>(True)/\fr=[(1,[],.slice H c.length c0),(2,[],.pointer (some ⟨I,0,none⟩)),(5,[],A),(6,[],.int .i64 i),(10,[],.pointer (some ⟨e,0,none⟩)),(19,[],.int .i64 p),(20,[],.int .i64 k)]/\f=[.arr (.slice (some ⟨h,0,none⟩) (s*p) (s*p)) 32 1 (s*p) (lm (s*p) [(i*p+k,1),((i-1)*p+k, -1)]),.obj e (.cells ⟨[.slice (some ⟨h,0,none⟩) (s*p) (s*p),af (vM x.max)]⟩ 140 (0,0)),.arr A 140 2 (bh s p c (i-1)++bA s p x i k++[sC s p x i k]).length (aC (g++[.slice (some ⟨bz,0,none⟩) (s*p) (s*p)]) (bh s p c (i-1)++bA s p x i k++[sC s p x i k])).flatten]) ?_ (fun fr bm bn t bo z=>?_)
    ·refine Vd (.cut [0,1,2,3,5,6] (.alt 4 (.fin [7,8,9]) (.alt 7 (.fin [4,8,9]) .stop))) [] Z Z kr_ fun R S d B=>Uk U6<|Uo ae U9<|Um 3 Z<|UL (((i-1)*p+k)) U10 (fun _=>⟨by omega,by omega,(RY _).symm⟩) U2<|UT B Z ⟨?_, ?_,trivial⟩
     ·refine Uo ae U9<|UO (j:=0) U11 (by simp [];omega)<|UL ((i*p+k)) U10 (fun _=>⟨by omega,by omega,(RY _).symm⟩) U2<|UO (j:=0) U11 (by simp [aD];omega)<|Un [1,2,5,6,10,19,20] d Z<|Uz (L':=[.arr (.slice (some ⟨h,0,none⟩) (s*p) (s*p)) 32 1 (s*p) (lm (s*p) [(i*p+k,1),((i-1)*p+k, -1)]),.obj e (.cells ⟨[.slice (some ⟨h,0,none⟩) (s*p) (s*p),af (vM x.max)]⟩ 140 (0,0)),.arr A 140 2 (bh s p c (i-1)++bA s p x i k++[sC s p x i k]).length (aC (g++[.slice (some ⟨bz,0,none⟩) (s*p) (s*p)]) (bh s p c (i-1)++bA s p x i k++[sC s p x i k])).flatten]) (by
       first
       | (rw [<- st2 (n:=s*p) (-1) 1 om_ om_,dF,cX];rfl)
       | (rw [<- PS (n:=s*p) (-1) 1 om_ om_ om_,dF,cX];rfl)) ?_
      exact Ux 0 (Mem.le.refl _) (hn_ [1,2,5,6,10,19,20] Z) ⟨trivial,Z,Z⟩
     refine UO (j:=0) U11 (by simp [];omega)<|Uo ae U9<|UL ((i*p+k)) U10 (fun _=>⟨by omega,by omega,(RY _).symm⟩) U2<|UO (j:=0) U11 (by simp [aD];omega)<|Un [1,2,5,6,10,19,20] d Z<|Uz (L':=[.arr (.slice (some ⟨h,0,none⟩) (s*p) (s*p)) 32 1 (s*p) (lm (s*p) [(i*p+k,1),((i-1)*p+k, -1)]),.obj e (.cells ⟨[.slice (some ⟨h,0,none⟩) (s*p) (s*p),af (vM x.max)]⟩ 140 (0,0)),.arr A 140 2 (bh s p c (i-1)++bA s p x i k++[sC s p x i k]).length (aC (g++[.slice (some ⟨bz,0,none⟩) (s*p) (s*p)]) (bh s p c (i-1)++bA s p x i k++[sC s p x i k])).flatten]) (by
      first
      | (rw [<- st2 (n:=s*p) (-1) 1 om_ om_,dF,cX];rfl)
      | (rw [<- PS (n:=s*p) (-1) 1 om_ om_ om_,dF,cX];rfl)) ?_
     exact Ux 0 (Mem.le.refl _) (hn_ [1,2,5,6,10,19,20] Z) ⟨trivial,Z,Z⟩
    obtain ⟨_,rfl,rfl⟩:=z;refine G.freezeArr 0 ((rZ (s*p) [(i*p+k,1),((i-1)*p+k, -1)]).map eM) rfl (js _ _) (by intro r hr;obtain ⟨y,_,rfl⟩:=QE.1 hr;rfl) (by simp [jM]) (fun bp bq aH=>?_);have aI:=RowsOk.snoc (r:=G6 s p m i k) ab.m_ aH;have aJ:=eJ ab.1 (.slice (some ⟨h,0,none⟩) (s*p) (s*p)) (G6 s p m i k);refine Ui 1 Z fun R d=>Uo ag U9<|UF [[.slice (some ⟨h,0,none⟩) (s*p:Nat) (s*p:Nat),af (vM x.max)]] U12 fun br _ _ aK=>D.append (j:=1) U11 aK Z (by simp only [QG,QA,maxLen] at ai ⊢;omega) (by simp only [QG,QA] at ai ⊢;omega) fl_ fun al=>C6 1 [1,2,5,6,19,20] d Z<|Ul fun R d=>Uq _ Z U6<|C6 1 [1,2,5,6,19,20] d Z<|UY 1 Z<|Uz (L':=[.arr al 140 2 (bh s p c (i-1)++bA s p x i (k+1)).length (aC (g++[.slice (some ⟨bz,0,none⟩) (s*p) (s*p)]++[.slice (some ⟨h,0,none⟩) (s*p) (s*p)]) (bh s p c (i-1)++bA s p x i (k+1))).flatten]) (by
     rw [bA,O,<- Q8,show ∀ (l:List RowQ)(a b:RowQ),l++[a,b]=l++[a]++[b] from fun l a b=>by simp,aJ,aA];simp [G6];omega) ?_
    refine Uw (m':=p-(k+1)) om_ mup (hn_ [1,2,5,6,19,20] Z) ⟨k+1,_,al,⟨by omega,by
     rw [bA,O,<- Q8,show ∀ (l:List RowQ)(a b:RowQ),l++[a,b]=l++[a]++[b] from fun l a b=>by simp];exact aI.mono mup⟩,Z,Z,Z⟩
   have hm:x.max=none:=by
    rw [pO] at J;cases aL:x.max with
    | none=>rfl
    | some q=>rw [aL] at J;cases J
   have O:kv s p x i k=[sC s p x i k]:=by unfold kv;rw [hm]
   refine Ul fun R d=>Uq _ Z U6<|C6 1 [1,2,5,6,19,20] d Z<|UY 1 Z<|Uz (L':=[.arr A 140 2 (bh s p c (i-1)++bA s p x i (k+1)).length (aC (g++[.slice (some ⟨bz,0,none⟩) (s*p) (s*p)]) (bh s p c (i-1)++bA s p x i (k+1))).flatten]) (by rw [bA,O,<- Q8];rfl)<|Uw (m':=p-(k+1)) om_ mup (hn_ [1,2,5,6,19,20] Z) ⟨k+1,_,A,⟨by omega,by
    rw [bA,O,<- Q8];exact ab.mono mup⟩,Z,Z,Z⟩
  have ah:k=p:=by
   have:¬ k<p:=by simpa using aa
   omega
  have am:bh s p c (i-1)++bA s p x i k=bh s p c i:=by
   obtain ⟨j,rfl⟩:∃ j,i=j+1:=⟨i-1,by omega⟩;rw [ah,SS,bh,LB M]
  refine Ui 1 Z fun R d=>Uq _ Z U6<|C6 1 [1,2,5,6] d Z<|Uz (L':=[.arr o 140 2 (bh s p c (i+1-1)).length (aC g (bh s p c (i+1-1))).flatten]) (by rw [am];rfl)<|Uw (m':=c.length-(i+1)) om_ mup (hn_ [1,2,5,6] Z) ⟨i+1,g,o,⟨by omega,.inl om_,by rw [SS,<- am];exact Y⟩,Z,Z,Z⟩
 have ad:i-1=c.length-2:=by
  have:=QF X;omega
 refine Uh 2 [4] Z ?_;rw [ad] at Q ⊢;exact G.freezeArr 0 (aC vs (bh s p c (c.length-2))) Z Z (bZ _ _) (bN Q.1) fun Cg hg aM=>Up U2<|⟨Z,vs,Q.mono mup,aM⟩
theorem jX {l:List (Nat × Rat)}(q:Rat)(h:k ∉ l.map (·.1)):iK (eP l) ((k:Nat):Int) (af (qtx q))=eP (l++[(k,q)]):=by
 rw [jS (by
  rw [cC];unfold eP;rw [RC];intro hm;obtain ⟨x,a,b⟩:=QE.1 hm;have:x.1=k:=by
   have h2:((x.1:Nat):Int)=(k:Int):=b;omega
  exact h (this ▸ SN (f:=(·.1)) a))]
 simp [eP]
theorem rk (a c:Pt):cj a a c=0/\cj c a a=0/\cj a c a=0:=by
 unfold cj;refine ⟨?_, ?_, ?_⟩ <;> grind
theorem tU {a:List Pt}{b:List Tri}(c:MeshOk a b)(d:t∈b):t.1≠t.2.1/\t.1≠t.2.2/\t.2.1≠t.2.2:=by
 have h:=ip c d;refine ⟨fun e=>h ?_,fun e=>h ?_,fun e=>h ?_⟩
 ·have:cor a t 1=cor a t 0:=by show a.getD t.2.1 _=a.getD t.1 _;rw [e]
  rw [this];exact (rk _ _).1
 ·have:cor a t 2=cor a t 0:=by show a.getD t.2.2 _=a.getD t.1 _;rw [e]
  rw [this];exact (rk _ _).2.2
 have:cor a t 2=cor a t 1:=by show a.getD t.2.2 _=a.getD t.2.1 _;rw [e]
 rw [this];exact (rk _ _).2.1
def atT (t:Tri)(f:Nat->Rat):List (Nat × Rat):=[(t.1,f 0),(t.2.1,f 1),(t.2.2,f 2)]
theorem rh (f:Nat->Rat)(h:t.1≠t.2.1/\t.1≠t.2.2/\t.2.1≠t.2.2):((atT t f).map (·.1)).Nodup:=by
 simp [atT,h.1,h.2.1,h.2.2]
theorem Ek (C:Mem)(w:Tabs C)(x:Value)(c:List Pt)(e:List Tri)(p:Pt)(i:Nat)(r:List Nat)(t:Tri)(y:MeshIn C x c e)(k:Good c e)(z:QP 23 p)(A:PtR p)(K:jU c e p=i::r)(g:e[i]?=some t)(L:∀ j,QB 22 (wgt c t p j)) :
  Pur cx.P 242 [x,ptV p] C fun u D=>∃ b,u=.tuple #[.map (some b),.int .i64 (i:Nat),.int .i64 0]/\D b=some (aV keyZ.enc (eP (atT t (wgt c t p)))):=by
 have M:=k.ok;have n:=y;have ad:=(aL.1 g).1;obtain ⟨N,O,Q⟩:=tU M (aX g);obtain ⟨v1,v2,rfl,h1,h2⟩:=id y.ex;obtain ⟨A2,c2,rfl,S,ae,_⟩:=id h2;have af:maxLen<=9223372036854775807:=by simp [maxLen]
 simp only [ar] at h2 n S ⊢;refine Ur func242 54 U3 fun w0=>Ul fun R a=>UC U6 fun b2=>UC U6 fun b3=>C6 3 [2,3] a Z<|G.freeze 1 Z fun _ _ o=>G.freeze 0 Z fun _ _ B=>Ul fun R a=>Uj (bkT o 2) U8<|Uj (bkT B 2) U8<|UR (lY _ w.m_ _ c e p n.m_ k z A) U7 (fun ag _ _ T=>?_);obtain ⟨wv,rfl,f⟩:=T;rw [K] at f;obtain ⟨U,V,E,_⟩:=id f;rw [ar] at E;subst E;refine C6 5 [2,3,6,7] a Z<|Uh 2 [2,3,6,7,18] Z<|G.cd (fun F=>?_) fun F=>?_
 ·exact absurd F dc_
 refine UD [0,1,2,3,4,5,6,7,8,9,10,11] [(5,1)] Z kr_ fun R H a=>Uj (bkT o 2) U8<|Uk U6<|Uy f.m_ U10 om_ (rfl:(List.map aT (i::r))[0]?=some (aT i)) fl_ fun ai W=>Uj W U8<|Uj (bkT B 2) U8<|US (fun _=>(wE _ w.m_ _ c e p i t n.m_ k z A g L)) U9<|Um 3 Z<|UB U5 fun X=>Us (j:=0) U12<|C6 1 [2,6,7,8] a Z<|Uh 2 [2,6,7,8,30] Z<|G.cd (fun I=>?_) fun I=>?_
 ·exact absurd I dc_
 refine G.freeze 0 Z fun _ _ q=>Ul fun R a=>D.makeMap keyZ Z Z Z Z fl_ fun d=>C6 1 [2,4,7,8] a Z<|UD [0,1,2,3,4,5,6,7] [] Z kr_ fun R H a=>Uk U6<|Uj (bkT o 1) U8<|Uk U6<|Uy f.m_ U10 om_ (rfl:(List.map aT (i::r))[0]?=some (aT i)) fl_ fun aj Y=>Uj Y U8<|Uy h2.m_ U10 om_ (cq g) fl_ fun ak aa=>Uj aa U8<|C6 1 [4,7,8,39,40] a Z<|G.loop (fun fr C' h μ=>∃ (j:Nat),(j<=3)/\fr=[(4,[],.map (some d)),(7,[],.slice U (i::r).length V),(8,[],.pointer (some ⟨X,0,none⟩)),(39,[],.agg ⟨iu t⟩),(40,[],.int .i64 j)]/\h=[.obj d (aV keyZ.enc (eP ((atT t (wgt c t p)).take j)))]/\μ=3-j) (hn_ [4,7,8,39,40] Z) ⟨0,QH _,Z,Z,Z⟩ (fun fr am an m s hI=>?_);obtain ⟨j,hj,rfl,rfl,rfl⟩:=hI;refine Uh 1 [4,7,8,39,40,41] Z<|G.cd (fun v=>?_) fun v=>?_
 ·have J:j<3:=by
   simp only [QK] at v;omega
  rcases (by omega:j=0∨j=1∨j=2) with rfl | rfl | rfl
  ·refine Ui 1 Z fun R a=>Vj U11 ah U2<|C6 2 [4,7,8,9,10,39,40] a Z<|Ui 3 Z fun R a=>UE (_) U9 ah U2<|Uj (bkT q 1) U8<|D.mapUpdate keyZ (j:=0) Z Z Z Z Z Z Z Z Z Z kr_<|Un [4,7,8,39,40] a Z<|Ul fun R a=>Uq _ Z U6<|C6 1 [4,7,8,39,40] a Z<|Uz (L':=[.obj d (aV keyZ.enc (eP ((atT t (wgt c t p)).take 1)))]) (congrArg (fun m=>[Ent.obj d (aV keyZ.enc m)]) (jX (l:=[]) _ al))<|Uw (m':=2) om_ s (hn_ [4,7,8,39,40] Z) ⟨1,by decide,Z,Z,Z⟩
  ·refine Ui 1 Z fun R a=>Vj U11 ah U2<|C6 2 [4,7,8,9,10,39,40] a Z<|Ui 3 Z fun R a=>UE (_) U9 ah U2<|Uj (bkT q 1) U8<|D.mapUpdate keyZ (j:=0) Z Z Z Z Z Z Z Z Z Z kr_<|Un [4,7,8,39,40] a Z<|Ul fun R a=>Uq _ Z U6<|C6 1 [4,7,8,39,40] a Z<|Uz (L':=[.obj d (aV keyZ.enc (eP ((atT t (wgt c t p)).take 2)))]) (congrArg (fun m=>[Ent.obj d (aV keyZ.enc m)]) (jX (l:=[(t.1,wgt c t p 0)]) _ (by simpa using N.symm)))<|Uw (m':=1) om_ s (hn_ [4,7,8,39,40] Z) ⟨2,by decide,Z,Z,Z⟩
  refine Ui 1 Z fun R a=>Vj U11 ah U2<|C6 2 [4,7,8,9,10,39,40] a Z<|Ui 3 Z fun R a=>UE (_) U9 ah U2<|Uj (bkT q 1) U8<|D.mapUpdate keyZ (j:=0) Z Z Z Z Z Z Z Z Z Z kr_<|Un [4,7,8,39,40] a Z<|Ul fun R a=>Uq _ Z U6<|C6 1 [4,7,8,39,40] a Z<|Uz (L':=[.obj d (aV keyZ.enc (eP ((atT t (wgt c t p)).take 3)))]) (congrArg (fun m=>[Ent.obj d (aV keyZ.enc m)]) (jX (l:=[(t.1,wgt c t p 0),(t.2.1,wgt c t p 1)]) _ (by simp [O.symm,Q.symm])))<|Uw (m':=0) om_ s (hn_ [4,7,8,39,40] Z) ⟨3,by decide,Z,Z,Z⟩
 have J:j=3:=by
  simp only [Q7] at v;omega
 subst J;refine G.freeze 0 Z fun Cm ao ab=>UD [0,1,2,3,4,5,6] [] Z kr_ fun R H a=>Um 2 Z<|Uy f.m_ U10 om_ (rfl:(List.map aT (i::r))[0]?=some (aT i)) fl_ fun ap ac=>Uj ac U8<|C6 3 [4,5,6] a Z<|Uv (G.dropAll (Vi U4 ?_));exact ⟨Z,d,Z,ab⟩
theorem dx (t:Tri)(f:Nat->Rat)(j:Nat)(a:j<3)(h:t.1≠t.2.1/\t.1≠t.2.2/\t.2.1≠t.2.2):iK (eP ((atT t f).take j)) ((dw t j:Nat):Int) (af (qtx (f j)))=eP ((atT t f).take (j+1)):=by
 rcases (by omega:j=0∨j=1∨j=2) with rfl | rfl | rfl
 ·exact jX (l:=[]) _ al
 ·exact jX (l:=[(t.1,f 0)]) (k:=t.2.1) _ (by simpa using h.1.symm)
 exact jX (l:=[(t.1,f 0),(t.2.1,f 1)]) (k:=t.2.2) _ (by simp [h.2.1.symm,h.2.2.symm])
def nW (n k:Nat):List Rat:=rZ n [(k,1)]
def slf (pts:List Pt)(t:Tri)(j:Nat):Pt:=dC pts (nW pts.length (dw t j)) t
theorem gv (n k:Nat):(nW n k).length=n:=jM n _
theorem AW :∀ q∈nW n k,q=0∨q=1:=by
 intro q a;unfold nW rZ at a;obtain ⟨j,_,rfl⟩:=QE.1 a;simp only [dY];split
 ·exact .inr Z
 exact .inl Z
theorem jG :∀ q∈nW n k,QB 1 q:=by
 intro q a;rcases AW q a with rfl | rfl
 ·exact QB_zero
 exact QB_one
theorem Eg (C:Mem)(J:Tabs C)(O:Value)(a:List Pt)(s:List Tri)(i:Nat)(t:Tri)(Q:MeshIn C O a s)(E:Good a s)(l:s[i]?=some t)(K:∀ j,QP 22 (slf a t j)) :
  Pur cx.P 248 [O,.int .i64 i] C fun u D=>∃ S T,u=.tuple #[.map (some S),.map (some T),.int .i64 0]/\D S=some (aV keyZ.enc (eP (atT t fun j=>(slf a t j).1)))/\D T=some (aV keyZ.enc (eP (atT t fun j=>(slf a t j).2))):=by
 have L:=E.ok;have F:=Q;have am:=L.lp;have H:=L.ins t (aX l);obtain ⟨an,ao,ap⟩:=id H;have aq:=(aL.1 l).1;obtain ⟨f,g,h⟩:=tU L (aX l);obtain ⟨v1,v2,rfl,h1,h2⟩:=id Q.ex;obtain ⟨A1,c1,rfl,au,av,_⟩:=id h1;obtain ⟨A2,c2,rfl,ai,aw,_⟩:=id h2;have ax:maxLen<=9223372036854775807:=by simp [maxLen]
 simp only [ar] at h1 h2 F ai ⊢;refine Ur func248 51 U3 fun w0=>Ul fun R b=>UC U6 fun I=>C6 3 [1,2] b Z<|G.freeze 0 Z fun _ _ n=>Ul fun R b=>D.makeMap keyZ Z Z Z Z fl_ fun c=>D.makeMap keyZ Z Z Z Z fl_ fun d=>C6 2 [1,2,4,5] b Z<|Ui 1 Z fun R b=>Uj (bkT n 1) U8<|Uk U6<|Uy h2.m_ U10 om_ (cq l) fl_ fun ay aj=>Uj aj U8<|C6 1 [1,2,4,5,18,19] b Z<|G.perm (L':=[.obj c (aV keyZ.enc (eP [])),.obj d (aV keyZ.enc (eP []))]) (List.Perm.swap _ _ _)<|G.loop (fun fr M e o=>∃ (j:Nat),(j<=3)/\fr=[(1,[],.int .i64 i),(2,[],.pointer (some ⟨I,0,none⟩)),(4,[],.map (some c)),(5,[],.map (some d)),(18,[],.agg ⟨iu t⟩),(19,[],.int .i64 j)]/\e=[.obj c (aV keyZ.enc (eP ((atT t fun j=>(slf a t j).1).take j))),.obj d (aV keyZ.enc (eP ((atT t fun j=>(slf a t j).2).take j)))]/\o=3-j) (hn_ [1,2,4,5,18,19] Z) ⟨0,QH _,Z,Z,Z⟩ (fun fr az aA m _ p=>?_);obtain ⟨j,hj,rfl,rfl,rfl⟩:=p;refine Uh 1 [1,2,4,5,18,19,20] Z<|G.cd (fun N=>?_) fun N=>?_
 ·have U:j<3:=by
   simp only [QK] at N;omega
  rcases (by omega:j=0∨j=1∨j=2) with rfl | rfl | rfl
  ·refine Ul fun R b=>Vj U11 ah U2<|C6 1 [1,2,4,5,8,18,19] b Z<|UI [(4,3)] Z fun R b=>UF [[af [48]]] U12 fun V W _ v=>Uk U6<|Uj (bkT n 1) U8<|Uk U6<|D.call (nh _ _ a.length [48] v.m_ om_) Z (.inr dc_) U6 (QI _) fl_ fun X Y aa _ w=>C6 1 [1,2,4,5,8,9,18,19] b Z ?_;obtain ⟨bz,rfl,rfl⟩:=w;have x:dw t 0<a.length:=eo H 0;refine Uz (L':=[.arr (.slice (some ⟨bz,0,none⟩) a.length a.length) 32 1 a.length (lm a.length []),.obj c (aV keyZ.enc (eP ((atT t fun j=>(slf a t j).1).take 0))),.obj d (aV keyZ.enc (eP ((atT t fun j=>(slf a t j).2).take 0)))]) (by rw [mr];rfl)<|Ui 2 Z fun R b=>UL ((dw t 0)) U10 (fun _=>⟨by omega,by omega,(RY _).symm⟩) U2<|UO (j:=0) U11 (by rw [my];simp;omega)<|Un [1,2,4,5,8,9,18,19] b Z<|Uz (L':=[.arr (.slice (some ⟨bz,0,none⟩) a.length a.length) 32 1 a.length (lm a.length [(dw t 0,1)]),.obj c (aV keyZ.enc (eP ((atT t fun j=>(slf a t j).1).take 0))),.obj d (aV keyZ.enc (eP ((atT t fun j=>(slf a t j).2).take 0)))]) (by rw [<- fD [] 1 x,dF];rfl)<|G.freezeArr 0 ((nW a.length (dw t 0)).map eM) rfl (js _ _) (by intro r hr;obtain ⟨y,_,rfl⟩:=QE.1 hr;rfl) (by rw [ar,gv]) fun Cz hz z=>Ul fun R b=>Uj (bkT n 2) U8<|Um 2 Z<|Uu (ua _ J.m_ _ _ a s (nW a.length (dw t 0)) 1 dc_ dc_ F.m_ E z.m_ (gv _ _) jG (fun q A=>bi ((jG q A).le dc_)) i t l (K 0)) U7 fl_<|Um 3 Z<|UB U5 fun ab=>Us (j:=0) U12<|C6 1 [1,2,4,5,8,10,11,18,19] b Z<|Uh 2 [1,2,4,5,8,10,11,18,19,38] Z<|G.cd (fun ac=>?_) fun ac=>?_
   ·exact absurd ac dc_
   refine G.freeze 0 Z fun ad _ k=>G.cut (fun fr M e o=>(True)/\fr=[(1,[],.int .i64 i),(2,[],.pointer (some ⟨I,0,none⟩)),(4,[],.map (some c)),(5,[],.map (some d)),(18,[],.agg ⟨iu t⟩),(19,[],.int .i64 ((0:Nat):Int))]/\e=[.obj c (aV keyZ.enc (eP ((atT t fun j=>(slf a t j).1).take (0+1)))),.obj d (aV keyZ.enc (eP ((atT t fun j=>(slf a t j).2).take (0+1))))]) ?_ (fun fr aB aC o aD p=>?_)
   ·refine Vd (.cut [0,1,2,3,4,5,6] (.alt 7 (.fin [8,9]) (.alt 8 (.fin [7,9]) .stop))) [] Z Z kr_ fun R hB b B=>Um 5 Z<|Uj (bkT k 1) U8<|Uk U6<|UT B Z ⟨?_, ?_,trivial⟩
    ·refine Uj (bkT k 1) U8 ?_
     first | refine D.mapUpdate keyZ (j:=0) rfl rfl rfl rfl rfl rfl rfl rfl rfl rfl kr_ ?_ | refine D.mapUpdate keyZ (j:=1) rfl rfl rfl rfl rfl rfl rfl rfl rfl rfl kr_ ?_
     first | refine D.mapUpdate keyZ (j:=1) rfl rfl rfl rfl rfl rfl rfl rfl rfl rfl kr_ ?_ | refine D.mapUpdate keyZ (j:=0) rfl rfl rfl rfl rfl rfl rfl rfl rfl rfl kr_ ?_
     refine Un [1,2,4,5,18,19] b Z<|G.perm (L':=[.obj c (aV keyZ.enc (eP ((atT t fun j=>(slf a t j).1).take (0+1)))),.obj d (aV keyZ.enc (eP ((atT t fun j=>(slf a t j).2).take (0+1))))]) (by
      rw [<- dx t (fun j=>(slf a t j).1) 0 dc_ ⟨f,g,h⟩,<- dx t (fun j=>(slf a t j).2) 0 dc_ ⟨f,g,h⟩]
      first | exact QI _ | exact List.Perm.swap _ _ _) ?_
     exact Ux 0 (Mem.le.refl _) (hn_ [1,2,4,5,18,19] Z) ⟨trivial,Z,Z⟩
    first | refine D.mapUpdate keyZ (j:=0) rfl rfl rfl rfl rfl rfl rfl rfl rfl rfl kr_ ?_ | refine D.mapUpdate keyZ (j:=1) rfl rfl rfl rfl rfl rfl rfl rfl rfl rfl kr_ ?_
    refine Uj (bkT k 1) U8 ?_
    first | refine D.mapUpdate keyZ (j:=1) rfl rfl rfl rfl rfl rfl rfl rfl rfl rfl kr_ ?_ | refine D.mapUpdate keyZ (j:=0) rfl rfl rfl rfl rfl rfl rfl rfl rfl rfl kr_ ?_
    refine Un [1,2,4,5,18,19] b Z<|G.perm (L':=[.obj c (aV keyZ.enc (eP ((atT t fun j=>(slf a t j).1).take (0+1)))),.obj d (aV keyZ.enc (eP ((atT t fun j=>(slf a t j).2).take (0+1))))]) (by
     rw [<- dx t (fun j=>(slf a t j).1) 0 dc_ ⟨f,g,h⟩,<- dx t (fun j=>(slf a t j).2) 0 dc_ ⟨f,g,h⟩]
     first | exact QI _ | exact List.Perm.swap _ _ _) ?_
    exact Ux 0 (Mem.le.refl _) (hn_ [1,2,4,5,18,19] Z) ⟨trivial,Z,Z⟩
   obtain ⟨_,rfl,rfl⟩:=p;refine Ul fun R b=>Uq _ Z U6<|C6 1 [1,2,4,5,18,19] b Z<|Uw (m':=2) om_ mup (hn_ [1,2,4,5,18,19] Z) ⟨1,by decide,Z,Z,Z⟩
  ·refine Ul fun R b=>Vj U11 ah U2<|C6 1 [1,2,4,5,8,18,19] b Z<|UI [(4,3)] Z fun R b=>UF [[af [48]]] U12 fun V W _ v=>Uk U6<|Uj (bkT n 1) U8<|Uk U6<|D.call (nh _ _ a.length [48] v.m_ om_) Z (.inr dc_) U6 (QI _) fl_ fun X Y aa _ w=>C6 1 [1,2,4,5,8,9,18,19] b Z ?_;obtain ⟨bz,rfl,rfl⟩:=w;have x:dw t 1<a.length:=eo H 1;refine Uz (L':=[.arr (.slice (some ⟨bz,0,none⟩) a.length a.length) 32 1 a.length (lm a.length []),.obj c (aV keyZ.enc (eP ((atT t fun j=>(slf a t j).1).take 1))),.obj d (aV keyZ.enc (eP ((atT t fun j=>(slf a t j).2).take 1)))]) (by rw [mr];rfl)<|Ui 2 Z fun R b=>UL ((dw t 1)) U10 (fun _=>⟨by omega,by omega,(RY _).symm⟩) U2<|UO (j:=0) U11 (by rw [my];simp;omega)<|Un [1,2,4,5,8,9,18,19] b Z<|Uz (L':=[.arr (.slice (some ⟨bz,0,none⟩) a.length a.length) 32 1 a.length (lm a.length [(dw t 1,1)]),.obj c (aV keyZ.enc (eP ((atT t fun j=>(slf a t j).1).take 1))),.obj d (aV keyZ.enc (eP ((atT t fun j=>(slf a t j).2).take 1)))]) (by rw [<- fD [] 1 x,dF];rfl)<|G.freezeArr 0 ((nW a.length (dw t 1)).map eM) rfl (js _ _) (by intro r hr;obtain ⟨y,_,rfl⟩:=QE.1 hr;rfl) (by rw [ar,gv]) fun Cz hz z=>Ul fun R b=>Uj (bkT n 2) U8<|Um 2 Z<|Uu (ua _ J.m_ _ _ a s (nW a.length (dw t 1)) 1 dc_ dc_ F.m_ E z.m_ (gv _ _) jG (fun q A=>bi ((jG q A).le dc_)) i t l (K 1)) U7 fl_<|Um 3 Z<|UB U5 fun ab=>Us (j:=0) U12<|C6 1 [1,2,4,5,8,10,11,18,19] b Z<|Uh 2 [1,2,4,5,8,10,11,18,19,38] Z<|G.cd (fun ae=>?_) fun ae=>?_
   ·exact absurd ae dc_
   refine G.freeze 0 Z fun ad _ k=>G.cut (fun fr M e o=>(True)/\fr=[(1,[],.int .i64 i),(2,[],.pointer (some ⟨I,0,none⟩)),(4,[],.map (some c)),(5,[],.map (some d)),(18,[],.agg ⟨iu t⟩),(19,[],.int .i64 ((1:Nat):Int))]/\e=[.obj c (aV keyZ.enc (eP ((atT t fun j=>(slf a t j).1).take (1+1)))),.obj d (aV keyZ.enc (eP ((atT t fun j=>(slf a t j).2).take (1+1))))]) ?_ (fun fr aE aF o aG p=>?_)
   ·refine Vd (.cut [0,1,2,3,4,5,6] (.alt 7 (.fin [8,9]) (.alt 8 (.fin [7,9]) .stop))) [] Z Z kr_ fun R hB b B=>Um 5 Z<|Uj (bkT k 1) U8<|Uk U6<|UT B Z ⟨?_, ?_,trivial⟩
    ·refine Uj (bkT k 1) U8 ?_
     first | refine D.mapUpdate keyZ (j:=0) rfl rfl rfl rfl rfl rfl rfl rfl rfl rfl kr_ ?_ | refine D.mapUpdate keyZ (j:=1) rfl rfl rfl rfl rfl rfl rfl rfl rfl rfl kr_ ?_
     first | refine D.mapUpdate keyZ (j:=1) rfl rfl rfl rfl rfl rfl rfl rfl rfl rfl kr_ ?_ | refine D.mapUpdate keyZ (j:=0) rfl rfl rfl rfl rfl rfl rfl rfl rfl rfl kr_ ?_
     refine Un [1,2,4,5,18,19] b Z<|G.perm (L':=[.obj c (aV keyZ.enc (eP ((atT t fun j=>(slf a t j).1).take (1+1)))),.obj d (aV keyZ.enc (eP ((atT t fun j=>(slf a t j).2).take (1+1))))]) (by
      rw [<- dx t (fun j=>(slf a t j).1) 1 dc_ ⟨f,g,h⟩,<- dx t (fun j=>(slf a t j).2) 1 dc_ ⟨f,g,h⟩]
      first | exact QI _ | exact List.Perm.swap _ _ _) ?_
     exact Ux 0 (Mem.le.refl _) (hn_ [1,2,4,5,18,19] Z) ⟨trivial,Z,Z⟩
    first | refine D.mapUpdate keyZ (j:=0) rfl rfl rfl rfl rfl rfl rfl rfl rfl rfl kr_ ?_ | refine D.mapUpdate keyZ (j:=1) rfl rfl rfl rfl rfl rfl rfl rfl rfl rfl kr_ ?_
    refine Uj (bkT k 1) U8 ?_
    first | refine D.mapUpdate keyZ (j:=1) rfl rfl rfl rfl rfl rfl rfl rfl rfl rfl kr_ ?_ | refine D.mapUpdate keyZ (j:=0) rfl rfl rfl rfl rfl rfl rfl rfl rfl rfl kr_ ?_
    refine Un [1,2,4,5,18,19] b Z<|G.perm (L':=[.obj c (aV keyZ.enc (eP ((atT t fun j=>(slf a t j).1).take (1+1)))),.obj d (aV keyZ.enc (eP ((atT t fun j=>(slf a t j).2).take (1+1))))]) (by
     rw [<- dx t (fun j=>(slf a t j).1) 1 dc_ ⟨f,g,h⟩,<- dx t (fun j=>(slf a t j).2) 1 dc_ ⟨f,g,h⟩]
     first | exact QI _ | exact List.Perm.swap _ _ _) ?_
    exact Ux 0 (Mem.le.refl _) (hn_ [1,2,4,5,18,19] Z) ⟨trivial,Z,Z⟩
   obtain ⟨_,rfl,rfl⟩:=p;refine Ul fun R b=>Uq _ Z U6<|C6 1 [1,2,4,5,18,19] b Z<|Uw (m':=1) om_ mup (hn_ [1,2,4,5,18,19] Z) ⟨2,by decide,Z,Z,Z⟩
  refine Ul fun R b=>Vj U11 ah U2<|C6 1 [1,2,4,5,8,18,19] b Z<|UI [(4,3)] Z fun R b=>UF [[af [48]]] U12 fun V W _ v=>Uk U6<|Uj (bkT n 1) U8<|Uk U6<|D.call (nh _ _ a.length [48] v.m_ om_) Z (.inr dc_) U6 (QI _) fl_ fun X Y aa _ w=>C6 1 [1,2,4,5,8,9,18,19] b Z ?_;obtain ⟨bz,rfl,rfl⟩:=w;have x:dw t 2<a.length:=eo H 2;refine Uz (L':=[.arr (.slice (some ⟨bz,0,none⟩) a.length a.length) 32 1 a.length (lm a.length []),.obj c (aV keyZ.enc (eP ((atT t fun j=>(slf a t j).1).take 2))),.obj d (aV keyZ.enc (eP ((atT t fun j=>(slf a t j).2).take 2)))]) (by rw [mr];rfl)<|Ui 2 Z fun R b=>UL ((dw t 2)) U10 (fun _=>⟨by omega,by omega,(RY _).symm⟩) U2<|UO (j:=0) U11 (by rw [my];simp;omega)<|Un [1,2,4,5,8,9,18,19] b Z<|Uz (L':=[.arr (.slice (some ⟨bz,0,none⟩) a.length a.length) 32 1 a.length (lm a.length [(dw t 2,1)]),.obj c (aV keyZ.enc (eP ((atT t fun j=>(slf a t j).1).take 2))),.obj d (aV keyZ.enc (eP ((atT t fun j=>(slf a t j).2).take 2)))]) (by rw [<- fD [] 1 x,dF];rfl)<|G.freezeArr 0 ((nW a.length (dw t 2)).map eM) rfl (js _ _) (by intro r hr;obtain ⟨y,_,rfl⟩:=QE.1 hr;rfl) (by rw [ar,gv]) fun Cz hz z=>Ul fun R b=>Uj (bkT n 2) U8<|Um 2 Z<|Uu (ua _ J.m_ _ _ a s (nW a.length (dw t 2)) 1 dc_ dc_ F.m_ E z.m_ (gv _ _) jG (fun q A=>bi ((jG q A).le dc_)) i t l (K 2)) U7 fl_<|Um 3 Z<|UB U5 fun ab=>Us (j:=0) U12<|C6 1 [1,2,4,5,8,10,11,18,19] b Z<|Uh 2 [1,2,4,5,8,10,11,18,19,38] Z<|G.cd (fun ag=>?_) fun ag=>?_
  ·exact absurd ag dc_
  refine G.freeze 0 Z fun ad _ k=>G.cut (fun fr M e o=>(True)/\fr=[(1,[],.int .i64 i),(2,[],.pointer (some ⟨I,0,none⟩)),(4,[],.map (some c)),(5,[],.map (some d)),(18,[],.agg ⟨iu t⟩),(19,[],.int .i64 ((2:Nat):Int))]/\e=[.obj c (aV keyZ.enc (eP ((atT t fun j=>(slf a t j).1).take (2+1)))),.obj d (aV keyZ.enc (eP ((atT t fun j=>(slf a t j).2).take (2+1))))]) ?_ (fun fr aH aI o aJ p=>?_)
  ·refine Vd (.cut [0,1,2,3,4,5,6] (.alt 7 (.fin [8,9]) (.alt 8 (.fin [7,9]) .stop))) [] Z Z kr_ fun R hB b B=>Um 5 Z<|Uj (bkT k 1) U8<|Uk U6<|UT B Z ⟨?_, ?_,trivial⟩
   ·refine Uj (bkT k 1) U8 ?_
    first | refine D.mapUpdate keyZ (j:=0) rfl rfl rfl rfl rfl rfl rfl rfl rfl rfl kr_ ?_ | refine D.mapUpdate keyZ (j:=1) rfl rfl rfl rfl rfl rfl rfl rfl rfl rfl kr_ ?_
    first | refine D.mapUpdate keyZ (j:=1) rfl rfl rfl rfl rfl rfl rfl rfl rfl rfl kr_ ?_ | refine D.mapUpdate keyZ (j:=0) rfl rfl rfl rfl rfl rfl rfl rfl rfl rfl kr_ ?_
    refine Un [1,2,4,5,18,19] b Z<|G.perm (L':=[.obj c (aV keyZ.enc (eP ((atT t fun j=>(slf a t j).1).take (2+1)))),.obj d (aV keyZ.enc (eP ((atT t fun j=>(slf a t j).2).take (2+1))))]) (by
     rw [<- dx t (fun j=>(slf a t j).1) 2 dc_ ⟨f,g,h⟩,<- dx t (fun j=>(slf a t j).2) 2 dc_ ⟨f,g,h⟩]
     first | exact QI _ | exact List.Perm.swap _ _ _) ?_
    exact Ux 0 (Mem.le.refl _) (hn_ [1,2,4,5,18,19] Z) ⟨trivial,Z,Z⟩
   first | refine D.mapUpdate keyZ (j:=0) rfl rfl rfl rfl rfl rfl rfl rfl rfl rfl kr_ ?_ | refine D.mapUpdate keyZ (j:=1) rfl rfl rfl rfl rfl rfl rfl rfl rfl rfl kr_ ?_
   refine Uj (bkT k 1) U8 ?_
   first | refine D.mapUpdate keyZ (j:=1) rfl rfl rfl rfl rfl rfl rfl rfl rfl rfl kr_ ?_ | refine D.mapUpdate keyZ (j:=0) rfl rfl rfl rfl rfl rfl rfl rfl rfl rfl kr_ ?_
   refine Un [1,2,4,5,18,19] b Z<|G.perm (L':=[.obj c (aV keyZ.enc (eP ((atT t fun j=>(slf a t j).1).take (2+1)))),.obj d (aV keyZ.enc (eP ((atT t fun j=>(slf a t j).2).take (2+1))))]) (by
    rw [<- dx t (fun j=>(slf a t j).1) 2 dc_ ⟨f,g,h⟩,<- dx t (fun j=>(slf a t j).2) 2 dc_ ⟨f,g,h⟩]
    first | exact QI _ | exact List.Perm.swap _ _ _) ?_
   exact Ux 0 (Mem.le.refl _) (hn_ [1,2,4,5,18,19] Z) ⟨trivial,Z,Z⟩
  obtain ⟨_,rfl,rfl⟩:=p;refine Ul fun R b=>Uq _ Z U6<|C6 1 [1,2,4,5,18,19] b Z<|Uw (m':=0) om_ mup (hn_ [1,2,4,5,18,19] Z) ⟨3,by decide,Z,Z,Z⟩
 have U:j=3:=by
  simp only [Q7] at N;omega
 subst U;refine G.freeze 0 Z fun Cm aK ak=>G.freeze 0 Z fun Cn aM al=>Uh 5 [4,5,6] Z<|Uv (G.dropAll (Vi U4 ?_));exact ⟨Z,c,d,Z,Mem.get ak mup,al⟩
theorem qT (C:Mem)(v:Value)(l:List Rat)(b:Sl C 1 v (l.map eM))(t:l.length<=1000000):Jog.Fn cx.P 50 [v] C [] fun u _w e=>∃ A n c,u=.slice A n c/\e=[.arr (.slice A n c) 32 1 l.length (l.map eM).flatten]:=by
 obtain ⟨f,c0,rfl,m,x,y,o⟩:=id b;have z:maxLen<=9223372036854775807:=by simp [maxLen]
 simp only [ar] at b m ⊢;refine Ur func50 8 U3 fun w0=>Uh 1 [0] Z<|Ui 1 Z fun R d=>VH U9<|Un [0,4] d Z<|G.cd (fun h4=>?_) fun h4=>?_
 ·have p:f=none:=by
   cases f with
   | none=>rfl
   | some a=>cases h4
  have s:l=[]:=by
   cases l with
   | nil=>rfl
   | cons q r =>
    obtain ⟨a,g,_⟩:=o 0 (eM q) rfl;rw [p] at g;cases g
  refine Uh 1 [2] Z<|G.nilArr 32 1<|Uv (UV Z Z ?_);exact ⟨none,0,0,Z,by rw [s];rfl⟩
 refine Ul fun R d=>Vq [] U12 fl_ fun B=>Uk U6<|UP (j:=0) U11 b.m_ (by simp [eM,lQ,af]) (by simp only [ar,Re,maxLen];omega) (by simp only [ar,Re];omega) fl_ fun h i k=>C6 1 [2] d Z<|Uz (L':=[.arr (.slice h i k) 32 1 l.length (l.map eM).flatten]) al<|Uv (UV Z Z ?_);exact ⟨h,i,k,Z,Z⟩
theorem HR (C:Mem)(v:Value)(l:List Rat)(b:Sl C 1 v (l.map eM))(t:l.length<=1000000):Jog.Fn cx.P 48 [v] C [] fun u _w e=>∃ A n c,u=.slice A n c/\e=[.arr (.slice A n c) 32 1 l.length (l.map eM).flatten]:=by
 obtain ⟨f,c0,rfl,m,x,y,o⟩:=id b;have z:maxLen<=9223372036854775807:=by simp [maxLen]
 simp only [ar] at b m ⊢;refine Ur func48 8 U3 fun w0=>Uh 1 [0] Z<|Ui 1 Z fun R d=>VH U9<|Un [0,4] d Z<|G.cd (fun h4=>?_) fun h4=>?_
 ·have p:f=none:=by
   cases f with
   | none=>rfl
   | some a=>cases h4
  have s:l=[]:=by
   cases l with
   | nil=>rfl
   | cons q r =>
    obtain ⟨a,g,_⟩:=o 0 (eM q) rfl;rw [p] at g;cases g
  refine Uh 1 [2] Z<|G.nilArr 32 1<|Uv (UV Z Z ?_);exact ⟨none,0,0,Z,by rw [s];rfl⟩
 refine Ul fun R d=>Vq [] U12 fl_ fun B=>Uk U6<|UP (j:=0) U11 b.m_ (by simp [eM,lQ,af]) (by simp only [ar,Re,maxLen];omega) (by simp only [ar,Re];omega) fl_ fun h i k=>C6 1 [2] d Z<|Uz (L':=[.arr (.slice h i k) 32 1 l.length (l.map eM).flatten]) al<|Uv (UV Z Z ?_);exact ⟨h,i,k,Z,Z⟩
def Ol (r:RowQ):Prop:=(∀ q∈r.f,QB 22 q)/\QB 22 r.b
theorem kL {a:List RowQ}{w:Value}{r:RowQ}(c:vs[i]?=some w)(d:a[i]?=some r):(aC vs a)[i]?=some [w,af (qtx r.b)]:=by
 unfold aC;rw [List.getElem?_zipWith,c,d]
theorem En (C:Mem)(hT:Tabs C)(v:Value)(a:List RowQ)(hv:RowsIn C v a)(e:∀ r∈a,Ol r)(ac:∀ r∈a,r.f.length<=1000)(an:a.length<=100000) :
  Gives cx.P 249 [v] C (.tuple #[v,.int .i64 0]):=by
 obtain ⟨vs,z,A⟩:=hv;obtain ⟨l,c0,rfl,ad,ao,_⟩:=id A;have ap:maxLen<=9223372036854775807:=by simp [maxLen]
 simp only [bN z.1] at A ad ⊢;refine Ur func249 32 U3 fun w0=>Uh 2 [0] Z<|Uh 3 [0,8,9,10] Z<|G.loop (fun fr B n o=>∃ (i:Nat),(i<=a.length)/\fr=[(0,[],.slice l a.length c0),(8,[],.slice l a.length c0),(9,[],.int .i64 a.length),(10,[],.int .i64 i)]/\n=[]/\o=a.length-i) (hn_ [0,8,9,10] Z) ⟨0,QH _,Z,Z,Z⟩ (fun fr aq au m _ p=>?_);obtain ⟨i,hi,rfl,rfl,rfl⟩:=p;refine Uh 1 [0,8,9,10,11] Z<|G.cd (fun I=>?_) fun I=>?_
 ·have J:i<a.length:=by simpa using I
  obtain ⟨r,E⟩:∃ r,a[i]?=some r:=⟨a[i],aj J⟩;obtain ⟨w,K⟩:∃ w,vs[i]?=some w:=⟨vs[i]'(by rw [z.1];exact J),aj _⟩;have L:=aX E;obtain ⟨ae,ag⟩:=e r L;have av:=ac r L;have aw:(r.f++[r.b]).length<=1001:=by simp;omega
  have x:=z.2 i w r K E;obtain ⟨Aw,cw,rfl,_⟩:=id x;refine Ul fun R c=>Uy A.m_ U10 om_ (kL K E) fl_ fun ay ah=>Uj ah U8<|UB U5 fun b5=>Us (j:=0) U12<|Un [0,5,8,9,10] c Z<|G.freeze 0 Z fun _ _ F=>G.cut (fun fr B n o=>∃ (g:Option Addr)(k:Nat),(Sl B 1 (.slice g (r.f++[r.b]).length k) ((r.f++[r.b]).map eM))/\fr=[(0,[],.slice l a.length c0),(8,[],.slice l a.length c0),(9,[],.int .i64 a.length),(10,[],.int .i64 i),(20,[],.slice g (r.f++[r.b]).length k),(21,[],.int .i64 (r.f++[r.b]).length),(22,[],.int .i64 0)]/\n=[]) ?_ (fun fr az aA o aB p=>?_)
  ·refine Vd (.cut [0,1,3,8] (.alt 2 (.fin [4,5,6,7]) (.alt 4 (.cut [] (.alt 2 (.fin [5,6,7]) (.alt 5 (.fin [2,6,7]) .stop))) .stop))) [(2,3)] Z Z kr_ fun R hB c M=>Uk U6<|Uj (bkT F 1) U8<|Um 2 Z<|UT M Z ⟨?_, ?_,trivial⟩
   ·refine D.call (qT _ _ r.f x.m_ om_) Z (.inr dc_) U6 (QI _) fl_ fun N O Q _ s=>Uj (bkT F 1) U8<|UF [eM r.b] U12 (fun S T _ t=>?_);obtain ⟨U,V,cc,rfl,rfl⟩:=s;refine UP (j:=0) U11 t.m_ (by simp [eM,lQ,af]) ax (by simp only [QA];omega) fl_ fun g W k=>C6 1 [0,8,9,10,20,21,22] c Z<|G.freezeArr 0 ((r.f++[r.b]).map eM) rfl al (by intro r e;obtain ⟨y,_,rfl⟩:=QE.1 e;rfl) al (fun X Y d=>?_);obtain ⟨Az,cz,u,_⟩:=id d;cases u
    simp only [ar] at d ⊢;exact G.dropAll<|Ux 0 mup (hn_ [0,8,9,10,20,21,22] Z) ⟨_,_,d,Z,Z⟩
   refine Uj (bkT F 1) U8<|UT M Z ⟨?_, ?_,trivial⟩
   ·refine D.call (qT _ _ r.f x.m_ om_) Z (.inr dc_) U6 (QI _) fl_ fun N O Q _ s=>UF [eM r.b] U12 (fun S T _ t=>?_);obtain ⟨U,V,cc,rfl,rfl⟩:=s;refine UP (j:=0) U11 t.m_ (by simp [eM,lQ,af]) ax (by simp only [QA];omega) fl_ fun g W k=>C6 1 [0,8,9,10,20,21,22] c Z<|G.freezeArr 0 ((r.f++[r.b]).map eM) rfl al (by intro r e;obtain ⟨y,_,rfl⟩:=QE.1 e;rfl) al (fun X Y d=>?_);obtain ⟨Az,cz,u,_⟩:=id d;cases u
    simp only [ar] at d ⊢;exact G.dropAll<|Ux 0 mup (hn_ [0,8,9,10,20,21,22] Z) ⟨_,_,d,Z,Z⟩
   refine UF [eM r.b] U12 fun S T _ t=>D.call (qT _ _ r.f x.m_ om_) Z (.inr dc_) U6 (QI _) fl_ (fun N O Q _ s=>?_);obtain ⟨U,V,cc,rfl,rfl⟩:=s;refine UP (j:=0) U11 t.m_ (by simp [eM,lQ,af]) ax (by simp only [QA];omega) fl_ fun g W k=>C6 1 [0,8,9,10,20,21,22] c Z<|G.freezeArr 0 ((r.f++[r.b]).map eM) rfl al (by intro r e;obtain ⟨y,_,rfl⟩:=QE.1 e;rfl) al (fun X Y d=>?_);obtain ⟨Az,cz,u,_⟩:=id d;cases u
   simp only [ar] at d ⊢;exact G.dropAll<|Ux 0 mup (hn_ [0,8,9,10,20,21,22] Z) ⟨_,_,d,Z,Z⟩
  obtain ⟨g,k,ai,rfl,rfl⟩:=p;refine G.loop (fun fr B n o=>∃ (j:Nat),(j<=(r.f++[r.b]).length)/\fr=[(0,[],.slice l a.length c0),(8,[],.slice l a.length c0),(9,[],.int .i64 a.length),(10,[],.int .i64 i),(20,[],.slice g (r.f++[r.b]).length k),(21,[],.int .i64 (r.f++[r.b]).length),(22,[],.int .i64 j)]/\n=[]/\o=(r.f++[r.b]).length-j) (hn_ [0,8,9,10,20,21,22] Z) ⟨0,QH _,Z,Z,Z⟩ (fun fr aC aD m _ p=>?_);obtain ⟨j,hj,rfl,rfl,rfl⟩:=p;refine Uh 1 [0,8,9,10,20,21,22,23] Z<|G.cd (fun aa=>?_) fun aa=>?_
  ·have ak:j<(r.f++[r.b]).length:=by
    have:=PZ aa;omega
   obtain ⟨q,hq⟩:∃ q,(r.f++[r.b])[j]?=some q:=⟨(r.f++[r.b])[j],aj ak⟩;have ab:QB 22 q:=by
    rcases QS.1 (aX hq) with h | h
    ·exact ae q h
    rw [QY.1 h];exact ag
   refine Ul fun R c=>Uy ai.m_ U10 om_ (cq hq) fl_ fun aE am=>Uj am U8<|C6 1 [0,7,8,9,10,20,21,22] c Z<|Ui 1 Z fun R c=>Ut (dE _ hT.m_ _ (uj ab)) U7<|C6 1 [0,8,9,10,20,21,22,28] c Z<|G.cd (fun H=>?_) fun H=>?_
   ·exfalso;rw [ym ab] at H;exact absurd H dc_
   refine Ul fun R c=>Uq _ Z U6<|C6 1 [0,8,9,10,20,21,22] c Z<|Uw (m':=(r.f++[r.b]).length-(j+1)) om_ mup (hn_ [0,8,9,10,20,21,22] Z) ⟨j+1,om_,Z,Z,Z⟩
  refine Ul fun R c=>Uq _ Z U6<|C6 1 [0,8,9,10] c Z<|Uw (m':=a.length-(i+1)) om_ mup (hn_ [0,8,9,10] Z) ⟨i+1,om_,Z,Z,Z⟩
 refine Uh 3 [2,3] Z<|Uv (G.dropAll (UH U3 ?_));exact ⟨Z,Z⟩
def gV (s p k:Nat)(fm:List (Nat × Rat))(b sg:Rat):RowQ:=⟨Ji s p k fm sg,sg*b⟩
theorem jv (C:Mem)(O:Tabs C)(s p d b g v:Nat)(c:List (Nat × Rat))(e:Rat)(a:List Rat)(I w:Value)(n:List Value)(f:List RowQ)(ak:s*p<=60)(Q:d<s)(S:C v=some (.cells ⟨[.int .i64 (s:Nat),.int .i64 (p:Nat)]⟩ 196 (0,0)))(T:C b=some (aV keyZ.enc (eP c)))(U:(c.map (·.1)).Nodup)(V:∀ x∈c,x.1<p)(W:∀ x∈c,QB 23 x.2)(X:QB 23 e)
  (y:Sl C 1 I (a.map eM)) (Y:∀ q∈a,QB 1 q) (am:a.length<=2) (aa:RowsOk C n f) (an:f.length<=10000) :
  Jog.Fn cx.P 245 [.int .i64 d,.map (some b),af (qtx e),I,.pointer (some ⟨g,0,none⟩),.pointer (some ⟨v,0,none⟩)] C [.obj g (.cells ⟨[w]⟩ 47 (0,0)),.arr w 140 2 f.length (aC n f).flatten]
   fun u z k=>∃ J w',u=.tuple #[]/\k=[.obj g (.cells ⟨[w']⟩ 47 (0,0)),.arr w' 140 2 (f++a.map (gV s p d c e)).length (aC J (f++a.map (gV s p d c e))).flatten]/\RowsOk z J (f++a.map (gV s p d c e)):=by
 obtain ⟨A0,c0,rfl,ab,ao,_⟩:=id y;have ap:maxLen<=9223372036854775807:=by simp [maxLen]
 simp only [ar] at y ab ⊢;refine Ur func245 28 U3 fun w0=>Uh 3 [0,1,2,4,5,12,13,14] Z<|Uz (L':=[.obj g (.cells ⟨[w]⟩ 47 (0,0)),.arr w 140 2 (f++(a.take 0).map (gV s p d c e)).length (aC n (f++(a.take 0).map (gV s p d c e))).flatten]) al<|G.loop (fun fr z k μ=>∃ (i:Nat)(h:List Value)(o:Value),(i<=a.length/\RowsOk z h (f++(a.take i).map (gV s p d c e)))/\fr=[(0,[],.int .i64 d),(1,[],.map (some b)),(2,[],af (qtx e)),(4,[],.pointer (some ⟨g,0,none⟩)),(5,[],.pointer (some ⟨v,0,none⟩)),(12,[],.slice A0 a.length c0),(13,[],.int .i64 a.length),(14,[],.int .i64 i)]/\k=[.obj g (.cells ⟨[o]⟩ 47 (0,0)),.arr o 140 2 (f++(a.take i).map (gV s p d c e)).length (aC h (f++(a.take i).map (gV s p d c e))).flatten]/\μ=a.length-i) (hn_ [0,1,2,4,5,12,13,14] Z) ⟨0,n,w,⟨QH _,by simpa using aa⟩,Z,Z,Z⟩ (fun fr aq au m _ hI=>?_);obtain ⟨i,h,o,⟨hi,t⟩,rfl,rfl,rfl⟩:=hI;refine Uh 1 [0,1,2,4,5,12,13,14,15] Z<|G.cd (fun A=>?_) fun A=>?_
 ·have B:i<a.length:=by simpa using A
  obtain ⟨sg,D⟩:∃ sg,a[i]?=some sg:=⟨a[i],aj B⟩;have ac:=Y sg (aX D);have av:(f++(a.take i).map (gV s p d c e)).length<=10002:=by
   rw [QG,ar,QO];omega
  have K:f++(a.take (i+1)).map (gV s p d c e)=f++(a.take i).map (gV s p d c e)++[gV s p d c e sg]:=by
   rw [Q4,D];simp
  refine Ul fun R l=>Uy y.m_ U10 om_ (cq D) fl_ fun aw ad=>Uj ad U8<|C6 1 [0,1,2,4,5,11,12,13,14] l Z<|UD [0,1,2,3,4,5,6,7,8,9] [] Z kr_ fun R hB l=>Uo ag U9<|Uj (bkT S 2) U8<|Um 4 Z<|UK (O0 _ O.m_ s p d b c sg e 23 dc_ dc_ om_ Q (Mem.get T mup) U V W (ac.le dc_) X) U7 fl_ (fun ay _ _ ae=>?_);obtain ⟨fv,rfl,E⟩:=ae;obtain ⟨F,H,rfl,_⟩:=id E;simp only [ar] at E ⊢;refine UF [[.slice F (Ji s p d c sg).length H,af (qtx (sg*e))]] U12 fun az _ _ ah=>UP (j:=1) U11 ah.m_ Z ax (by simp only [QA];omega) fl_ fun L M N=>Us (j:=1) U12<|Un [0,1,2,4,5,12,13,14] l Z<|Ul fun R l=>Uq _ Z U6<|C6 1 [0,1,2,4,5,12,13,14] l Z ?_;have ai:=RowsOk.snoc (r:=gV s p d c e sg) t.m_ E;refine Uz (L':=[.obj g (.cells ⟨[.slice L M N]⟩ 47 (0,0)),.arr (.slice L M N) 140 2 (f++(a.take (i+1)).map (gV s p d c e)).length (aC (h++[.slice F (Ji s p d c sg).length H]) (f++(a.take (i+1)).map (gV s p d c e))).flatten]) (by rw [K,eJ t.1];simp [gV,aD];omega)<|Uw (m':=a.length-(i+1)) om_ mup (hn_ [0,1,2,4,5,12,13,14] Z) ⟨i+1,h++[.slice F (Ji s p d c sg).length H],_,⟨by omega,by rw [K];exact ai.mono mup⟩,Z,Z,Z⟩
 have B:i=a.length:=by
  have:¬ i<a.length:=by simpa using A
  omega
 rw [B,QM] at t ⊢;exact Vv Z<|⟨h,o,Z,Z,t.mono mup⟩
noncomputable def qL (o:Obs):Rat:=-di o.nx / di o.nz
noncomputable def jh (o:Obs):Rat:=-di o.ny / di o.nz
def upN (B:Bk)(o:Obs):Nat:=(kp (isU o.upper) B.col 0).toNat
noncomputable def rowsO (B:Bk)(o:Obs)(p:Pt)(t:Tri)(z:Rat):List RowQ :=
 if o.kind=1 then (if 0<upN B o then [gV (bs B) (bp B) (upN B o-1) (atT t (wgt B.pts t p)) (lk o z) 1] else [])++(if upN B o<bs B then [gV (bs B) (bp B) (upN B o) (atT t (wgt B.pts t p)) (lk o z) (-1)] else [])
 else if o.kind=2 then (cE B.col o).flatMap fun k=>[1, -1].map (gV (bs B) (bp B) k (atT t (wgt B.pts t p)) (lk o z))
 else (cE B.col o).flatMap fun k=>[1, -1].map (gV (bs B) (bp B) k (atT t fun j=>(slf B.pts t j).1) (qL o))++[1, -1].map (gV (bs B) (bp B) k (atT t fun j=>(slf B.pts t j).2) (jh o))
structure Fine (B:Bk)(fs:List Rat)(o:Obs)(p:Pt)(ti:Nat)(t:Tri)(z:Rat):Prop where
 place:ObsAt o p
 loc:∃ r,jU B.pts B.tris p=ti::r
 tri:B.tris[ti]?=some t
 val:AS B.pts B.tris fs p=.tuple #[af (qtx z),.int .i64 0]
 qz:QB 22 z
 qh:QB 22 (lk o z)
 w:∀ j,QB 22 (wgt B.pts t p j)
 up:0<=kp (isU o.upper) B.col 0
 sl:∀ j,QP 22 (slf B.pts t j)
 nr:o.kind≠1->o.kind≠2->(aW o.nx=true/\aW o.ny=true/\aW o.nz=true)/\QB 11 (di o.nx)/\QB 11 (di o.ny)/\QB 11 (di o.nz)/\di o.nz≠0
 rows:∀ r∈rowsO B o p t z,Ol r
theorem OQ (h:Sl C 1 v [[af [49]]]):Sl C 1 v (([1]:List Rat).map eM):=by rw [<- dF] at h;exact h
theorem OR (h:Sl C 1 v [[af [45,49]]]):Sl C 1 v (([-1]:List Rat).map eM):=by rw [<- cX] at h;exact h
theorem Fw (h:Sl C 1 v [[af [49]],[af [45,49]]]):Sl C 1 v (([1, -1]:List Rat).map eM):=by rw [<- cX,<- dF] at h;exact h
theorem OK:∀ q∈([1]:List Rat),QB 1 q:=by simp;exact QB_one
theorem OL:∀ q∈([-1]:List Rat),QB 1 q:=by simp;exact nl
theorem rU:∀ q∈([1, -1]:List Rat),QB 1 q:=by
 intro q a;simp only [QQ,RJ,S5] at a;rcases a with rfl | rfl
 ·exact QB_one
 exact nl
theorem gr {f:Nat->Rat}{P:Nat × Rat->Prop}(b:P (t.1,f 0))(c:P (t.2.1,f 1))(d:P (t.2.2,f 2)):∀ x∈atT t f,P x:=by
 intro x a;simp only [atT,QQ,RJ,S5] at a;rcases a with rfl | rfl | rfl <;> assumption
theorem IR {a b:Int}(h:k∈wm a b n):k<n:=by
 unfold wm at h;rw [R7,QU] at h;exact h.1
theorem jr {a b:Type}(f:a->List b){l:List a}{j:Nat}{x:a}(h:l[j]?=some x):(l.take (j+1)).flatMap f=(l.take j).flatMap f++f x:=by
 rw [Q4,h,List.flatMap_append];simp
theorem fQ {a b:Type}{f:a->List b}{c:Nat}(h:∀ x,(f x).length=c):∀ l:List a,(l.flatMap f).length=c*l.length
 | []=>by simp
 | x::l=>by rw [List.flatMap_cons,QG,h,fQ h l,QT,Nat.mul_succ,SP]
theorem BA :∀ r∈rowsO B o p t z,r.f.length=bs B*bp B:=by
 have a:∀ k d b sg,(gV (bs B) (bp B) k d b sg).f.length=bs B*bp B:=fun k d b sg=>jM _ _;intro r hr;unfold rowsO at hr;split at hr
 ·rcases QS.1 hr with h | h
  ·split at h
   ·rw [QY.1 h];exact a _ _ _ _
   cases h
  split at h
  ·rw [QY.1 h];exact a _ _ _ _
  cases h
 split at hr
 ·obtain ⟨k,_,c⟩:=List.mem_flatMap.1 hr;obtain ⟨sg,_,rfl⟩:=QE.1 c;exact a _ _ _ _
 obtain ⟨k,_,c⟩:=List.mem_flatMap.1 hr;rcases QS.1 c with h | h
 ·obtain ⟨sg,_,rfl⟩:=QE.1 h;exact a _ _ _ _
 obtain ⟨sg,_,rfl⟩:=QE.1 h;exact a _ _ _ _
theorem wK (h:(cE B.col o).length<=60):(rowsO B o p t z).length<=240:=by
 unfold rowsO;split
 ·rw [QG];have h1:∀ (c:Prop)[Decidable c] (r:RowQ),(if c then [r] else []).length<=1:=fun c _ r=>by split <;> simp
  have:=h1 (0<upN B o) (gV (bs B) (bp B) (upN B o-1) (atT t (wgt B.pts t p)) (lk o z) 1);have:=h1 (upN B o<bs B) (gV (bs B) (bp B) (upN B o) (atT t (wgt B.pts t p)) (lk o z) (-1));omega
 split
 ·rw [fQ (c:=2) (fun k=>by simp)];omega
 rw [fQ (c:=4) (fun k=>by simp)];omega
theorem ME (C:Mem)(d:Tabs C)(bv:Value)(B:Bk)(fs:List Rat)(i:Nat)(o:Obs)(p:Pt)(ti:Nat)(t:Tri)(z:Rat)(M:BookIn C bv B)(S:Good B.pts B.tris)(am:BookR B)(aN:iH B=0)(hF:Terr B fs)(V:B.obs[i]?=some o)(b:Fine B fs o p ti t z)(T:bs B*bp B<=60)(a5:rK B.col=0)(bU:bs B+1=B.col.length)(bV:B.col.length<=60) :
  Pur cx.P 183 [gb (bs B) (bp B),bv,.int .i64 i] C fun u D=>∃ v,u=.tuple #[v,.int .i64 0]/\RowsIn D v (rowsO B o p t z):=by
 have an:=M;have hM:=S.ok;obtain ⟨r,a6⟩:=b.loc;have aO:=aX b.tri;have l:=hM.ins t aO;have ao:=tU hM aO;have bW:=(aL.1 V).1;have W:=b.place;obtain ⟨u,X⟩:∃ u:Nat,kp (isU o.upper) B.col 0=(u:Nat):=⟨_,(Int.toNat_of_nonneg b.up).symm⟩;have a7:upN B o=u:=by unfold upN;rw [X];rfl
 have bX:u<B.col.length:=by
  rcases sI (isU o.upper) B.col with ⟨h,_⟩ | ⟨k,x,h,h2,_⟩
  ·rw [X] at h;omega
  have:=(aL.1 h2).1;rw [X] at h;omega
 have ap:=rh (wgt B.pts t p) ao;have aq:∀ x∈atT t (wgt B.pts t p),x.1<bp B:=gr (P:=fun x=>x.1<bp B) l.1 l.2.1 l.2.2;have au:∀ x∈atT t (wgt B.pts t p),QB 23 x.2:=gr (P:=fun x=>QB 23 x.2) ((b.w 0).le dc_) ((b.w 1).le dc_) ((b.w 2).le dc_);have av:QB 23 (lk o z):=b.qh.le dc_;have a8:(cE B.col o).length<=bs B:=by
  unfold cE wm;refine QW (Sm _ _) ?_;rw [RV];unfold bs;omega
 have aP:∀ k∈cE B.col o,k<bs B:=fun k hk=>IR hk;obtain ⟨v1,v2,tv,cv,ov,rfl,h1,h2,h3,h4,h5⟩:=id M.ex;have aQ:MeshIn C (.agg ⟨[v1,v2]⟩) B.pts B.tris:=⟨v1,v2,rfl,h1,h2⟩;obtain ⟨A5,c5,rfl,a9,bY,_⟩:=id h5;have b0:maxLen<=9223372036854775807:=by simp [maxLen]
 simp only [ar] at h5 a9 an ⊢;refine Ur func183 172 U3 fun w0=>?_;refine Ul fun R a=>?_;refine UC U6 (fun n=>?_);refine UC U6 (fun b4=>?_);refine C6 2 [2,3,4] a Z ?_;clear a R;refine G.freeze 1 Z (fun _ _ N=>?_);refine G.freeze 0 Z (fun _ _ O=>?_);refine Ui 1 Z fun R a=>?_;refine Uj (bkT O 1) U8 ?_;refine Uk U6 ?_;refine Uy h5.m_ U10 om_ (cq V) fl_ (fun b1 ba=>?_);refine Uj ba U8 ?_;refine UB U5 (fun b8=>?_);refine Us (j:=0) U12 ?_;refine Un [2,3,4,8] a Z ?_;clear a R;refine G.freeze 0 Z (fun C8 _ E=>?_);refine Ui 1 Z fun R a=>?_;refine Uj (bkT O 2) U8 ?_;refine Uk U6 ?_;refine Uj (bkT E 2) U8 ?_;refine UK (by have h:=Ek C8 d.m_ _ B.pts B.tris p ti r t aQ.m_ S W.q W.r a6 b.tri b.w;rw [<- xl W] at h;exact h) U7 fl_ (fun b2 _ _ bb=>?_);obtain ⟨U,rfl,aw⟩:=bb;refine C6 7 [2,3,4,8,9,10,11] a Z ?_;clear a R;refine Uh 2 [2,3,4,8,9,10,11,45] Z ?_;refine G.cd (fun aR=>?_) fun aR=>?_
 ·exact absurd aR dc_
 refine Ul fun R a=>?_;refine Uj (bkT O 5) U8 ?_;refine Uk U6 ?_;refine Ut (D1 _ d.m_ _ B fs i o p z an.m_ S am aN hF V W b.val b.qz b.qh) U7 ?_;refine C6 5 [2,3,4,8,9,10,11,12] a Z ?_;clear a R;refine Uh 2 [2,3,4,8,9,10,11,12,54] Z ?_;refine G.cd (fun aS=>?_) fun aS=>?_
 ·exact absurd aS dc_
 refine Ul fun R a=>?_;refine Uj (bkT O 5) U8 ?_;refine Uk U6 ?_;refine UR (wk _ d.m_ _ B i o an.m_ S am aN V) U7 (fun b5 _ _ bc=>?_);obtain ⟨lv,rfl,ax⟩:=bc;obtain ⟨Al,cl,aT,_⟩:=id ax;rw [ar] at aT;subst aT;refine C6 5 [3,4,8,9,10,11,12,13] a Z ?_;clear a R;refine Uh 2 [3,4,8,9,10,11,12,13,63] Z ?_;refine G.cd (fun aU=>?_) fun aU=>?_
 ·exact absurd aU dc_
 refine Ul fun R a=>?_;refine UB U5 (fun c=>?_);refine Un [3,4,8,9,10,12,13,14] a Z ?_;clear a R;refine G.nilArr 140 2 (G.perm (L':=[.obj c (.cells ⟨[.slice none 0 0]⟩ 47 (0,0)),.arr (.slice none 0 0) 140 2 0 []]) (List.Perm.swap _ _ _) ?_);refine Uh 2 [3,4,8,9,10,12,13,14,15] Z ?_;refine Ui 1 Z fun R a=>?_;refine Uj (bkT E 1) U8 ?_;refine Un [3,4,8,9,10,12,13,14,15,67] a Z ?_;clear a R;refine Uh 2 [3,4,8,9,10,12,13,14,15,67,120] Z ?_;refine G.cut (fun fr F y H=>∃ (vs:List Value)(w:Value),(RowsOk F vs (rowsO B o p t z))/\fr=[(14,[],.pointer (some ⟨c,0,none⟩))]/\y=[.obj c (.cells ⟨[w]⟩ 47 (0,0)),.arr w 140 2 (rowsO B o p t z).length (aC vs (rowsO B o p t z)).flatten]) ?_ (fun fr _ b6 H _ I=>?_)
 ·refine G.cd (fun Y=>?_) fun Y=>?_
  ·have hk:o.kind=1:=dU Y;obtain ⟨s,Q⟩:∃ s,(if 0<u then [gV (bs B) (bp B) (u-1) (atT t (wgt B.pts t p)) (lk o z) 1] else [])=s:=⟨_,rfl⟩;have A:rowsO B o p t z=s++(if u<bs B then [gV (bs B) (bp B) u (atT t (wgt B.pts t p)) (lk o z) (-1)] else []):=by unfold rowsO;rw [aJ hk,a7,Q]
   refine Ui 1 Z fun R a=>?_;refine Uj (bkT O 1) U8 ?_;refine Uk U6 ?_;refine Uj (bkT E 1) U8 ?_;refine Ut (zS _ d.m_ _ B.col o.upper h4.m_ am.col a5 u X) U7 ?_;refine C6 7 [3,9,12,14,15,16,18] a Z ?_;clear a R;refine Uh 2 [3,9,12,14,15,16,18,132] Z ?_;refine G.cd (fun aV=>?_) fun aV=>?_
   ·exact absurd aV dc_
   refine Uh 2 [3,9,12,14,15,16,135] Z ?_;refine G.cut (fun fr F y H=>∃ (vs:List Value)(w:Value),(RowsOk F vs s)/\fr=[(3,[],.pointer (some ⟨n,0,none⟩)),(9,[],.map (some U)),(12,[],af (qtx (lk o z))),(14,[],.pointer (some ⟨c,0,none⟩)),(15,[],.func (.func 245) #[] #[.pointer (some ⟨c,0,none⟩),.pointer (some ⟨n,0,none⟩)]),(16,[],.int .i64 u)]/\y=[.obj c (.cells ⟨[w]⟩ 47 (0,0)),.arr w 140 2 s.length (aC vs s).flatten]) ?_ (fun fr _ b7 H _ I=>?_)
   ·refine G.cd (fun ay=>?_) fun ay=>?_
    ·have az:0<u:=by
      have:=PZ ay;omega
     rw [aJ az] at Q;subst Q;refine UI [(6,3)] Z (fun R a=>?_);refine Um 2 Z ?_;refine UQ (((u-1:Nat):Int)) U4 om_ om_ om_ U2 ?_;refine Um 2 Z ?_;refine UF [[af [49]]] U12 (fun b9 _ _ bd=>?_);refine D.call (jv _ d.m_ (bs B) (bp B) (u-1) U c n (atT t (wgt B.pts t p)) (lk o z) [1] _ (.slice none 0 0) [] [] T om_ (Mem.get N mup) (Mem.get aw mup) ap aq au av ((OQ bd).mono mup) OK dc_ (RowsOk.nil _) dc_) Z (.inr dc_) U6 (QI _) fl_ (fun ca _ cb _ bf=>?_);refine Un [3,9,12,14,15,16] a Z ?_;clear a R;obtain ⟨bh,w1,rfl,rfl,bi⟩:=bf;refine Ux 0 mup (hn_ [3,9,12,14,15,16] Z) ⟨bh,w1,bi,Z,Z⟩
    have az:¬ 0<u:=by
     have:=QF ay;omega
    rw [aF az] at Q;subst Q;refine Ux 0 (Mem.le.refl _) (hn_ [3,9,12,14,15,16] Z) ⟨[],.slice none 0 0,RowsOk.nil _,Z,Z⟩
   obtain ⟨vs ,w,aA,rfl,rfl⟩:=I;refine Ui 2 Z fun R a=>?_;refine Uj (bkT N 1) U8 ?_;refine C6 1 [9,12,14,15,16,146] a Z ?_;clear a R;refine G.cd (fun aB=>?_) fun aB=>?_
   ·have aa:u<bs B:=by
     have:=PZ aB;omega
    rw [aJ aa] at A;have cc:s.length<=1:=by rw [<- Q];split <;> simp
    refine UI [(5,3)] Z (fun R a=>?_);refine Um 4 Z ?_;refine UF [[af [45,49]]] U12 (fun ce _ _ bj=>?_);refine D.call (jv _ d.m_ (bs B) (bp B) u U c n (atT t (wgt B.pts t p)) (lk o z) [-1] _ w vs s T aa (Mem.get N mup) (Mem.get aw mup) ap aq au av ((OR bj).mono mup) OL dc_ aA.m_ om_) Z (.inr dc_) U6 (QI _) fl_ (fun cf _ cg _ bk=>?_);refine Un [14] a Z ?_;clear a R;obtain ⟨bl,w2,rfl,rfl,aW⟩:=bk;rw [show s++([-1]:List Rat).map (gV (bs B) (bp B) u (atT t (wgt B.pts t p)) (lk o z))=rowsO B o p t z from A.symm] at aW ⊢;refine Ux 0 mup (hn_ [14] Z) ⟨bl,w2,aW,Z,Z⟩
   have aa:¬ u<bs B:=by
    have:=QF aB;omega
   rw [aF aa,Q2] at A;rw [<- A] at aA ⊢;refine Ux 0 mup (hn_ [14] Z) ⟨vs,w,aA.mono mup,Z,Z⟩
  have aD:¬ o.kind=1:=by
   intro e;rw [show ((o.kind == 1)=true) by rw [e];rfl] at Y;cases Y
  refine Uh 2 [4,8,9,10,12,13,14,15,153] Z ?_;refine G.cd (fun ab=>?_) fun ab=>?_
  ·have ac:o.kind=2:=dU ab;obtain ⟨f,aE⟩:∃ f,(fun k=>([1, -1]:List Rat).map (gV (bs B) (bp B) k (atT t (wgt B.pts t p)) (lk o z)))=f:=⟨_,rfl⟩;have A:rowsO B o p t z=(cE B.col o).flatMap f:=by unfold rowsO;rw [aF aD,aJ ac,<- aE]
   have bm:∀ k,(f k).length=2:=fun k=>by rw [<- aE];rfl
   refine Uh 3 [9,12,14,15,155,156,157] Z ?_;refine G.loop (fun fr F y H=>∃ (j:Nat)(vs:List Value)(w:Value),(j<=(cE B.col o).length/\RowsOk F vs (((cE B.col o).take j).flatMap f))/\fr=[(9,[],.map (some U)),(12,[],af (qtx (lk o z))),(14,[],.pointer (some ⟨c,0,none⟩)),(15,[],.func (.func 245) #[] #[.pointer (some ⟨c,0,none⟩),.pointer (some ⟨n,0,none⟩)]),(155,[],.slice Al (cE B.col o).length cl),(156,[],.int .i64 (cE B.col o).length),(157,[],.int .i64 j)]/\y=[.obj c (.cells ⟨[w]⟩ 47 (0,0)),.arr w 140 2 (((cE B.col o).take j).flatMap f).length (aC vs (((cE B.col o).take j).flatMap f)).flatten]/\H=(cE B.col o).length-j) (hn_ [9,12,14,15,155,156,157] Z) ⟨0,[],.slice none 0 0,⟨QH _,RowsOk.nil _⟩,Z,Z,Z⟩ (fun fr ch ci m _ I=>?_);obtain ⟨j,vs,w,⟨hj,J⟩,rfl,rfl,rfl⟩:=I;refine Uh 1 [9,12,14,15,155,156,157,158] Z ?_;refine G.cd (fun aG=>?_) fun aG=>?_
   ·have K:j<(cE B.col o).length:=by
     have:=PZ aG;omega
    obtain ⟨k,L⟩:∃ k,(cE B.col o)[j]?=some k:=⟨(cE B.col o)[j],aj K⟩;have ad:=aP k (aX L);have ae:=fQ bm ((cE B.col o).take j);rw [QO] at ae;have aH:=jr f L;refine Ul fun R a=>?_;refine Uy ax.m_ U10 om_ (cq L) fl_ (fun cj bo=>?_);refine Uj bo U8 ?_;refine C6 1 [9,12,14,15,20,155,156,157] a Z ?_;clear a R;refine UI [(5,3)] Z (fun R a=>?_);refine Um 4 Z ?_;refine UF [[af [49]],[af [45,49]]] U12 (fun ck _ _ bq=>?_);refine D.call (jv _ d.m_ (bs B) (bp B) k U c n (atT t (wgt B.pts t p)) (lk o z) [1, -1] _ w vs _ T ad (Mem.get N mup) (Mem.get aw mup) ap aq au av ((Fw bq).mono mup) rU dc_ J.m_ om_) Z (.inr dc_) U6 (QI _) fl_ (fun cm _ cn _ br=>?_);refine Un [9,12,14,15,155,156,157] a Z ?_;clear a R;refine Ul fun R a=>?_;refine Uq _ Z U6 ?_;refine C6 1 [9,12,14,15,155,156,157] a Z ?_;clear a R;obtain ⟨aI,w3,rfl,rfl,ah⟩:=br;rw [show ((cE B.col o).take j).flatMap f++([1, -1]:List Rat).map (gV (bs B) (bp B) k (atT t (wgt B.pts t p)) (lk o z))=((cE B.col o).take (j+1)).flatMap f by rw [aH,<- aE]] at ah ⊢;refine Uw (m':=(cE B.col o).length-(j+1)) om_ mup (hn_ [9,12,14,15,155,156,157] Z) ⟨j+1,aI,w3,⟨by omega,ah⟩,Z,Z,Z⟩
   have K:j=(cE B.col o).length:=by
    have:=QF aG;omega
   rw [K,QM,<- A] at J ⊢;refine Ux 0 mup (hn_ [14] Z) ⟨vs,w,J.mono mup,Z,Z⟩
  have ac:¬ o.kind=2:=by
   intro e;rw [show ((o.kind == 2)=true) by rw [e];rfl] at ab;cases ab
  obtain ⟨⟨bt,bu,bx⟩,aY,aZ,ai,ak⟩:=b.nr aD ac;obtain ⟨e1,q1⟩:=dy bt;obtain ⟨e2,q2⟩:=dy bu;obtain ⟨e3,q3⟩:=dy bx;have a0:(qtx (di o.nx)).length<=1000000:=QW (bg q1 dc_) dc_;have bz:(qtx (di o.ny)).length<=1000000:=QW (bg q2 dc_) dc_;have bA:QB 23 (qL o):=(jy (eR aY) ai ak).le dc_;have bB:QB 23 (jh o):=(jy (eR aZ) ai ak).le dc_;obtain ⟨g,aK⟩:∃ g,(fun k=>([1, -1]:List Rat).map (gV (bs B) (bp B) k (atT t fun j=>(slf B.pts t j).1) (qL o))++([1, -1]:List Rat).map (gV (bs B) (bp B) k (atT t fun j=>(slf B.pts t j).2) (jh o)))=g:=⟨_,rfl⟩;have A:rowsO B o p t z=(cE B.col o).flatMap g:=by unfold rowsO;rw [aF aD,aF ac,<- aK]
  have bC:∀ k,(g k).length=4:=fun k=>by rw [<- aK];rfl
  have bD:=rh (fun j=>(slf B.pts t j).1) ao;have bE:=rh (fun j=>(slf B.pts t j).2) ao;have bF:∀ x∈atT t (fun j=>(slf B.pts t j).1),x.1<bp B:=gr (P:=fun x=>x.1<bp B) l.1 l.2.1 l.2.2;have bG:∀ x∈atT t (fun j=>(slf B.pts t j).2),x.1<bp B:=gr (P:=fun x=>x.1<bp B) l.1 l.2.1 l.2.2;have bH:∀ x∈atT t (fun j=>(slf B.pts t j).1),QB 23 x.2:=gr (P:=fun x=>QB 23 x.2) ((b.sl 0).1.le dc_) ((b.sl 1).1.le dc_) ((b.sl 2).1.le dc_);have bI:∀ x∈atT t (fun j=>(slf B.pts t j).2),QB 23 x.2:=gr (P:=fun x=>QB 23 x.2) ((b.sl 0).2.le dc_) ((b.sl 1).2.le dc_) ((b.sl 2).2.le dc_);refine Ui 1 Z fun R a=>?_;refine Uj (bkT O 2) U8 ?_;refine Uk U6 ?_;refine UR (Eg _ d.m_ _ B.pts B.tris ti t aQ.m_ S b.tri b.sl) U7 (fun co al _ bJ=>?_);obtain ⟨be,bn,rfl,bK,bL⟩:=bJ;refine C6 7 [8,13,14,15,21,22,23] a Z ?_;clear a R;refine Uh 2 [8,13,14,15,21,22,23,77] Z ?_;refine G.cd (fun a1=>?_) fun a1=>?_
  ·exact absurd a1 dc_
  refine UD [0,1,2,3,4,5,6,7,8,9,10,11,12] [(3,1),(7,1)] Z kr_ (fun R M a=>?_);refine Um 2 Z ?_;refine Uj (bkT E 1) U8 ?_;refine UG (fun _=>(by have h:=eK al (di o.nx) a0;rw [<- e1] at h;exact h)) U9 ?_;refine Um 2 Z ?_;refine Uj (bkT E 1) U8 ?_;refine UG (fun _=>(by have h:=gW al d.m_ (-di o.nx) (di o.nz) 11 dc_ dc_ (eR aY) ai ak;rw [<- e3] at h;exact h)) U9 ?_;refine Um 5 Z ?_;refine Un [8,13,14,15,21,22,24] a Z ?_;clear a M R;refine UD [0,1,2,3,4,5,6,7,8,9,10,11,12] [(3,1),(7,1)] Z kr_ (fun R M a=>?_);refine Um 2 Z ?_;refine Uj (bkT E 1) U8 ?_;refine UG (fun _=>(by have h:=eK al (di o.ny) bz;rw [<- e2] at h;exact h)) U9 ?_;refine Um 2 Z ?_;refine Uj (bkT E 1) U8 ?_;refine UG (fun _=>(by have h:=gW al d.m_ (-di o.ny) (di o.nz) 11 dc_ dc_ (eR aZ) ai ak;rw [<- e3] at h;exact h)) U9 ?_;refine Um 5 Z ?_;refine Un [13,14,15,21,22,24,26] a Z ?_;clear a M R;refine Uh 3 [14,15,21,22,24,26,101,102,103] Z ?_;refine G.loop (fun fr F y H=>∃ (j:Nat)(vs:List Value)(w:Value),(j<=(cE B.col o).length/\RowsOk F vs (((cE B.col o).take j).flatMap g))/\fr=[(14,[],.pointer (some ⟨c,0,none⟩)),(15,[],.func (.func 245) #[] #[.pointer (some ⟨c,0,none⟩),.pointer (some ⟨n,0,none⟩)]),(21,[],.map (some be)),(22,[],.map (some bn)),(24,[],af (qtx (qL o))),(26,[],af (qtx (jh o))),(101,[],.slice Al (cE B.col o).length cl),(102,[],.int .i64 (cE B.col o).length),(103,[],.int .i64 j)]/\y=[.obj c (.cells ⟨[w]⟩ 47 (0,0)),.arr w 140 2 (((cE B.col o).take j).flatMap g).length (aC vs (((cE B.col o).take j).flatMap g)).flatten]/\H=(cE B.col o).length-j) (hn_ [14,15,21,22,24,26,101,102,103] Z) ⟨0,[],.slice none 0 0,⟨QH _,RowsOk.nil _⟩,Z,Z,Z⟩ (fun fr cp cr m a0 I=>?_);obtain ⟨j,vs,w,⟨hj,J⟩,rfl,rfl,rfl⟩:=I;refine Uh 1 [14,15,21,22,24,26,101,102,103,104] Z ?_;refine G.cd (fun aM=>?_) fun aM=>?_
  ·have K:j<(cE B.col o).length:=by
    have:=PZ aM;omega
   obtain ⟨k,L⟩:∃ k,(cE B.col o)[j]?=some k:=⟨(cE B.col o)[j],aj K⟩;have ad:=aP k (aX L);have ae:=fQ bC ((cE B.col o).take j);rw [QO] at ae;have aH:=jr g L;refine Ul fun R a=>?_;refine Uy ax.m_ U10 om_ (cq L) fl_ (fun cs bM=>?_);refine Uj bM U8 ?_;refine C6 1 [14,15,21,22,24,26,29,101,102,103] a Z ?_;clear a R;refine UI [(5,3)] Z (fun R a=>?_);refine Um 4 Z ?_;refine UF [[af [49]],[af [45,49]]] U12 (fun ct _ _ bO=>?_);refine D.call (jv _ d.m_ (bs B) (bp B) k be c n (atT t fun j=>(slf B.pts t j).1) (qL o) [1, -1] _ w vs _ T ad (Mem.get N mup) (Mem.get bK mup) bD bF bH bA ((Fw bO).mono mup) rU dc_ J.m_ om_) Z (.inr dc_) U6 (QI _) fl_ (fun cu _ cw _ bP=>?_);refine Un [14,15,21,22,24,26,29,101,102,103] a Z ?_;clear a R;obtain ⟨aI,w3,rfl,rfl,ah⟩:=bP;refine UI [(5,3)] Z (fun R a=>?_);refine Um 4 Z ?_;refine UF [[af [49]],[af [45,49]]] U12 (fun cy _ _ bQ=>?_);refine D.call (jv _ d.m_ (bs B) (bp B) k bn c n (atT t fun j=>(slf B.pts t j).2) (jh o) [1, -1] _ w3 aI _ T ad (Mem.get N mup) (Mem.get bL mup) bE bG bI bB ((Fw bQ).mono mup) rU dc_ ah.m_ (by rw [QG,ae];simp;omega)) Z (.inr dc_) U6 (QI _) fl_ (fun cz _ cA _ bR=>?_);refine Un [14,15,21,22,24,26,101,102,103] a Z ?_;clear a R;refine Ul fun R a=>?_;refine Uq _ Z U6 ?_;refine C6 1 [14,15,21,22,24,26,101,102,103] a Z ?_;clear a R;obtain ⟨bS,w4,rfl,rfl,a2⟩:=bR;rw [show ((cE B.col o).take j).flatMap g++([1, -1]:List Rat).map (gV (bs B) (bp B) k (atT t fun j=>(slf B.pts t j).1) (qL o))++([1, -1]:List Rat).map (gV (bs B) (bp B) k (atT t fun j=>(slf B.pts t j).2) (jh o))=((cE B.col o).take (j+1)).flatMap g by rw [aH,<- aK,Q8]] at a2 ⊢;refine Uw (m':=(cE B.col o).length-(j+1)) om_ mup (hn_ [14,15,21,22,24,26,101,102,103] Z) ⟨j+1,bS,w4,⟨by omega,a2⟩,Z,Z,Z⟩
  have K:j=(cE B.col o).length:=by
   have:=QF aM;omega
  rw [K,QM,<- A] at J ⊢;refine Ux 0 mup (hn_ [14] Z) ⟨vs,w,J.mono mup,Z,Z⟩
 obtain ⟨vs ,w,a3,rfl,rfl⟩:=I;refine G.freezeArr 1 (aC vs (rowsO B o p t z)) Z Z (bZ _ _) (bN a3.1) (fun Cr cB bT=>?_);have a4:RowsIn Cr w (rowsO B o p t z):=⟨vs,a3.mono mup,bT⟩;refine Ul fun R a=>?_;refine Uo ag U9 ?_;refine Uu (En _ d.m_ w (rowsO B o p t z) a4.m_ b.rows (fun r hr=>by rw [BA r hr];omega) (QW (wK (by unfold bs at a8;omega)) dc_)) U7 fl_ ?_;refine C6 4 [6,7] a Z ?_;clear a R;refine Uv (G.dropAll (UH U3 ?_));exact ⟨Z,w,Z,a4.mono mup⟩
structure Rich (B:Bk)(fs:List Rat)(RO:Nat->List RowQ):Prop where
 good:Good B.pts B.tris
 br:BookR B
 bz:iH B=0
 terr:Terr B fs
 h60:bs B*bp B<=60
 fine:∀ i o,B.obs[i]?=some o->∃ p ti t z,Fine B fs o p ti t z/\RO i=rowsO B o p t z
theorem mK (h:iH B=0):rK B.col=0:=by
 unfold iH at h;split at h
 ·rename_i h1;exact absurd h h1
 split at h
 ·rename_i h1;exact absurd h h1
 rename_i h1;exact Q5 h1
theorem vn {l:List Lay}(h:rK l=0):l≠[]/\l.length<=60:=by
 unfold rK at h;split at h
 ·exact absurd h dc_
 rename_i h0;split at h
 ·exact absurd h dc_
 exact ⟨h0,by omega⟩
theorem Rich.bookz {a:Value}{d:Nat->List RowQ}(h:Rich B fs d)(e:Tabs C)(b:BookIn C a B):BookZ C a B 0 :=
 ⟨b,fun D c=>by have h2:=qV D (e.mono c) a B (b.mono c) h.good h.br;rwa [h.bz] at h2,fun _=>(vn (mK h.bz)).1,QW (vn (mK h.bz)).2 dc_,h.good.ok.lp⟩
theorem Rich.scol {a:Nat->List RowQ}(h:Rich B fs a):bs B+1=B.col.length/\B.col.length<=60:=by
 obtain ⟨h1,h2⟩:=vn (mK h.bz);have:=Rn.2 h1;unfold bs;omega
theorem Qe (C:Mem)(f:Tabs C)(b:Value)(B:Bk)(c:List Rat)(d:Nat->List RowQ)(i:Nat)(g:BookIn C b B)(a:Rich B c d)(j:i<B.obs.length) :
  Pur cx.P 183 [gb (bs B) (bp B),b,.int .i64 i] C fun u D=>∃ v,u=.tuple #[v,.int .i64 0]/\RowsIn D v (d i):=by
 have e:B.obs[i]?=some B.obs[i]:=aj j;obtain ⟨p,k,t,z,l,m⟩:=a.fine i _ e;have h:=ME C f b B c i _ p k t z g a.good a.br a.bz a.terr e l a.h60 (mK a.bz) a.scol.1 a.scol.2
 rwa [<- m] at h
theorem pp {a:Nat->List RowQ}(b:Rich B fs a)(c:i<B.obs.length):(a i).length<=240/\∀ r∈a i,r.f.length=bs B*bp B:=by
 have d:B.obs[i]?=some B.obs[i]:=aj c;obtain ⟨p,h,t,z,j,e⟩:=b.fine i _ d;have g:(cE B.col B.obs[i]).length<=60:=by
  unfold cE wm;refine QW (Sm _ _) ?_;rw [RV];have:=b.scol.2;omega
 rw [e];exact ⟨wK g,BA⟩
def bI (B:Bk):List RowQ:=bh (bs B) (bp B) B.col (B.col.length-2)
theorem Dh {b:Nat->List RowQ}(a:Rich B fs b):(bI B).length<=120:=by
 have h:=jH (bs B) (bp B) B.col (B.col.length-2);have h1:=a.scol.1;have h2:(B.col.length-2)*bp B<=bs B*bp B:=Rq _ om_;have h3:=a.h60;unfold bI;omega
structure SrcQ where
 n:Int
 r:RowQ
def ck (vs:List Value)(l:List SrcQ):List (List Value):=List.zipWith (fun w (s:SrcQ)=>[.int .i64 s.n,w,af (qtx s.r.b)]) vs l
def SrcsOk (C:Mem)(vs:List Value)(l:List SrcQ):Prop:=RowsOk C vs (l.map SrcQ.r)
def Ig (C:Mem)(v:Value)(l:List SrcQ):Prop:=∃ vs,SrcsOk C vs l/\Sl C 3 v (ck vs l)
theorem SrcsOk.mono {C D:Mem}{a:List Value}{l:List SrcQ}(h:SrcsOk C a l)(b:C.le D):SrcsOk D a l:=RowsOk.mono h b
theorem SrcsOk.m_ {D:Mem}{l:List SrcQ}(h:SrcsOk C vs l)(a:C.le D:=by exact mup):SrcsOk D vs l:=SrcsOk.mono h a
theorem SrcsOk.snoc {C:Mem}{a:List Value}{l:List SrcQ}{v:Value}{s:SrcQ}(h:SrcsOk C a l)(b:Sl C 1 v (s.r.f.map eM)):SrcsOk C (a++[v]) (l++[s]):=by
 unfold SrcsOk at h ⊢;rw [Rh];exact RowsOk.snoc h b
theorem lI {l:List SrcQ}(h:SrcsOk C vs l):vs.length=l.length:=by have:=h.1;simpa using this
theorem lJ {l:List SrcQ}(h:vs.length=l.length)(v:Value)(s:SrcQ):ck (vs++[v]) (l++[s])=ck vs l++[[.int .i64 s.n,v,af (qtx s.r.b)]]:=by
 unfold ck;rw [List.zipWith_append h];rfl
theorem nJ {l:List SrcQ}(h:vs.length=l.length):(ck vs l).length=l.length:=by simp [ck,h]
theorem rz (b:List Value)(l:List SrcQ):∀ r∈ck b l,r.length=3:=by
 intro r hr;unfold ck at hr;obtain ⟨i,a⟩:=Sc hr;rw [List.getElem?_zipWith] at a;cases h1:b[i]? <;> cases h2:l[i]? <;> rw [h1,h2] at a <;> simp at a
 subst a;rfl
def kH (n:Int)(l:List RowQ):List SrcQ:=l.map fun r=>⟨n,r⟩
def bS (T:List RowQ)(RO:Nat->List RowQ)(l:List Nat):List SrcQ:=kH (-1) T++l.flatMap fun i=>kH (i:Nat) (RO i)
theorem lH {n:Int}{l:List RowQ}{r:RowQ}(h:l[i]?=some r):kH n (l.take (i+1))=kH n (l.take i)++[⟨n,r⟩]:=by
 unfold kH;rw [Q4,h,Rh];rfl
theorem yk {T:List RowQ}{RO:Nat->List RowQ}:∀ {l:List Nat},(∀ i∈l,(RO i).length<=240)->l.length<=100->T.length<=120->(bS T RO l).length<=120+240*l.length:=by
 intro l h e hT;unfold bS;rw [QG];have b:∀ l:List Nat,(∀ i∈l,(RO i).length<=240)->(l.flatMap fun i=>kH (i:Nat) (RO i)).length<=240*l.length:=by
  intro l;induction l with
  | nil=>intro _;simp
  | cons a l c =>
   intro h;have h1:=h a QC;have h2:=c fun i d=>h i (QL _ d);rw [List.flatMap_cons,QG,QT];have:(kH (a:Nat) (RO a)).length=(RO a).length:=by simp [kH]
   omega
 have h1:=b l h;have:(kH (-1) T).length=T.length:=by simp [kH]
 omega
theorem HT (C:Mem)(hT:Tabs C)(bv lv:Value)(B:Bk)(fs:List Rat)(c:Nat->List RowQ)(l:List Nat)(hB:BookIn C bv B)(o:Rich B fs c)(M:Sl C 1 lv (l.map aT))(ad:∀ i∈l,i<B.obs.length)(aO:l.length<=100)(aP:(bS (bI B) c l).length<=300) :
  Pur cx.P 114 [gb (bs B) (bp B),bv,lv] C fun u D=>∃ v,u=.tuple #[v,.int .i64 0]/\Ig D v (bS (bI B) c l):=by
 have aw:=hB;have ay:=Dh o;obtain ⟨v1,v2,tv,cv,ov,rfl,h1,h2,h3,h4,h5⟩:=id hB.ex;obtain ⟨N,O,rfl,az,aQ,_⟩:=id M;have aR:maxLen<=9223372036854775807:=by simp [maxLen]
 simp only [ar] at M az ⊢;have aA:=fun m:List Nat=>fun hm:∀ i∈m,i<B.obs.length=>fun aB:m.length<=100=>yk (T:=bI B) (RO:=c) (l:=m) (fun i F=>(pp o (hm i F)).1) aB ay;refine Ur func114 66 U3 fun w0=>Ul fun R d=>UC U6 fun Q=>UC U6 fun S=>C6 2 [2,3,4] d Z<|G.freeze 1 Z fun _ _ ae=>G.freeze 0 Z fun _ _ ah=>Uh 1 [2,3,4,8] Z<|Ul fun R d=>Uj (bkT ae 2) U8<|Uk U6<|Uj (bkT ah 1) U8<|UR (wi _ hT.m_ _ (bs B) (bp B) B.col h4.m_ o.scol.1 o.h60 o.br.col) U7 (fun aS _ _ aC=>?_);obtain ⟨ai,U,H⟩:=aC;rw [show bh (bs B) (bp B) B.col (B.col.length-2)=bI B from rfl] at U H;have ak:=U.1;obtain ⟨At,ct,rfl,aD,aU,_⟩:=id H;simp only [bN ak] at H aD ⊢;refine C6 2 [2,3,4,8,20,21,22] d Z<|G.nilArr 142 3<|G.loop (fun fr x e y=>∃ (i:Nat)(vs:List Value)(w:Value),(i<=(bI B).length/\SrcsOk x vs (kH (-1) ((bI B).take i)))/\fr=[(2,[],.slice N l.length O),(3,[],.pointer (some ⟨Q,0,none⟩)),(4,[],.pointer (some ⟨S,0,none⟩)),(8,[],w),(20,[],.slice At (bI B).length ct),(21,[],.int .i64 (bI B).length),(22,[],.int .i64 i)]/\e=[.arr w 142 3 (kH (-1) ((bI B).take i)).length (ck vs (kH (-1) ((bI B).take i))).flatten]/\y=(bI B).length-i) (hn_ [2,3,4,8,20,21,22] Z) ⟨0,[],_,⟨QH _,RowsOk.nil _⟩,Z,Z,Z⟩ (fun fr aV aW m _ z=>?_);obtain ⟨i,vs,w,⟨F,I⟩,rfl,rfl,rfl⟩:=z;refine Uh 1 [2,3,4,8,20,21,22,23] Z<|G.cd (fun V=>?_) fun V=>?_
 ·have J:i<(bI B).length:=by
   have:=PZ V;omega
  obtain ⟨r,g⟩:∃ r,(bI B)[i]?=some r:=⟨(bI B)[i],aj J⟩;obtain ⟨p,q⟩:∃ p,ai[i]?=some p:=⟨ai[i]'(by rw [ak];exact J),aj _⟩;have t:=U.2 i p r q g;obtain ⟨h,n,rfl,_⟩:=id t;simp only [ar] at t q;have aE:(kH (-1) ((bI B).take i)).length=i:=by simp [kH];omega
  refine Ul fun R d=>Uy H.m_ U10 om_ (kL q g) fl_ fun aY aF=>Uj aF U8<|UB U5 fun aZ=>Us (j:=0) U12<|Un [2,3,4,8,10,20,21,22] d Z<|Ui 1 Z fun R d=>Uo ag U9<|UA [.int .i64 (-1),.slice h r.f.length n,af (qtx r.b)] U8<|UF [[.int .i64 (-1),.slice h r.f.length n,af (qtx r.b)]] U12 fun a0 _ _ aG=>D.append (j:=1) U11 aG Z ax (by simp only [QA];omega) fl_ fun al=>C6 1 [2,3,4,8,20,21,22] d Z<|Ul fun R d=>Uq _ Z U6<|C6 1 [2,3,4,8,20,21,22] d Z ?_;have A:=SrcsOk.snoc (s:=⟨-1,r⟩) I.m_ t.m_;rw [<- lH g] at A;refine UY 1 Z<|Uz (L':=[.arr al 142 3 (kH (-1) ((bI B).take (i+1))).length (ck (vs++[.slice h r.f.length n]) (kH (-1) ((bI B).take (i+1)))).flatten]) (by rw [lH g,lJ (lI I)];simp)<|Uw (m':=(bI B).length-(i+1)) om_ mup (hn_ [2,3,4,8,20,21,22] Z) ⟨i+1,vs++[.slice h r.f.length n],al,⟨by omega,A.mono mup⟩,Z,Z,Z⟩
 have J:i=(bI B).length:=by
  have:=QF V;omega
 rw [J,QM] at I ⊢;refine Uh 3 [3,4,8,32,33,34] Z<|Uz (L':=[.arr w 142 3 (bS (bI B) c (l.take 0)).length (ck vs (bS (bI B) c (l.take 0))).flatten]) (by simp [bS])<|G.loop (fun fr x e y=>∃ (j:Nat)(vs:List Value)(w:Value),(j<=l.length/\SrcsOk x vs (bS (bI B) c (l.take j)))/\fr=[(3,[],.pointer (some ⟨Q,0,none⟩)),(4,[],.pointer (some ⟨S,0,none⟩)),(8,[],w),(32,[],.slice N l.length O),(33,[],.int .i64 l.length),(34,[],.int .i64 j)]/\e=[.arr w 142 3 (bS (bI B) c (l.take j)).length (ck vs (bS (bI B) c (l.take j))).flatten]/\y=l.length-j) (hn_ [3,4,8,32,33,34] Z) ⟨0,vs,w,⟨QH _,by simpa [bS] using I⟩,Z,Z,Z⟩ (fun fr a1 a2 m _ z=>?_);obtain ⟨j,vs,w,⟨hj,E⟩,rfl,rfl,rfl⟩:=z;refine Uh 1 [3,4,8,32,33,34,35] Z<|G.cd (fun W=>?_) fun W=>?_
 ·have X:j<l.length:=by
   have:=PZ W;omega
  obtain ⟨a,Y⟩:∃ a,l[j]?=some a:=⟨l[j],aj X⟩;have am:=ad a (aX Y);have aH:=aA (l.take j) (fun i F=>ad i (RQ F)) (by rw [QO];omega);rw [QO] at aH;have aI:bS (bI B) c (l.take (j+1))=bS (bI B) c (l.take j)++kH (a:Nat) (c a):=by
   unfold bS;rw [jr _ Y,Q8]
  have a3:=(pp o am).1;refine Ul fun R d=>Uy M.m_ U10 om_ (cq Y) fl_ fun a4 aJ=>Uj aJ U8<|C6 1 [3,4,8,12,32,33,34] d Z<|Ul fun R d=>Uj (bkT ae 2) U8<|Uj (bkT ah 5) U8<|Uk U6<|UR (Qe _ hT.m_ _ B fs c a aw.m_ o am) U7 (fun a5 _ _ aK=>?_);obtain ⟨rv,rfl,an,ao,aa⟩:=aK;have ap:=ao.1;obtain ⟨Ar,cr,rfl,aL,a6,_⟩:=id aa;simp only [bN ap] at aa aL ⊢;refine C6 5 [3,4,8,12,13,14,32,33,34] d Z<|Uh 2 [3,4,8,12,13,14,32,33,34,46] Z<|G.cd (fun aq=>?_) fun aq=>?_
  ·exact absurd aq dc_
  refine Uh 3 [3,4,8,12,32,33,34,48,49,50] Z<|Uz (L':=[.arr w 142 3 (bS (bI B) c (l.take j)++kH (a:Nat) ((c a).take 0)).length (ck vs (bS (bI B) c (l.take j)++kH (a:Nat) ((c a).take 0))).flatten]) (by simp [kH])<|G.loop (fun fr x e y=>∃ (k:Nat)(vs:List Value)(w:Value),(k<=(c a).length/\SrcsOk x vs (bS (bI B) c (l.take j)++kH (a:Nat) ((c a).take k)))/\fr=[(3,[],.pointer (some ⟨Q,0,none⟩)),(4,[],.pointer (some ⟨S,0,none⟩)),(8,[],w),(12,[],.int .i64 a),(32,[],.slice N l.length O),(33,[],.int .i64 l.length),(34,[],.int .i64 j),(48,[],.slice Ar (c a).length cr),(49,[],.int .i64 (c a).length),(50,[],.int .i64 k)]/\e=[.arr w 142 3 (bS (bI B) c (l.take j)++kH (a:Nat) ((c a).take k)).length (ck vs (bS (bI B) c (l.take j)++kH (a:Nat) ((c a).take k))).flatten]/\y=(c a).length-k) (hn_ [3,4,8,12,32,33,34,48,49,50] Z) ⟨0,vs,w,⟨QH _,by rw [show kH (a:Nat) ((c a).take 0)=[] from Z,Q2];exact E.mono mup⟩,Z,Z,Z⟩ (fun fr a7 a8 m _ z=>?_);obtain ⟨k,vs,w,⟨hk,K⟩,rfl,rfl,rfl⟩:=z;refine Uh 1 [3,4,8,12,32,33,34,48,49,50,51] Z<|G.cd (fun ab=>?_) fun ab=>?_
  ·have L:k<(c a).length:=by
    have:=PZ ab;omega
   obtain ⟨r,g⟩:∃ r,(c a)[k]?=some r:=⟨(c a)[k],aj L⟩;obtain ⟨p,q⟩:∃ p,an[k]?=some p:=⟨an[k]'(by rw [ap];exact L),aj _⟩;have t:=ao.2 k p r q g;obtain ⟨h,n,rfl,_⟩:=id t;simp only [ar] at t q;have aE:(kH (a:Nat) ((c a).take k)).length<=240:=by simp [kH];omega
   have a9:(bS (bI B) c (l.take j)++kH (a:Nat) ((c a).take k)).length<=100000:=by rw [QG];omega
   refine Ul fun R d=>Uy aa.m_ U10 om_ (kL q g) fl_ fun ba aM=>Uj aM U8<|UB U5 fun bb=>Us (j:=0) U12<|Un [3,4,8,12,16,32,33,34,48,49,50] d Z<|Ui 2 Z fun R d=>Uo ag U9<|UA [.int .i64 (a:Nat),.slice h r.f.length n,af (qtx r.b)] U8<|UF [[.int .i64 (a:Nat),.slice h r.f.length n,af (qtx r.b)]] U12 fun bc _ _ aN=>D.append (j:=1) U11 aN Z ax (by simp only [QA];omega) fl_ fun au=>C6 1 [3,4,8,12,32,33,34,48,49,50] d Z<|Ul fun R d=>Uq _ Z U6<|C6 1 [3,4,8,12,32,33,34,48,49,50] d Z ?_;have A:=SrcsOk.snoc (s:=⟨(a:Nat),r⟩) K.m_ t.m_;rw [Q8,<- lH g] at A;refine UY 1 Z<|Uz (L':=[.arr au 142 3 (bS (bI B) c (l.take j)++kH (a:Nat) ((c a).take (k+1))).length (ck (vs++[.slice h r.f.length n]) (bS (bI B) c (l.take j)++kH (a:Nat) ((c a).take (k+1)))).flatten]) (by rw [lH g,<- Q8,lJ (lI K)];simp;omega)<|Uw (m':=(c a).length-(k+1)) om_ mup (hn_ [3,4,8,12,32,33,34,48,49,50] Z) ⟨k+1,vs++[.slice h r.f.length n],au,⟨by omega,A.mono mup⟩,Z,Z,Z⟩
  have L:k=(c a).length:=by
   have:=QF ab;omega
  rw [L,QM,<- aI] at K ⊢;refine Ul fun R d=>Uq _ Z U6<|C6 1 [3,4,8,32,33,34] d Z<|Uw (m':=l.length-(j+1)) om_ mup (hn_ [3,4,8,32,33,34] Z) ⟨j+1,vs,w,⟨by omega,K⟩,Z,Z,Z⟩
 have X:j=l.length:=by
  have:=QF W;omega
 rw [X,QM] at E ⊢;refine G.freezeArr 0 (ck vs (bS (bI B) c l)) Z Z (rz _ _) (nJ (lI E)) (fun Cg hg ac=>?_);obtain ⟨Ag,cg,rfl,_⟩:=id ac;rw [nJ (lI E)] at ac ⊢;refine Uh 3 [8,64] Z<|G.cd (fun av=>?_) fun av=>?_
 ·exfalso;have:=PZ av;omega
 refine Uh 3 [6,7] Z<|Uv (G.dropAll (UH U3 ?_));exact ⟨Z,_,Z,vs,E.mono mup,ac.mono mup⟩
theorem LW (C:Mem)(g:Tabs C)(h:Value)(B:Bk)(k:List Rat)(b:Nat->List RowQ)(c:BookIn C h B)(d:Rich B k b)(x:B.obs.length<=100)(z:(bS (bI B) b (List.range B.obs.length)).length<=300) :
  Pur cx.P 54 [h] C fun u D=>∃ v,u=.tuple #[v,.int .i64 0]/\Ig D v (bS (bI B) b (List.range B.obs.length)):=by
 have l:=c;have n:=d.bookz g c;obtain ⟨Q,S,T,U,V,rfl,h1,h2,h3,h4,h5⟩:=id c.ex;obtain ⟨W,X,rfl,A,Y,_⟩:=id h5;have aa:maxLen<=9223372036854775807:=by simp [maxLen]
 simp only [ar] at h5 A l n ⊢;refine Ur func54 33 U3 fun w0=>Ul fun R a=>UC U6 fun E=>C6 2 [1] a Z<|G.freeze 0 Z fun _ _ e=>Ul fun R a=>Uj (bkT e 5) U8<|Ut (Nd _ _ B n.m_ d.h60) U7<|Um 3 Z<|UB U5 fun F=>Us (j:=0) U12<|C6 1 [1,4,5] a Z<|Uh 2 [1,4,5,14] Z<|G.cd (fun o=>?_) fun o=>?_
 ·exact absurd o dc_
 refine Uh 1 [1,4,6] Z<|Ui 1 Z fun R a=>Uj (bkT e 1) U8<|C6 2 [1,4,6,18,19] a Z<|G.freeze 0 Z fun _ _ H=>G.nilArr 3 1<|G.loop (fun fr C' p I=>∃ (i:Nat)(w:Value),(i<=B.obs.length)/\fr=[(1,[],.pointer (some ⟨E,0,none⟩)),(4,[],.pointer (some ⟨F,0,none⟩)),(6,[],w),(18,[],.int .i64 B.obs.length),(19,[],.int .i64 i)]/\p=[.arr w 3 1 (List.range i).length ((List.range i).map aT).flatten]/\I=B.obs.length-i) (hn_ [1,4,6,18,19] Z) ⟨0,_,QH _,Z,Z,Z⟩ (fun fr ab ac m _ J=>?_);obtain ⟨i,w,q,rfl,rfl,rfl⟩:=J;refine Uh 1 [1,4,6,18,19,20] Z<|G.cd (fun f=>?_) fun f=>?_
 ·have s:i<B.obs.length:=by
   have:=PZ f;omega
  have ad:(List.range i).length<=100:=by simp;omega
  refine Uh 2 [1,4,6,7,18,19] Z<|Ui 2 Z fun R a=>UF [aT i] U12 fun ae _ _ K=>D.append (j:=0) U11 K Z ax (by simp only [QA];omega) fl_ fun t=>C6 1 [1,4,6,18,19] a Z<|Ul fun R a=>Uq _ Z U6<|C6 1 [1,4,6,18,19] a Z<|Uz (L':=[.arr t 3 1 (List.range (i+1)).length ((List.range (i+1)).map aT).flatten]) (by rw [RW];simp [aT])<|Uw (m':=B.obs.length-(i+1)) om_ mup (hn_ [1,4,6,18,19] Z) ⟨i+1,t,om_,Z,Z,Z⟩
 have s:i=B.obs.length:=by
  have:=QF f;omega
 subst s;refine G.freezeArr 0 ((List.range B.obs.length).map aT) rfl rfl (by intro r hr;obtain ⟨y,_,rfl⟩:=QE.1 hr;rfl) al fun Cg hg L=>Ul fun R a=>Uj (bkT H 2) U8<|Uj (bkT e 5) U8<|Uk U6<|UK (HT _ g.m_ _ _ B k b (List.range B.obs.length) l.m_ d L.m_ (fun i q=>QU.1 q) (by simpa using x) z) U7 fl_ (fun af _ _ M=>?_);obtain ⟨N,rfl,O⟩:=M;refine C6 4 [2,3] a Z<|Uv (G.dropAll (UH U3 ?_));exact ⟨Z,N,Z,O⟩
def cm (err:Nat->Int):Nat->Int
 | 0=>0
 | n+1=>if cm err n≠0 then cm err n else err n
theorem ml {a:Nat->Int}{n:Nat}(h:cm a n≠0):∀ m,n<=m->cm a m=cm a n
 | 0,hm=>by rw [show n=0 by omega]
 | m+1,hm=>by
  rcases Q1 m n with h1 | h1
  ·rw [show n=m+1 by omega]
  have b:=ml h m h1;simp only [cm,b];rw [aJ h]
theorem xQ (a:cm err i=0)(b:err i≠0)(c:i<n):cm err n=err i:=by
 have h1:cm err (i+1)=err i:=by simp only [cm,a];rw [aF dc_]
 rw [ml (n:=i+1) (by rw [h1];exact b) n om_,h1]
theorem mj (a:cm err i=0)(b:err i=0):cm err (i+1)=0:=by
 simp only [cm,a];rw [aF dc_,b]
theorem mi {a:Nat->Int}:∀ {n:Nat},cm a n=0->∀ i,i<n->a i=0
 | 0,_,i,b=>by omega
 | n+1,h,i,b=>by
  by_cases h0:cm a n=0
  ·rcases Q1 i n with h1 | h1
   ·exact mi h0 i h1
   have:i=n:=by omega
   subst this;simp only [cm,h0] at h
   rwa [aF dc_] at h
  simp only [cm] at h;rw [aJ h0] at h;exact absurd h h0
theorem qG {a:Nat->Int}:∀ {n:Nat},(∀ i,i<n->a i=0)->cm a n=0
 | 0,_=>rfl
 | n+1,h=>mj (qG fun i b=>h i om_) (h n om_)
end Go.Proofs.YtfjcldheldflbaaGreatDoor
