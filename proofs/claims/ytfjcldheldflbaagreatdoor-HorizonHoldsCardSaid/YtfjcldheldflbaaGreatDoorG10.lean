/- Laws that the proofs of this seat share, part 10. -/
import Derived.Test.YtfjcldheldflbaaGreatDoorG9
import Derived.Test.YtfjcldheldflbaaGreatDoorShelf
set_option maxHeartbeats 4000000
namespace Go.Proofs.YtfjcldheldflbaaGreatDoor
open Go.Proofs.Tryz
open Go Go.Jog
set_option maxRecDepth 100000
variable {B:Bk}{C:Mem}{a b:Nat}{err:Nat->Int}{fs:List Rat}{i k n:Nat}{o:Obs}{p:Pt}{t:Tri}{v:Value}{vs:List Value}{z:Rat}
structure RowQ where
 f:List Rat
 b:Rat
def aC (vs:List Value)(rows:List RowQ):List (List Value):=List.zipWith (fun w (r:RowQ)=>[w,ae (qtx r.b)]) vs rows
def RowsOk (C:Mem)(vs:List Value)(rows:List RowQ):Prop:=vs.length=rows.length/\∀ (i:Nat)(w:Value)(r:RowQ),vs[i]?=some w->rows[i]?=some r->Sl C 1 w (r.f.map dJ)
theorem RowsOk.mono {C D:Mem}{a:List Value}{b:List RowQ}(h:RowsOk C a b)(c:C.le D):RowsOk D a b:=⟨h.1,fun i w r h1 h2=>(h.2 i w r h1 h2).mono c⟩
theorem RowsOk.m_ {D:Mem}{a:List RowQ}(h:RowsOk C vs a)(b:C.le D:=by exact mup):RowsOk D vs a:=RowsOk.mono h b
theorem RowsOk.nil (C:Mem):RowsOk C [] []:=⟨rfl,fun i w r h1 _=>by simp at h1⟩
theorem RowsOk.snoc {a:List RowQ}{r:RowQ}(h:RowsOk C vs a)(c:Sl C 1 v (r.f.map dJ)):RowsOk C (vs++[v]) (a++[r]):=by
 have h0:=h.1;refine⟨by simp[h0],fun j w r' h1 h2=>?_⟩;rcases RS j vs.length with d|e
 ·rw[Se d]at h1;rw[Se om_]at h2;exact h.2 j w r' h1 h2
 rw[RV e]at h1;rw[RV om_,<- h0]at h2;cases b:j-vs.length with
|zero=>rw[b]at h1 h2;simp at h1 h2;subst h1;subst h2;exact c
|succ q=>rw[b]at h1;simp at h1
theorem eJ {a:List RowQ}(h:vs.length=a.length)(v:Value)(r:RowQ):aC (vs++[v]) (a++[r])=aC vs a++[[v,ae (qtx r.b)]]:=by
 unfold aC;rw[List.zipWith_append h];rfl
theorem bE {a:List RowQ}(h:vs.length=a.length):(aC vs a).length=a.length:=by simp[aC,h]
theorem bQ (b:List Value)(c:List RowQ):∀ r∈aC b c,r.length=2:=by
 intro r hr;unfold aC at hr;obtain⟨i,a⟩:=SV hr;rw[List.getElem?_zipWith]at a;cases h1:b[i]? <;> cases h2:c[i]? <;> rw[h1,h2]at a <;> simp at a
 subst a;rfl
def RowsIn (C:Mem)(v:Value)(rows:List RowQ):Prop:=∃ vs:List Value,RowsOk C vs rows/\Sl C 2 v (aC vs rows)
theorem RowsIn.mono {C D:Mem}{v:Value}{a:List RowQ}(h:RowsIn C v a)(b:C.le D):RowsIn D v a:=by
 obtain⟨vs,h1,h2⟩:=h;exact⟨vs,h1.mono b,h2.mono b⟩
theorem RowsIn.m_ {D:Mem}{a:List RowQ}(h:RowsIn C v a)(b:C.le D:=by exact mup):RowsIn D v a:=RowsIn.mono h b
def ta (s p:Nat)(x:Lay)(i k:Nat):RowQ:=⟨sJ (s*p) [(i*p+k, -1),((i-1)*p+k,1)], -x.min⟩
def HJ (s p:Nat)(m:Rat)(i k:Nat):RowQ:=⟨sJ (s*p) [(i*p+k,1),((i-1)*p+k, -1)],m⟩
def kH (s p:Nat)(x:Lay)(i k:Nat):List RowQ :=
 ta s p x i k::(match x.max with
 |none=>[]
 |some m=>[HJ s p m i k])
def bA (s p:Nat)(x:Lay)(i:Nat):Nat->List RowQ
|0=>[]
|k+1=>bA s p x i k++kH s p x i k
def bj (s p:Nat)(col:List Lay):Nat->List RowQ
|0=>[]
|n+1=>bj s p col n++bA s p (col.getD (n+1) ⟨[],0,none⟩) (n+1) p
theorem nq (s p:Nat)(x:Lay)(i:Nat):∀ k,(bA s p x i k).length<=2*k
|0=>Ro _
|k+1=>by
  have:=nq s p x i k;have h2:(kH s p x i k).length<=2:=by unfold kH;split <;> simp
  simp only[bA,Ru];omega
theorem jM (s p:Nat)(a:List Lay):∀ n,(bj s p a n).length<=2*(n*p)
|0=>by simp[bj]
|n+1=>by
  have:=jM s p a n;have h2:=nq s p (a.getD (n+1) ⟨[],0,none⟩) (n+1) p;simp only[bj,Ru,Nat.succ_mul];omega
theorem cX:qtx (-1)=[45,49]:=by
 rw[fb (q:=1) dc_ dc_,dF]
theorem st2 (c d:Rat)(e:a<n)(f:b<n):aE (aE (List.replicate n (ae [48])) [ae (qtx c)] a) [ae (qtx d)] b=lI n [(b,d),(a,c)]:=by
 rw[mI,fI _ _ e,fI _ _ f]
theorem QF (c d:Rat)(e:a<n)(f:b<n)(g:a≠b):aE (aE (List.replicate n (ae [48])) [ae (qtx d)] b) [ae (qtx c)] a=lI n [(b,d),(a,c)]:=by
 rw[st2 d c f e];unfold lI;rw[xh (List.Perm.swap _ _ _) (by simp;exact g)]
theorem jy (n:Nat)(d:List (Nat × Rat)):lI n d=((sJ n d).map dJ).flatten:=(eE (fun q=>ae (qtx q)) _).symm
theorem jT (n:Nat)(d:List (Nat × Rat)):(sJ n d).length=n:=by simp[sJ]
theorem wD (C:Mem)(_aN:Tabs C)(v:Value)(s p:Nat)(c:List Lay)(K:Sl C 3 v (c.map vu))(hs:s+1=c.length)(aO:s*p<=60)(an:∀ x∈c,Pc x) :
  Pur cx.P 182 [gk s p,v] C fun u D=>RowsIn D u (bj s p c (c.length-2)):=by
 obtain⟨H,c0,rfl,ao,aP,_⟩:=id K;have aQ:=mx_
 simp only[au]at K ao⊢;refine Vi func182 81 U3 fun w0=>Vd fun R d=>Vs U6 fun I=>C6 1 [1,2] d U<|G.freeze 0 U fun _ _ L=>U1 1 [1,2,5] U<|U1 1 [1,2,5,6] U<|G.nilArr 140 2<|G.loop (fun fr F f t=>∃ (i:Nat)(vs:List Value)(w:Value),(1<=i/\(i+1<=c.length∨i=1)/\RowsOk F vs (bj s p c (i-1)))/\fr=[(1,[],.slice H c.length c0),(2,[],p_ I),(5,[],w),(6,[],i_ i)]/\f=[.arr w 140 2 (bj s p c (i-1)).length (aC vs (bj s p c (i-1))).flatten]/\t=c.length-i) (hn_ [1,2,5,6] U) ⟨1,[],_,⟨Ro _,.inr U,RowsOk.nil _⟩,U,U,U⟩ (fun fr aR aS m _ z=>?_);obtain⟨i,vs,w,⟨aT,aV,Q⟩,rfl,rfl,rfl⟩:=z;refine Va 1 U fun R d=>Vh _ U U6<|C6 3 [1,2,5,6,15] d U<|G.cd (fun Y=>?_) fun Y=>?_
 ·have ad:i+1<c.length:=by
   have:=QL Y;omega
  obtain⟨x,M⟩:∃ x,c[i]?=some x:=⟨c[i]'om_,ai om_⟩;obtain⟨N,aW,aX⟩:=an x (aU M);have aY:=jM s p c (i-1);refine Va 1 U fun R d=>Vb (bkT L 1) U8<|C6 1 [1,2,5,6,19,20] d U<|Vr (L':=[.arr w 140 2 (bj s p c (i-1)++bA s p x i 0).length (aC vs (bj s p c (i-1)++bA s p x i 0)).flatten]) (by simp[bA])<|G.loop (fun fr F f t=>∃ (k:Nat)(g:List Value)(o:Value),(k<=p/\RowsOk F g (bj s p c (i-1)++bA s p x i k))/\fr=[(1,[],.slice H c.length c0),(2,[],p_ I),(5,[],o),(6,[],i_ i),(19,[],i_ p),(20,[],i_ k)]/\f=[.arr o 140 2 (bj s p c (i-1)++bA s p x i k).length (aC g (bj s p c (i-1)++bA s p x i k)).flatten]/\t=p-k) (hn_ [1,2,5,6,19,20] U) ⟨0,vs,w,⟨Rv _,by simpa [bA] using Q⟩,U,U,U⟩ (fun fr aZ a0 m _ z=>?_);obtain⟨k,g,o,⟨hk,Z⟩,rfl,rfl,rfl⟩:=z;refine U1 1 [1,2,5,6,19,20,21] U<|G.cd (fun aa=>?_) fun aa=>?_
  ·have ah:k<p:=by simpa using aa
   have a1:i*p+p<=s*p:=by
    rw[<- Nat.succ_mul];exact Sa _ om_
   have a2:(i-1)*p+p=i*p:=by
    rw[<- Nat.succ_mul,show(i-1).succ=i by omega]
   have a3:=nq s p x i k;have a4:(i-1)*p<=60:=by omega
   have aj:(bj s p c (i-1)++bA s p x i k).length<=400:=by
    rw[Ru];omega
   refine U1 2 [1,2,5,6,7,19,20] U<|Vv [0,1,2,3,4,5,6,7,8,9,10] [(4,1),(8,1)] U kr_ fun R S d=>Vb (bkT L 2) U8<|Vc U6<|VI (((i-1:Nat):Int)) U4 om_ om_ om_ U2<|Vc U6<|Vx (fun _=>(zC _ s p (i-1) k om_)) U9<|Vb (bkT L 2) U8<|Ve 2 U<|Vx (fun _=>(zC _ s p i k om_)) U9<|C6 2 [1,2,5,6,8,9,19,20] d U<|G.cut (fun fr F f t=>∃ (bz e:Nat),(True)/\fr=[(1,[],.slice H c.length c0),(2,[],p_ I),(5,[],o),(6,[],i_ i),(8,[],i_ ((((i-1)*p+k:Nat)):Int)),(9,[],i_ (((i*p+k:Nat)):Int)),(10,[],p_ e),(19,[],i_ p),(20,[],i_ k)]/\f=[.arr (s_ bz (s*p) (s*p)) 32 1 (s*p) (List.replicate (s*p) (ae [48])),.obj e (.cells ⟨[s_ bz (s*p) (s*p),ae (qtx (-x.min))]⟩ 140 (0,0)),.arr o 140 2 (bj s p c (i-1)++bA s p x i k).length (aC g (bj s p c (i-1)++bA s p x i k)).flatten]) ?_ (fun fr a5 a6 t a7 z=>?_)
   ·refine VY (.cut [0,2,3,4,5] (.alt 1 (.fin [6,7,8,9,10]) (.alt 6 (.cut [] (.alt 1 (.fin [7,8,9,10]) (.alt 9 (.fin [1,7,8,10]) .stop))) (.alt 9 (.cut [] (.alt 1 (.fin [6,7,8,10]) (.alt 6 (.fin [1,7,8,10]) .stop))) .stop)))) [(7,1),(1,3)] U U kr_ fun R S d B=>Vb (bkT L 2) U8<|Ve 2 U<|Vq K.m_ U10 om_ (cq M) fl_ fun a8 ap=>Wk ap U10 fl_ fun a9 T=>VL B U ⟨?_, ?_, ?_,trivial⟩
    ·refine D.call (gg _ s p om_) U (.inr dc_) U6 (Rw _) fl_ fun V W X _ E=>Vb T.m_ U8<|VK (fun _=>(eK _ x.min (Eh N))) U9 ?_;obtain⟨bz,rfl,rfl⟩:=E;refine Vu [s_ bz (s*p:Nat) (s*p:Nat),ae (qtx (-x.min))] U8<|Vt U5 (fun e=>?_)
     first|refine V1 (j:=0) U12 ?_|refine V1 (j:=1) U12 ?_
     exact Vf [1,2,5,6,8,9,10,19,20] d U<|G.perm (L':=[.arr (s_ bz (s*p) (s*p)) 32 1 (s*p) (List.replicate (s*p) (ae [48])),.obj e (.cells ⟨[s_ bz (s*p) (s*p),ae (qtx (-x.min))]⟩ 140 (0,0)),.arr o 140 2 (bj s p c (i-1)++bA s p x i k).length (aC g (bj s p c (i-1)++bA s p x i k)).flatten]) (by first|exact Rw _|exact List.Perm.swap _ _ _)<|Vp 0 mup (hn_ [1,2,5,6,8,9,10,19,20] U) ⟨bz,e,trivial,U,U⟩
    ·refine Vb T.m_ U8<|VL B U ⟨?_, ?_,trivial⟩
     ·refine D.call (gg _ s p om_) U (.inr dc_) U6 (Rw _) fl_ fun V W X _ E=>VK (fun _=>(eK _ x.min (Eh N))) U9 ?_;obtain⟨bz,rfl,rfl⟩:=E;refine Vu [s_ bz (s*p:Nat) (s*p:Nat),ae (qtx (-x.min))] U8<|Vt U5 (fun e=>?_)
      first|refine V1 (j:=0) U12 ?_|refine V1 (j:=1) U12 ?_
      exact Vf [1,2,5,6,8,9,10,19,20] d U<|G.perm (L':=[.arr (s_ bz (s*p) (s*p)) 32 1 (s*p) (List.replicate (s*p) (ae [48])),.obj e (.cells ⟨[s_ bz (s*p) (s*p),ae (qtx (-x.min))]⟩ 140 (0,0)),.arr o 140 2 (bj s p c (i-1)++bA s p x i k).length (aC g (bj s p c (i-1)++bA s p x i k)).flatten]) (by first|exact Rw _|exact List.Perm.swap _ _ _)<|Vp 0 mup (hn_ [1,2,5,6,8,9,10,19,20] U) ⟨bz,e,trivial,U,U⟩
     refine Vt U5 fun e=>D.call (gg _ s p om_) U (.inr dc_) U6 (Rw _) fl_ fun V W X _ E=>VK (fun _=>(eK _ x.min (Eh N))) U9 ?_;obtain⟨bz,rfl,rfl⟩:=E;refine Vu [s_ bz (s*p:Nat) (s*p:Nat),ae (qtx (-x.min))] U8 ?_
     first|refine V1 (j:=0) U12 ?_|refine V1 (j:=1) U12 ?_
     exact Vf [1,2,5,6,8,9,10,19,20] d U<|G.perm (L':=[.arr (s_ bz (s*p) (s*p)) 32 1 (s*p) (List.replicate (s*p) (ae [48])),.obj e (.cells ⟨[s_ bz (s*p) (s*p),ae (qtx (-x.min))]⟩ 140 (0,0)),.arr o 140 2 (bj s p c (i-1)++bA s p x i k).length (aC g (bj s p c (i-1)++bA s p x i k)).flatten]) (by first|exact Rw _|exact List.Perm.swap _ _ _)<|Vp 0 mup (hn_ [1,2,5,6,8,9,10,19,20] U) ⟨bz,e,trivial,U,U⟩
    refine Vt U5 fun e=>VL B U ⟨?_, ?_,trivial⟩
    ·refine D.call (gg _ s p om_) U (.inr dc_) U6 (Rw _) fl_ fun V W X _ E=>Vb T.m_ U8<|VK (fun _=>(eK _ x.min (Eh N))) U9 ?_;obtain⟨bz,rfl,rfl⟩:=E;refine Vu [s_ bz (s*p:Nat) (s*p:Nat),ae (qtx (-x.min))] U8 ?_
     first|refine V1 (j:=0) U12 ?_|refine V1 (j:=1) U12 ?_
     exact Vf [1,2,5,6,8,9,10,19,20] d U<|G.perm (L':=[.arr (s_ bz (s*p) (s*p)) 32 1 (s*p) (List.replicate (s*p) (ae [48])),.obj e (.cells ⟨[s_ bz (s*p) (s*p),ae (qtx (-x.min))]⟩ 140 (0,0)),.arr o 140 2 (bj s p c (i-1)++bA s p x i k).length (aC g (bj s p c (i-1)++bA s p x i k)).flatten]) (by first|exact Rw _|exact List.Perm.swap _ _ _)<|Vp 0 mup (hn_ [1,2,5,6,8,9,10,19,20] U) ⟨bz,e,trivial,U,U⟩
    refine Vb T.m_ U8<|D.call (gg _ s p om_) U (.inr dc_) U6 (Rw _) fl_ fun V W X _ E=>VK (fun _=>(eK _ x.min (Eh N))) U9 ?_;obtain⟨bz,rfl,rfl⟩:=E;refine Vu [s_ bz (s*p:Nat) (s*p:Nat),ae (qtx (-x.min))] U8 ?_
    first|refine V1 (j:=0) U12 ?_|refine V1 (j:=1) U12 ?_
    exact Vf [1,2,5,6,8,9,10,19,20] d U<|G.perm (L':=[.arr (s_ bz (s*p) (s*p)) 32 1 (s*p) (List.replicate (s*p) (ae [48])),.obj e (.cells ⟨[s_ bz (s*p) (s*p),ae (qtx (-x.min))]⟩ 140 (0,0)),.arr o 140 2 (bj s p c (i-1)++bA s p x i k).length (aC g (bj s p c (i-1)++bA s p x i k)).flatten]) (by first|exact Rw _|exact List.Perm.swap _ _ _)<|Vp 0 mup (hn_ [1,2,5,6,8,9,10,19,20] U) ⟨bz,e,trivial,U,U⟩
   obtain⟨bz,e,_,rfl,rfl⟩:=z;refine G.cut (fun fr F f t=>(True)/\fr=[(1,[],.slice H c.length c0),(2,[],p_ I),(5,[],o),(6,[],i_ i),(8,[],i_ ((((i-1)*p+k:Nat)):Int)),(9,[],i_ (((i*p+k:Nat)):Int)),(10,[],p_ e),(19,[],i_ p),(20,[],i_ k)]/\f=[.arr (s_ bz (s*p) (s*p)) 32 1 (s*p) (lI (s*p) [(i*p+k, -1),((i-1)*p+k,1)]),.obj e (.cells ⟨[s_ bz (s*p) (s*p),ae (qtx (-x.min))]⟩ 140 (0,0)),.arr o 140 2 (bj s p c (i-1)++bA s p x i k).length (aC g (bj s p c (i-1)++bA s p x i k)).flatten]) ?_ (fun fr ba bb t bc z=>?_)
   ·refine VY (.cut [0,1,2,3,5,6] (.alt 4 (.fin [7,8,9]) (.alt 7 (.fin [4,8,9]) .stop))) [] U U kr_ fun R S d B=>Vc U6<|Vj af U9<|Ve 3 U<|VD (((i-1)*p+k)) U10 (fun _=>⟨by omega,by omega,(SL _).symm⟩) U2<|VL B U ⟨?_, ?_,trivial⟩
    ·refine Vj af U9<|VG (j:=0) U11 (by simp[];omega)<|VD ((i*p+k)) U10 (fun _=>⟨by omega,by omega,(SL _).symm⟩) U2<|VG (j:=0) U11 (by simp[aE];omega)<|Vf [1,2,5,6,8,9,10,19,20] d U<|Vr (L':=[.arr (s_ bz (s*p) (s*p)) 32 1 (s*p) (lI (s*p) [(i*p+k, -1),((i-1)*p+k,1)]),.obj e (.cells ⟨[s_ bz (s*p) (s*p),ae (qtx (-x.min))]⟩ 140 (0,0)),.arr o 140 2 (bj s p c (i-1)++bA s p x i k).length (aC g (bj s p c (i-1)++bA s p x i k)).flatten]) (by
      first
     |(rw[<- st2 (n:=s*p) 1 (-1) om_ om_,dF,cX];rfl)
     |(rw[<- QF (n:=s*p) 1 (-1) om_ om_ om_,dF,cX];rfl)) ?_
     exact Vp 0 l_ (hn_ [1,2,5,6,8,9,10,19,20] U) ⟨trivial,U,U⟩
    refine VG (j:=0) U11 (by simp[];omega)<|Vj af U9<|VD ((i*p+k)) U10 (fun _=>⟨by omega,by omega,(SL _).symm⟩) U2<|VG (j:=0) U11 (by simp[aE];omega)<|Vf [1,2,5,6,8,9,10,19,20] d U<|Vr (L':=[.arr (s_ bz (s*p) (s*p)) 32 1 (s*p) (lI (s*p) [(i*p+k, -1),((i-1)*p+k,1)]),.obj e (.cells ⟨[s_ bz (s*p) (s*p),ae (qtx (-x.min))]⟩ 140 (0,0)),.arr o 140 2 (bj s p c (i-1)++bA s p x i k).length (aC g (bj s p c (i-1)++bA s p x i k)).flatten]) (by
     first
    |(rw[<- st2 (n:=s*p) 1 (-1) om_ om_,dF,cX];rfl)
    |(rw[<- QF (n:=s*p) 1 (-1) om_ om_ om_,dF,cX];rfl)) ?_
    exact Vp 0 l_ (hn_ [1,2,5,6,8,9,10,19,20] U) ⟨trivial,U,U⟩
   obtain⟨_,rfl,rfl⟩:=z;refine G.freezeArr 0 ((sJ (s*p) [(i*p+k, -1),((i-1)*p+k,1)]).map dJ) rfl (jy _ _) (by intro r hr;obtain⟨y,_,rfl⟩:=Rs.1 hr;rfl) (by simp[jT]) (fun Cz hz aq=>?_);have ar:=Z.1;have ab:=RowsOk.snoc (r:=ta s p x i k) Z.m_ aq;have av:=eJ ar (s_ bz (s*p) (s*p)) (ta s p x i k);refine Va 1 U fun R d=>Vj ag U9<|Vy [[s_ bz (s*p:Nat) (s*p:Nat),ae (qtx (-x.min))]] U12 fun bd _ _ aw=>D.append (j:=1) U11 aw U ax (by simp only[Rp];omega) fl_ fun A=>C6 1 [1,2,5,6,8,9,10,19,20] d U<|Vr (L':=[.arr A 140 2 (bj s p c (i-1)++bA s p x i k++[ta s p x i k]).length (aC (g++[s_ bz (s*p) (s*p)]) (bj s p c (i-1)++bA s p x i k++[ta s p x i k])).flatten,.obj e (.cells ⟨[s_ bz (s*p) (s*p),ae (qtx (-x.min))]⟩ 140 (0,0))]) (by rw[av];simp[ta];omega)<|Va 2 U fun R d=>Vq K.m_ U10 om_ (cq M) fl_ fun be ay=>Wk ay U10 fl_ fun bf az=>Vb az U8<|C6 1 [1,2,5,6,8,9,10,19,20,58] d U<|G.cd (fun J=>?_) fun J=>?_
   ·obtain⟨m,hm⟩:∃ m,x.max=some m:=by
     rw[qE]at J;exact Uv.1 J
    have O:kH s p x i k=[ta s p x i k,HJ s p m i k]:=by unfold kH;rw[hm]
    have aA:wa x.max=qtx m:=by rw[hm];rfl
    refine G.cut (fun fr F f t=>∃ (h:Nat),(True)/\fr=[(1,[],.slice H c.length c0),(2,[],p_ I),(5,[],A),(6,[],i_ i),(8,[],i_ ((((i-1)*p+k:Nat)):Int)),(9,[],i_ (((i*p+k:Nat)):Int)),(10,[],p_ e),(19,[],i_ p),(20,[],i_ k)]/\f=[.arr (s_ h (s*p) (s*p)) 32 1 (s*p) (List.replicate (s*p) (ae [48])),.obj e (.cells ⟨[s_ h (s*p) (s*p),ae (wa x.max)]⟩ 140 (0,0)),.arr A 140 2 (bj s p c (i-1)++bA s p x i k++[ta s p x i k]).length (aC (g++[s_ bz (s*p) (s*p)]) (bj s p c (i-1)++bA s p x i k++[ta s p x i k])).flatten]) ?_ (fun fr bg bh t bi z=>?_)
    ·refine VY (.cut [0,2,3,4,5] (.alt 1 (.fin [6,7,8]) (.alt 6 (.fin [1,7,8]) .stop))) [(1,3)] U U kr_ fun R S d B=>Vb (bkT L 2) U8<|Ve 2 U<|Vq K.m_ U10 om_ (cq M) fl_ fun bk aB=>Wk aB U10 fl_ fun bl ak=>VL B U ⟨?_, ?_,trivial⟩
     ·refine D.call (gg _ s p om_) U (.inr dc_) U6 (Rw _) fl_ fun aD aF aG _ ac=>Vb ak.m_ U8 ?_;obtain⟨h,rfl,rfl⟩:=ac;refine Vu [s_ h (s*p:Nat) (s*p:Nat),ae (wa x.max)] U8 ?_
      first|refine V1 (j:=2) U12 ?_|refine V1 (j:=1) U12 ?_
      exact Vf [1,2,5,6,8,9,10,19,20] d U<|G.perm (L':=[.arr (s_ h (s*p) (s*p)) 32 1 (s*p) (List.replicate (s*p) (ae [48])),.obj e (.cells ⟨[s_ h (s*p) (s*p),ae (wa x.max)]⟩ 140 (0,0)),.arr A 140 2 (bj s p c (i-1)++bA s p x i k++[ta s p x i k]).length (aC (g++[s_ bz (s*p) (s*p)]) (bj s p c (i-1)++bA s p x i k++[ta s p x i k])).flatten]) (by first|exact Rw _|exact List.Perm.swap _ _ _)<|Vp 0 mup (hn_ [1,2,5,6,8,9,10,19,20] U) ⟨h,trivial,U,U⟩
     refine Vb ak.m_ U8<|D.call (gg _ s p om_) U (.inr dc_) U6 (Rw _) fl_ (fun aD aF aG _ ac=>?_);obtain⟨h,rfl,rfl⟩:=ac;refine Vu [s_ h (s*p:Nat) (s*p:Nat),ae (wa x.max)] U8 ?_
     first|refine V1 (j:=2) U12 ?_|refine V1 (j:=1) U12 ?_
     exact Vf [1,2,5,6,8,9,10,19,20] d U<|G.perm (L':=[.arr (s_ h (s*p) (s*p)) 32 1 (s*p) (List.replicate (s*p) (ae [48])),.obj e (.cells ⟨[s_ h (s*p) (s*p),ae (wa x.max)]⟩ 140 (0,0)),.arr A 140 2 (bj s p c (i-1)++bA s p x i k++[ta s p x i k]).length (aC (g++[s_ bz (s*p) (s*p)]) (bj s p c (i-1)++bA s p x i k++[ta s p x i k])).flatten]) (by first|exact Rw _|exact List.Perm.swap _ _ _)<|Vp 0 mup (hn_ [1,2,5,6,8,9,10,19,20] U) ⟨h,trivial,U,U⟩
    obtain⟨h,_,rfl,rfl⟩:=z;refine G.cut (fun fr F f t=>(True)/\fr=[(1,[],.slice H c.length c0),(2,[],p_ I),(5,[],A),(6,[],i_ i),(10,[],p_ e),(19,[],i_ p),(20,[],i_ k)]/\f=[.arr (s_ h (s*p) (s*p)) 32 1 (s*p) (lI (s*p) [(i*p+k,1),((i-1)*p+k, -1)]),.obj e (.cells ⟨[s_ h (s*p) (s*p),ae (wa x.max)]⟩ 140 (0,0)),.arr A 140 2 (bj s p c (i-1)++bA s p x i k++[ta s p x i k]).length (aC (g++[s_ bz (s*p) (s*p)]) (bj s p c (i-1)++bA s p x i k++[ta s p x i k])).flatten]) ?_ (fun fr bm bn t bo z=>?_)
    ·refine VY (.cut [0,1,2,3,5,6] (.alt 4 (.fin [7,8,9]) (.alt 7 (.fin [4,8,9]) .stop))) [] U U kr_ fun R S d B=>Vc U6<|Vj af U9<|Ve 3 U<|VD (((i-1)*p+k)) U10 (fun _=>⟨by omega,by omega,(SL _).symm⟩) U2<|VL B U ⟨?_, ?_,trivial⟩
     ·refine Vj af U9<|VG (j:=0) U11 (by simp[];omega)<|VD ((i*p+k)) U10 (fun _=>⟨by omega,by omega,(SL _).symm⟩) U2<|VG (j:=0) U11 (by simp[aE];omega)<|Vf [1,2,5,6,10,19,20] d U<|Vr (L':=[.arr (s_ h (s*p) (s*p)) 32 1 (s*p) (lI (s*p) [(i*p+k,1),((i-1)*p+k, -1)]),.obj e (.cells ⟨[s_ h (s*p) (s*p),ae (wa x.max)]⟩ 140 (0,0)),.arr A 140 2 (bj s p c (i-1)++bA s p x i k++[ta s p x i k]).length (aC (g++[s_ bz (s*p) (s*p)]) (bj s p c (i-1)++bA s p x i k++[ta s p x i k])).flatten]) (by
       first
      |(rw[<- st2 (n:=s*p) (-1) 1 om_ om_,dF,cX];rfl)
      |(rw[<- QF (n:=s*p) (-1) 1 om_ om_ om_,dF,cX];rfl)) ?_
      exact Vp 0 l_ (hn_ [1,2,5,6,10,19,20] U) ⟨trivial,U,U⟩
     refine VG (j:=0) U11 (by simp[];omega)<|Vj af U9<|VD ((i*p+k)) U10 (fun _=>⟨by omega,by omega,(SL _).symm⟩) U2<|VG (j:=0) U11 (by simp[aE];omega)<|Vf [1,2,5,6,10,19,20] d U<|Vr (L':=[.arr (s_ h (s*p) (s*p)) 32 1 (s*p) (lI (s*p) [(i*p+k,1),((i-1)*p+k, -1)]),.obj e (.cells ⟨[s_ h (s*p) (s*p),ae (wa x.max)]⟩ 140 (0,0)),.arr A 140 2 (bj s p c (i-1)++bA s p x i k++[ta s p x i k]).length (aC (g++[s_ bz (s*p) (s*p)]) (bj s p c (i-1)++bA s p x i k++[ta s p x i k])).flatten]) (by
      first
     |(rw[<- st2 (n:=s*p) (-1) 1 om_ om_,dF,cX];rfl)
     |(rw[<- QF (n:=s*p) (-1) 1 om_ om_ om_,dF,cX];rfl)) ?_
     exact Vp 0 l_ (hn_ [1,2,5,6,10,19,20] U) ⟨trivial,U,U⟩
    obtain⟨_,rfl,rfl⟩:=z;refine G.freezeArr 0 ((sJ (s*p) [(i*p+k,1),((i-1)*p+k, -1)]).map dJ) rfl (jy _ _) (by intro r hr;obtain⟨y,_,rfl⟩:=Rs.1 hr;rfl) (by simp[jT]) (fun bp bq aH=>?_);have aI:=RowsOk.snoc (r:=HJ s p m i k) ab.m_ aH;have aJ:=eJ ab.1 (s_ h (s*p) (s*p)) (HJ s p m i k);refine Va 1 U fun R d=>Vj ag U9<|Vy [[s_ h (s*p:Nat) (s*p:Nat),ae (wa x.max)]] U12 fun br _ _ aK=>D.append (j:=1) U11 aK U (by simp only[Ru,Rp,maxLen]at aj⊢;omega) (by simp only[Ru,Rp]at aj⊢;omega) fl_ fun al=>C6 1 [1,2,5,6,19,20] d U<|Vd fun R d=>Vh _ U U6<|C6 1 [1,2,5,6,19,20] d U<|VR 1 U<|Vr (L':=[.arr al 140 2 (bj s p c (i-1)++bA s p x i (k+1)).length (aC (g++[s_ bz (s*p) (s*p)]++[s_ h (s*p) (s*p)]) (bj s p c (i-1)++bA s p x i (k+1))).flatten]) (by
     rw[bA,O,<- R0,show ∀ (l:List RowQ)(a b:RowQ),l++[a,b]=l++[a]++[b] from fun l a b=>by simp,aJ,aA];simp[HJ];omega) ?_
    refine Vn (m':=p-(k+1)) om_ mup (hn_ [1,2,5,6,19,20] U) ⟨k+1,_,al,⟨by omega,by
     rw[bA,O,<- R0,show ∀ (l:List RowQ)(a b:RowQ),l++[a,b]=l++[a]++[b] from fun l a b=>by simp];exact aI.mono mup⟩,U,U,U⟩
   have hm:x.max=none:=by
    rw[qE]at J;cases aL:x.max with
   |none=>rfl
   |some q=>rw[aL]at J;cases J
   have O:kH s p x i k=[ta s p x i k]:=by unfold kH;rw[hm]
   refine Vd fun R d=>Vh _ U U6<|C6 1 [1,2,5,6,19,20] d U<|VR 1 U<|Vr (L':=[.arr A 140 2 (bj s p c (i-1)++bA s p x i (k+1)).length (aC (g++[s_ bz (s*p) (s*p)]) (bj s p c (i-1)++bA s p x i (k+1))).flatten]) (by rw[bA,O,<- R0];rfl)<|Vn (m':=p-(k+1)) om_ mup (hn_ [1,2,5,6,19,20] U) ⟨k+1,_,A,⟨by omega,by
    rw[bA,O,<- R0];exact ab.mono mup⟩,U,U,U⟩
  have ah:k=p:=by
   have:¬ k<p:=by simpa using aa
   omega
  have am:bj s p c (i-1)++bA s p x i k=bj s p c i:=by
   obtain⟨j,rfl⟩:∃ j,i=j+1:=⟨i-1,by omega⟩;rw[ah,TH,bj,Mu M]
  refine Va 1 U fun R d=>Vh _ U U6<|C6 1 [1,2,5,6] d U<|Vr (L':=[.arr o 140 2 (bj s p c (i+1-1)).length (aC g (bj s p c (i+1-1))).flatten]) (by rw[am];rfl)<|Vn (m':=c.length-(i+1)) om_ mup (hn_ [1,2,5,6] U) ⟨i+1,g,o,⟨by omega,.inl om_,by rw[TH,<- am];exact Z⟩,U,U,U⟩
 have ad:i-1=c.length-2:=by
  have:=Rt Y;omega
 refine U1 2 [4] U ?_;rw[ad]at Q⊢;exact G.freezeArr 0 (aC vs (bj s p c (c.length-2))) U U (bQ _ _) (bE Q.1) fun Cg hg aM=>Vg U2<|⟨U,vs,Q.mono mup,aM⟩
theorem kg {l:List (Nat × Rat)}(q:Rat)(h:k ∉ l.map (·.1)):iO (eO l) ((k:Nat):Int) (ae (qtx q))=eO (l++[(k,q)]):=by
 rw[jZ (by
  rw[cC];unfold eO;rw[So];intro hm;obtain⟨x,a,b⟩:=Rs.1 hm;have:x.1=k:=by
   have h2:((x.1:Nat):Int)=(k:Int):=b;omega
  exact h (this ▸ TA (f:=(·.1)) a))]
 simp[eO]
theorem rL (a c:Pt):cJ a a c=0/\cJ c a a=0/\cJ a c a=0:=by
 unfold cJ;refine⟨?_, ?_, ?_⟩ <;> grind
theorem uj {a:List Pt}{b:List Tri}(c:MeshOk a b)(d:t∈b):t.1≠t.2.1/\t.1≠t.2.2/\t.2.1≠t.2.2:=by
 have h:=iv c d;refine⟨fun e=>h ?_,fun e=>h ?_,fun e=>h ?_⟩
 ·have:cor a t 1=cor a t 0:=by show a.getD t.2.1 _=a.getD t.1 _;rw[e]
  rw[this];exact(rL _ _).1
 ·have:cor a t 2=cor a t 0:=by show a.getD t.2.2 _=a.getD t.1 _;rw[e]
  rw[this];exact(rL _ _).2.2
 have:cor a t 2=cor a t 1:=by show a.getD t.2.2 _=a.getD t.2.1 _;rw[e]
 rw[this];exact(rL _ _).2.1
def atT (t:Tri)(f:Nat->Rat):List (Nat × Rat):=[(t.1,f 0),(t.2.1,f 1),(t.2.2,f 2)]
theorem rI (f:Nat->Rat)(h:t.1≠t.2.1/\t.1≠t.2.2/\t.2.1≠t.2.2):((atT t f).map (·.1)).Nodup:=by
 simp[atT,h.1,h.2.1,h.2.2]
theorem EX (C:Mem)(w:Tabs C)(x:Value)(c:List Pt)(e:List Tri)(p:Pt)(i:Nat)(r:List Nat)(t:Tri)(y:MeshIn C x c e)(k:Good c e)(z:QP 23 p)(A:PtR p)(K:kC c e p=i::r)(g:e[i]?=some t)(L:∀ j,QB 22 (wgt c t p j)) :
  Pur cx.P 242 [x,ptV p] C fun u D=>∃ b,u=.tuple #[.map (some b),i_ (i:Nat),i_ 0]/\D b=some (aY keyZ.enc (eO (atT t (wgt c t p)))):=by
 have M:=k.ok;have n:=y;have ad:=(aJ.1 g).1;obtain⟨N,O,Q⟩:=uj M (aU g);obtain⟨v1,v2,rfl,h1,h2⟩:=id y.ex;obtain⟨A2,c2,rfl,S,ae,_⟩:=id h2;have af:=mx_
 simp only[au]at h2 n S⊢;refine Vi func242 54 U3 fun w0=>Vd fun R a=>Vs U6 fun b2=>Vs U6 fun b3=>C6 3 [2,3] a U<|G.freeze 1 U fun _ _ o=>G.freeze 0 U fun _ _ B=>Vd fun R a=>Vb (bkT o 2) U8<|Vb (bkT B 2) U8<|VJ (ml _ w.m_ _ c e p n.m_ k z A) U7 (fun ag _ _ T=>?_);obtain⟨wv,rfl,f⟩:=T;rw[K]at f;obtain⟨V,W,E,_⟩:=id f;rw[au]at E;subst E;refine C6 5 [2,3,6,7] a U<|U1 2 [2,3,6,7,18] U<|G.cd (fun F=>?_) fun F=>?_
 ·exact absurd F dc_
 refine Vv [0,1,2,3,4,5,6,7,8,9,10,11] [(5,1)] U kr_ fun R H a=>Vb (bkT o 2) U8<|Vc U6<|Vq f.m_ U10 om_ (rfl:(List.map aW (i::r))[0]?=some (aW i)) fl_ fun ah X=>Vb X U8<|Vb (bkT B 2) U8<|VK (fun _=>(wX _ w.m_ _ c e p i t n.m_ k z A g L)) U9<|Ve 3 U<|Vt U5 fun Y=>Vk (j:=0) U12<|C6 1 [2,6,7,8] a U<|U1 2 [2,6,7,8,30] U<|G.cd (fun I=>?_) fun I=>?_
 ·exact absurd I dc_
 refine G.freeze 0 U fun _ _ q=>Vd fun R a=>D.makeMap keyZ U U U U fl_ fun d=>C6 1 [2,4,7,8] a U<|Vv [0,1,2,3,4,5,6,7] [] U kr_ fun R H a=>Vc U6<|Vb (bkT o 1) U8<|Vc U6<|Vq f.m_ U10 om_ (rfl:(List.map aW (i::r))[0]?=some (aW i)) fl_ fun ai Z=>Vb Z U8<|Vq h2.m_ U10 om_ (cq g) fl_ fun aj aa=>Vb aa U8<|C6 1 [4,7,8,39,40] a U<|G.loop (fun fr C' h μ=>∃ (j:Nat),(j<=3)/\fr=[(4,[],.map (some d)),(7,[],.slice V (i::r).length W),(8,[],p_ Y),(39,[],.agg ⟨iB t⟩),(40,[],i_ j)]/\h=[.obj d (aY keyZ.enc (eO ((atT t (wgt c t p)).take j)))]/\μ=3-j) (hn_ [4,7,8,39,40] U) ⟨0,Rv _,U,U,U⟩ (fun fr al am m s hI=>?_);obtain⟨j,hj,rfl,rfl,rfl⟩:=hI;refine U1 1 [4,7,8,39,40,41] U<|G.cd (fun v=>?_) fun v=>?_
 ·have J:j<3:=by
   simp only[Ry]at v;omega
  rcases(by omega:j=0∨j=1∨j=2) with rfl|rfl|rfl
  ·refine Va 1 U fun R a=>V3 U11 k_ U2<|C6 2 [4,7,8,9,10,39,40] a U<|Va 3 U fun R a=>Vw (_) U9 k_ U2<|Vb (bkT q 1) U8<|D.mapUpdate keyZ (j:=0) U U U U U U U U U U kr_<|Vf [4,7,8,39,40] a U<|Vd fun R a=>Vh _ U U6<|C6 1 [4,7,8,39,40] a U<|Vr (L':=[.obj d (aY keyZ.enc (eO ((atT t (wgt c t p)).take 1)))]) (congrArg (fun m=>[Ent.obj d (aY keyZ.enc m)]) (kg (l:=[]) _ ak))<|Vn (m':=2) om_ s (hn_ [4,7,8,39,40] U) ⟨1,by decide,U,U,U⟩
  ·refine Va 1 U fun R a=>V3 U11 k_ U2<|C6 2 [4,7,8,9,10,39,40] a U<|Va 3 U fun R a=>Vw (_) U9 k_ U2<|Vb (bkT q 1) U8<|D.mapUpdate keyZ (j:=0) U U U U U U U U U U kr_<|Vf [4,7,8,39,40] a U<|Vd fun R a=>Vh _ U U6<|C6 1 [4,7,8,39,40] a U<|Vr (L':=[.obj d (aY keyZ.enc (eO ((atT t (wgt c t p)).take 2)))]) (congrArg (fun m=>[Ent.obj d (aY keyZ.enc m)]) (kg (l:=[(t.1,wgt c t p 0)]) _ (by simpa using N.symm)))<|Vn (m':=1) om_ s (hn_ [4,7,8,39,40] U) ⟨2,by decide,U,U,U⟩
  refine Va 1 U fun R a=>V3 U11 k_ U2<|C6 2 [4,7,8,9,10,39,40] a U<|Va 3 U fun R a=>Vw (_) U9 k_ U2<|Vb (bkT q 1) U8<|D.mapUpdate keyZ (j:=0) U U U U U U U U U U kr_<|Vf [4,7,8,39,40] a U<|Vd fun R a=>Vh _ U U6<|C6 1 [4,7,8,39,40] a U<|Vr (L':=[.obj d (aY keyZ.enc (eO ((atT t (wgt c t p)).take 3)))]) (congrArg (fun m=>[Ent.obj d (aY keyZ.enc m)]) (kg (l:=[(t.1,wgt c t p 0),(t.2.1,wgt c t p 1)]) _ (by simp[O.symm,Q.symm])))<|Vn (m':=0) om_ s (hn_ [4,7,8,39,40] U) ⟨3,by decide,U,U,U⟩
 have J:j=3:=by
  simp only[RZ]at v;omega
 subst J;refine G.freeze 0 U fun Cm an ab=>Vv [0,1,2,3,4,5,6] [] U kr_ fun R H a=>Ve 2 U<|Vq f.m_ U10 om_ (rfl:(List.map aW (i::r))[0]?=some (aW i)) fl_ fun ao ac=>Vb ac U8<|C6 3 [4,5,6] a U<|Vo (G.dropAll (V2 U4 ?_));exact⟨U,d,U,ab⟩
theorem dx (t:Tri)(f:Nat->Rat)(j:Nat)(a:j<3)(h:t.1≠t.2.1/\t.1≠t.2.2/\t.2.1≠t.2.2):iO (eO ((atT t f).take j)) ((gY t j:Nat):Int) (ae (qtx (f j)))=eO ((atT t f).take (j+1)):=by
 rcases(by omega:j=0∨j=1∨j=2) with rfl|rfl|rfl
 ·exact kg (l:=[]) _ ak
 ·exact kg (l:=[(t.1,f 0)]) (k:=t.2.1) _ (by simpa using h.1.symm)
 exact kg (l:=[(t.1,f 0),(t.2.1,f 1)]) (k:=t.2.2) _ (by simp[h.2.1.symm,h.2.2.symm])
def oy (n k:Nat):List Rat:=sJ n [(k,1)]
def slf (pts:List Pt)(t:Tri)(j:Nat):Pt:=dD pts (oy pts.length (gY t j)) t
theorem gE (n k:Nat):(oy n k).length=n:=jT n _
theorem BF :∀ q∈oy n k,q=0∨q=1:=by
 intro q a;unfold oy sJ at a;obtain⟨j,_,rfl⟩:=Rs.1 a;simp only[dY];split
 ·exact .inr U
 exact .inl U
theorem jL :∀ q∈oy n k,QB 1 q:=by
 intro q a;rcases BF q a with rfl|rfl
 ·exact QB_zero
 exact QB_one
theorem ET (C:Mem)(J:Tabs C)(O:Value)(a:List Pt)(s:List Tri)(i:Nat)(t:Tri)(Q:MeshIn C O a s)(E:Good a s)(l:s[i]?=some t)(K:∀ j,QP 22 (slf a t j)) :
  Pur cx.P 248 [O,i_ i] C fun u D=>∃ S T,u=.tuple #[.map (some S),.map (some T),i_ 0]/\D S=some (aY keyZ.enc (eO (atT t fun j=>(slf a t j).1)))/\D T=some (aY keyZ.enc (eO (atT t fun j=>(slf a t j).2))):=by
 have L:=E.ok;have F:=Q;have al:=L.lp;have H:=L.ins t (aU l);obtain⟨am,an,ao⟩:=id H;have ap:=(aJ.1 l).1;obtain⟨f,g,h⟩:=uj L (aU l);obtain⟨v1,v2,rfl,h1,h2⟩:=id Q.ex;obtain⟨A1,c1,rfl,aq,ar,_⟩:=id h1;obtain⟨A2,c2,rfl,ah,av,_⟩:=id h2;have aw:=mx_
 simp only[au]at h1 h2 F ah⊢;refine Vi func248 51 U3 fun w0=>Vd fun R b=>Vs U6 fun I=>C6 3 [1,2] b U<|G.freeze 0 U fun _ _ n=>Vd fun R b=>D.makeMap keyZ U U U U fl_ fun c=>D.makeMap keyZ U U U U fl_ fun d=>C6 2 [1,2,4,5] b U<|Va 1 U fun R b=>Vb (bkT n 1) U8<|Vc U6<|Vq h2.m_ U10 om_ (cq l) fl_ fun ax ai=>Vb ai U8<|C6 1 [1,2,4,5,18,19] b U<|G.perm (L':=[.obj c (aY keyZ.enc (eO [])),.obj d (aY keyZ.enc (eO []))]) (List.Perm.swap _ _ _)<|G.loop (fun fr M e o=>∃ (j:Nat),(j<=3)/\fr=[(1,[],i_ i),(2,[],p_ I),(4,[],.map (some c)),(5,[],.map (some d)),(18,[],.agg ⟨iB t⟩),(19,[],i_ j)]/\e=[.obj c (aY keyZ.enc (eO ((atT t fun j=>(slf a t j).1).take j))),.obj d (aY keyZ.enc (eO ((atT t fun j=>(slf a t j).2).take j)))]/\o=3-j) (hn_ [1,2,4,5,18,19] U) ⟨0,Rv _,U,U,U⟩ (fun fr ay az m _ p=>?_);obtain⟨j,hj,rfl,rfl,rfl⟩:=p;refine U1 1 [1,2,4,5,18,19,20] U<|G.cd (fun N=>?_) fun N=>?_
 ·have V:j<3:=by
   simp only[Ry]at N;omega
  rcases(by omega:j=0∨j=1∨j=2) with rfl|rfl|rfl
  ·refine Vd fun R b=>V3 U11 k_ U2<|C6 1 [1,2,4,5,8,18,19] b U<|VB [(4,3)] U fun R b=>Vy [[ae [48]]] U12 fun W X _ v=>Vc U6<|Vb (bkT n 1) U8<|Vc U6<|D.call (nC _ _ a.length [48] v.m_ om_) U (.inr dc_) U6 (Rw _) fl_ fun Y Z aa _ w=>C6 1 [1,2,4,5,8,9,18,19] b U ?_;obtain⟨bz,rfl,rfl⟩:=w;have x:gY t 0<a.length:=eS H 0;refine Vr (L':=[.arr (s_ bz a.length a.length) 32 1 a.length (lI a.length []),.obj c (aY keyZ.enc (eO ((atT t fun j=>(slf a t j).1).take 0))),.obj d (aY keyZ.enc (eO ((atT t fun j=>(slf a t j).2).take 0)))]) (by rw[mI];rfl)<|Va 2 U fun R b=>VD ((gY t 0)) U10 (fun _=>⟨by omega,by omega,(SL _).symm⟩) U2<|VG (j:=0) U11 (by rw[mJ];simp;omega)<|Vf [1,2,4,5,8,9,18,19] b U<|Vr (L':=[.arr (s_ bz a.length a.length) 32 1 a.length (lI a.length [(gY t 0,1)]),.obj c (aY keyZ.enc (eO ((atT t fun j=>(slf a t j).1).take 0))),.obj d (aY keyZ.enc (eO ((atT t fun j=>(slf a t j).2).take 0)))]) (by rw[<- fI [] 1 x,dF];rfl)<|G.freezeArr 0 ((oy a.length (gY t 0)).map dJ) rfl (jy _ _) (by intro r hr;obtain⟨y,_,rfl⟩:=Rs.1 hr;rfl) (by rw[au,gE]) fun Cz hz z=>Vd fun R b=>Vb (bkT n 2) U8<|Ve 2 U<|Vm (ur _ J.m_ _ _ a s (oy a.length (gY t 0)) 1 dc_ dc_ F.m_ E z.m_ (gE _ _) jL (fun q A=>bh ((jL q A).le dc_)) i t l (K 0)) U7 fl_<|Ve 3 U<|Vt U5 fun ab=>Vk (j:=0) U12<|C6 1 [1,2,4,5,8,10,11,18,19] b U<|U1 2 [1,2,4,5,8,10,11,18,19,38] U<|G.cd (fun ac=>?_) fun ac=>?_
   ·exact absurd ac dc_
   refine G.freeze 0 U fun ad _ k=>G.cut (fun fr M e o=>(True)/\fr=[(1,[],i_ i),(2,[],p_ I),(4,[],.map (some c)),(5,[],.map (some d)),(18,[],.agg ⟨iB t⟩),(19,[],i_ ((0:Nat):Int))]/\e=[.obj c (aY keyZ.enc (eO ((atT t fun j=>(slf a t j).1).take (0+1)))),.obj d (aY keyZ.enc (eO ((atT t fun j=>(slf a t j).2).take (0+1))))]) ?_ (fun fr aA aB o aC p=>?_)
   ·refine VY (.cut [0,1,2,3,4,5,6] (.alt 7 (.fin [8,9]) (.alt 8 (.fin [7,9]) .stop))) [] U U kr_ fun R hB b B=>Ve 5 U<|Vb (bkT k 1) U8<|Vc U6<|VL B U ⟨?_, ?_,trivial⟩
    ·refine Vb (bkT k 1) U8 ?_
     first|refine D.mapUpdate keyZ (j:=0) rfl rfl rfl rfl rfl rfl rfl rfl rfl rfl kr_ ?_|refine D.mapUpdate keyZ (j:=1) rfl rfl rfl rfl rfl rfl rfl rfl rfl rfl kr_ ?_
     first|refine D.mapUpdate keyZ (j:=1) rfl rfl rfl rfl rfl rfl rfl rfl rfl rfl kr_ ?_|refine D.mapUpdate keyZ (j:=0) rfl rfl rfl rfl rfl rfl rfl rfl rfl rfl kr_ ?_
     refine Vf [1,2,4,5,18,19] b U<|G.perm (L':=[.obj c (aY keyZ.enc (eO ((atT t fun j=>(slf a t j).1).take (0+1)))),.obj d (aY keyZ.enc (eO ((atT t fun j=>(slf a t j).2).take (0+1))))]) (by
      rw[<- dx t (fun j=>(slf a t j).1) 0 dc_ ⟨f,g,h⟩,<- dx t (fun j=>(slf a t j).2) 0 dc_ ⟨f,g,h⟩]
      first|exact Rw _|exact List.Perm.swap _ _ _) ?_
     exact Vp 0 l_ (hn_ [1,2,4,5,18,19] U) ⟨trivial,U,U⟩
    first|refine D.mapUpdate keyZ (j:=0) rfl rfl rfl rfl rfl rfl rfl rfl rfl rfl kr_ ?_|refine D.mapUpdate keyZ (j:=1) rfl rfl rfl rfl rfl rfl rfl rfl rfl rfl kr_ ?_
    refine Vb (bkT k 1) U8 ?_
    first|refine D.mapUpdate keyZ (j:=1) rfl rfl rfl rfl rfl rfl rfl rfl rfl rfl kr_ ?_|refine D.mapUpdate keyZ (j:=0) rfl rfl rfl rfl rfl rfl rfl rfl rfl rfl kr_ ?_
    refine Vf [1,2,4,5,18,19] b U<|G.perm (L':=[.obj c (aY keyZ.enc (eO ((atT t fun j=>(slf a t j).1).take (0+1)))),.obj d (aY keyZ.enc (eO ((atT t fun j=>(slf a t j).2).take (0+1))))]) (by
     rw[<- dx t (fun j=>(slf a t j).1) 0 dc_ ⟨f,g,h⟩,<- dx t (fun j=>(slf a t j).2) 0 dc_ ⟨f,g,h⟩]
     first|exact Rw _|exact List.Perm.swap _ _ _) ?_
    exact Vp 0 l_ (hn_ [1,2,4,5,18,19] U) ⟨trivial,U,U⟩
   obtain⟨_,rfl,rfl⟩:=p;refine Vd fun R b=>Vh _ U U6<|C6 1 [1,2,4,5,18,19] b U<|Vn (m':=2) om_ mup (hn_ [1,2,4,5,18,19] U) ⟨1,by decide,U,U,U⟩
  ·refine Vd fun R b=>V3 U11 k_ U2<|C6 1 [1,2,4,5,8,18,19] b U<|VB [(4,3)] U fun R b=>Vy [[ae [48]]] U12 fun W X _ v=>Vc U6<|Vb (bkT n 1) U8<|Vc U6<|D.call (nC _ _ a.length [48] v.m_ om_) U (.inr dc_) U6 (Rw _) fl_ fun Y Z aa _ w=>C6 1 [1,2,4,5,8,9,18,19] b U ?_;obtain⟨bz,rfl,rfl⟩:=w;have x:gY t 1<a.length:=eS H 1;refine Vr (L':=[.arr (s_ bz a.length a.length) 32 1 a.length (lI a.length []),.obj c (aY keyZ.enc (eO ((atT t fun j=>(slf a t j).1).take 1))),.obj d (aY keyZ.enc (eO ((atT t fun j=>(slf a t j).2).take 1)))]) (by rw[mI];rfl)<|Va 2 U fun R b=>VD ((gY t 1)) U10 (fun _=>⟨by omega,by omega,(SL _).symm⟩) U2<|VG (j:=0) U11 (by rw[mJ];simp;omega)<|Vf [1,2,4,5,8,9,18,19] b U<|Vr (L':=[.arr (s_ bz a.length a.length) 32 1 a.length (lI a.length [(gY t 1,1)]),.obj c (aY keyZ.enc (eO ((atT t fun j=>(slf a t j).1).take 1))),.obj d (aY keyZ.enc (eO ((atT t fun j=>(slf a t j).2).take 1)))]) (by rw[<- fI [] 1 x,dF];rfl)<|G.freezeArr 0 ((oy a.length (gY t 1)).map dJ) rfl (jy _ _) (by intro r hr;obtain⟨y,_,rfl⟩:=Rs.1 hr;rfl) (by rw[au,gE]) fun Cz hz z=>Vd fun R b=>Vb (bkT n 2) U8<|Ve 2 U<|Vm (ur _ J.m_ _ _ a s (oy a.length (gY t 1)) 1 dc_ dc_ F.m_ E z.m_ (gE _ _) jL (fun q A=>bh ((jL q A).le dc_)) i t l (K 1)) U7 fl_<|Ve 3 U<|Vt U5 fun ab=>Vk (j:=0) U12<|C6 1 [1,2,4,5,8,10,11,18,19] b U<|U1 2 [1,2,4,5,8,10,11,18,19,38] U<|G.cd (fun af=>?_) fun af=>?_
   ·exact absurd af dc_
   refine G.freeze 0 U fun ad _ k=>G.cut (fun fr M e o=>(True)/\fr=[(1,[],i_ i),(2,[],p_ I),(4,[],.map (some c)),(5,[],.map (some d)),(18,[],.agg ⟨iB t⟩),(19,[],i_ ((1:Nat):Int))]/\e=[.obj c (aY keyZ.enc (eO ((atT t fun j=>(slf a t j).1).take (1+1)))),.obj d (aY keyZ.enc (eO ((atT t fun j=>(slf a t j).2).take (1+1))))]) ?_ (fun fr aD aE o aF p=>?_)
   ·refine VY (.cut [0,1,2,3,4,5,6] (.alt 7 (.fin [8,9]) (.alt 8 (.fin [7,9]) .stop))) [] U U kr_ fun R hB b B=>Ve 5 U<|Vb (bkT k 1) U8<|Vc U6<|VL B U ⟨?_, ?_,trivial⟩
    ·refine Vb (bkT k 1) U8 ?_
     first|refine D.mapUpdate keyZ (j:=0) rfl rfl rfl rfl rfl rfl rfl rfl rfl rfl kr_ ?_|refine D.mapUpdate keyZ (j:=1) rfl rfl rfl rfl rfl rfl rfl rfl rfl rfl kr_ ?_
     first|refine D.mapUpdate keyZ (j:=1) rfl rfl rfl rfl rfl rfl rfl rfl rfl rfl kr_ ?_|refine D.mapUpdate keyZ (j:=0) rfl rfl rfl rfl rfl rfl rfl rfl rfl rfl kr_ ?_
     refine Vf [1,2,4,5,18,19] b U<|G.perm (L':=[.obj c (aY keyZ.enc (eO ((atT t fun j=>(slf a t j).1).take (1+1)))),.obj d (aY keyZ.enc (eO ((atT t fun j=>(slf a t j).2).take (1+1))))]) (by
      rw[<- dx t (fun j=>(slf a t j).1) 1 dc_ ⟨f,g,h⟩,<- dx t (fun j=>(slf a t j).2) 1 dc_ ⟨f,g,h⟩]
      first|exact Rw _|exact List.Perm.swap _ _ _) ?_
     exact Vp 0 l_ (hn_ [1,2,4,5,18,19] U) ⟨trivial,U,U⟩
    first|refine D.mapUpdate keyZ (j:=0) rfl rfl rfl rfl rfl rfl rfl rfl rfl rfl kr_ ?_|refine D.mapUpdate keyZ (j:=1) rfl rfl rfl rfl rfl rfl rfl rfl rfl rfl kr_ ?_
    refine Vb (bkT k 1) U8 ?_
    first|refine D.mapUpdate keyZ (j:=1) rfl rfl rfl rfl rfl rfl rfl rfl rfl rfl kr_ ?_|refine D.mapUpdate keyZ (j:=0) rfl rfl rfl rfl rfl rfl rfl rfl rfl rfl kr_ ?_
    refine Vf [1,2,4,5,18,19] b U<|G.perm (L':=[.obj c (aY keyZ.enc (eO ((atT t fun j=>(slf a t j).1).take (1+1)))),.obj d (aY keyZ.enc (eO ((atT t fun j=>(slf a t j).2).take (1+1))))]) (by
     rw[<- dx t (fun j=>(slf a t j).1) 1 dc_ ⟨f,g,h⟩,<- dx t (fun j=>(slf a t j).2) 1 dc_ ⟨f,g,h⟩]
     first|exact Rw _|exact List.Perm.swap _ _ _) ?_
    exact Vp 0 l_ (hn_ [1,2,4,5,18,19] U) ⟨trivial,U,U⟩
   obtain⟨_,rfl,rfl⟩:=p;refine Vd fun R b=>Vh _ U U6<|C6 1 [1,2,4,5,18,19] b U<|Vn (m':=1) om_ mup (hn_ [1,2,4,5,18,19] U) ⟨2,by decide,U,U,U⟩
  refine Vd fun R b=>V3 U11 k_ U2<|C6 1 [1,2,4,5,8,18,19] b U<|VB [(4,3)] U fun R b=>Vy [[ae [48]]] U12 fun W X _ v=>Vc U6<|Vb (bkT n 1) U8<|Vc U6<|D.call (nC _ _ a.length [48] v.m_ om_) U (.inr dc_) U6 (Rw _) fl_ fun Y Z aa _ w=>C6 1 [1,2,4,5,8,9,18,19] b U ?_;obtain⟨bz,rfl,rfl⟩:=w;have x:gY t 2<a.length:=eS H 2;refine Vr (L':=[.arr (s_ bz a.length a.length) 32 1 a.length (lI a.length []),.obj c (aY keyZ.enc (eO ((atT t fun j=>(slf a t j).1).take 2))),.obj d (aY keyZ.enc (eO ((atT t fun j=>(slf a t j).2).take 2)))]) (by rw[mI];rfl)<|Va 2 U fun R b=>VD ((gY t 2)) U10 (fun _=>⟨by omega,by omega,(SL _).symm⟩) U2<|VG (j:=0) U11 (by rw[mJ];simp;omega)<|Vf [1,2,4,5,8,9,18,19] b U<|Vr (L':=[.arr (s_ bz a.length a.length) 32 1 a.length (lI a.length [(gY t 2,1)]),.obj c (aY keyZ.enc (eO ((atT t fun j=>(slf a t j).1).take 2))),.obj d (aY keyZ.enc (eO ((atT t fun j=>(slf a t j).2).take 2)))]) (by rw[<- fI [] 1 x,dF];rfl)<|G.freezeArr 0 ((oy a.length (gY t 2)).map dJ) rfl (jy _ _) (by intro r hr;obtain⟨y,_,rfl⟩:=Rs.1 hr;rfl) (by rw[au,gE]) fun Cz hz z=>Vd fun R b=>Vb (bkT n 2) U8<|Ve 2 U<|Vm (ur _ J.m_ _ _ a s (oy a.length (gY t 2)) 1 dc_ dc_ F.m_ E z.m_ (gE _ _) jL (fun q A=>bh ((jL q A).le dc_)) i t l (K 2)) U7 fl_<|Ve 3 U<|Vt U5 fun ab=>Vk (j:=0) U12<|C6 1 [1,2,4,5,8,10,11,18,19] b U<|U1 2 [1,2,4,5,8,10,11,18,19,38] U<|G.cd (fun ag=>?_) fun ag=>?_
  ·exact absurd ag dc_
  refine G.freeze 0 U fun ad _ k=>G.cut (fun fr M e o=>(True)/\fr=[(1,[],i_ i),(2,[],p_ I),(4,[],.map (some c)),(5,[],.map (some d)),(18,[],.agg ⟨iB t⟩),(19,[],i_ ((2:Nat):Int))]/\e=[.obj c (aY keyZ.enc (eO ((atT t fun j=>(slf a t j).1).take (2+1)))),.obj d (aY keyZ.enc (eO ((atT t fun j=>(slf a t j).2).take (2+1))))]) ?_ (fun fr aG aH o aI p=>?_)
  ·refine VY (.cut [0,1,2,3,4,5,6] (.alt 7 (.fin [8,9]) (.alt 8 (.fin [7,9]) .stop))) [] U U kr_ fun R hB b B=>Ve 5 U<|Vb (bkT k 1) U8<|Vc U6<|VL B U ⟨?_, ?_,trivial⟩
   ·refine Vb (bkT k 1) U8 ?_
    first|refine D.mapUpdate keyZ (j:=0) rfl rfl rfl rfl rfl rfl rfl rfl rfl rfl kr_ ?_|refine D.mapUpdate keyZ (j:=1) rfl rfl rfl rfl rfl rfl rfl rfl rfl rfl kr_ ?_
    first|refine D.mapUpdate keyZ (j:=1) rfl rfl rfl rfl rfl rfl rfl rfl rfl rfl kr_ ?_|refine D.mapUpdate keyZ (j:=0) rfl rfl rfl rfl rfl rfl rfl rfl rfl rfl kr_ ?_
    refine Vf [1,2,4,5,18,19] b U<|G.perm (L':=[.obj c (aY keyZ.enc (eO ((atT t fun j=>(slf a t j).1).take (2+1)))),.obj d (aY keyZ.enc (eO ((atT t fun j=>(slf a t j).2).take (2+1))))]) (by
     rw[<- dx t (fun j=>(slf a t j).1) 2 dc_ ⟨f,g,h⟩,<- dx t (fun j=>(slf a t j).2) 2 dc_ ⟨f,g,h⟩]
     first|exact Rw _|exact List.Perm.swap _ _ _) ?_
    exact Vp 0 l_ (hn_ [1,2,4,5,18,19] U) ⟨trivial,U,U⟩
   first|refine D.mapUpdate keyZ (j:=0) rfl rfl rfl rfl rfl rfl rfl rfl rfl rfl kr_ ?_|refine D.mapUpdate keyZ (j:=1) rfl rfl rfl rfl rfl rfl rfl rfl rfl rfl kr_ ?_
   refine Vb (bkT k 1) U8 ?_
   first|refine D.mapUpdate keyZ (j:=1) rfl rfl rfl rfl rfl rfl rfl rfl rfl rfl kr_ ?_|refine D.mapUpdate keyZ (j:=0) rfl rfl rfl rfl rfl rfl rfl rfl rfl rfl kr_ ?_
   refine Vf [1,2,4,5,18,19] b U<|G.perm (L':=[.obj c (aY keyZ.enc (eO ((atT t fun j=>(slf a t j).1).take (2+1)))),.obj d (aY keyZ.enc (eO ((atT t fun j=>(slf a t j).2).take (2+1))))]) (by
    rw[<- dx t (fun j=>(slf a t j).1) 2 dc_ ⟨f,g,h⟩,<- dx t (fun j=>(slf a t j).2) 2 dc_ ⟨f,g,h⟩]
    first|exact Rw _|exact List.Perm.swap _ _ _) ?_
   exact Vp 0 l_ (hn_ [1,2,4,5,18,19] U) ⟨trivial,U,U⟩
  obtain⟨_,rfl,rfl⟩:=p;refine Vd fun R b=>Vh _ U U6<|C6 1 [1,2,4,5,18,19] b U<|Vn (m':=0) om_ mup (hn_ [1,2,4,5,18,19] U) ⟨3,by decide,U,U,U⟩
 have V:j=3:=by
  simp only[RZ]at N;omega
 subst V;refine G.freeze 0 U fun Cm aK aj=>G.freeze 0 U fun Cn aL ak=>U1 5 [4,5,6] U<|Vo (G.dropAll (V2 U4 ?_));exact⟨U,c,d,U,Mem.get aj mup,ak⟩
theorem rC (C:Mem)(v:Value)(l:List Rat)(b:Sl C 1 v (l.map dJ))(t:l.length<=1000000):Jog.Fn cx.P 50 [v] C [] fun u _w e=>∃ A n c,u=.slice A n c/\e=[.arr (.slice A n c) 32 1 l.length (l.map dJ).flatten]:=by
 obtain⟨f,c0,rfl,m,x,y,o⟩:=id b;have z:=mx_
 simp only[au]at b m⊢;refine Vi func50 8 U3 fun w0=>U1 1 [0] U<|Va 1 U fun R d=>Wu U9<|Vf [0,4] d U<|G.cd (fun h4=>?_) fun h4=>?_
 ·have p:f=none:=by
   cases f with
  |none=>rfl
  |some a=>cases h4
  have s:l=[]:=by
   cases l with
  |nil=>rfl
  |cons q r =>
    obtain⟨a,g,_⟩:=o 0 (dJ q) rfl;rw[p]at g;cases g
  refine U1 1 [2] U<|G.nilArr 32 1<|Vo (VM U U ?_);exact⟨none,0,0,U,by rw[s];rfl⟩
 refine Vd fun R d=>Wa [] U12 fl_ fun B=>Vc U6<|VF (j:=0) U11 b.m_ (by simp[dJ,lG,ae]) (by simp only[au,R5,maxLen];omega) (by simp only[au,R5];omega) fl_ fun h i k=>C6 1 [2] d U<|Vr (L':=[.arr (.slice h i k) 32 1 l.length (l.map dJ).flatten]) ak<|Vo (VM U U ?_);exact⟨h,i,k,U,U⟩
theorem Ix (C:Mem)(v:Value)(l:List Rat)(b:Sl C 1 v (l.map dJ))(t:l.length<=1000000):Jog.Fn cx.P 48 [v] C [] fun u _w e=>∃ A n c,u=.slice A n c/\e=[.arr (.slice A n c) 32 1 l.length (l.map dJ).flatten]:=by
 obtain⟨f,c0,rfl,m,x,y,o⟩:=id b;have z:=mx_
 simp only[au]at b m⊢;refine Vi func48 8 U3 fun w0=>U1 1 [0] U<|Va 1 U fun R d=>Wu U9<|Vf [0,4] d U<|G.cd (fun h4=>?_) fun h4=>?_
 ·have p:f=none:=by
   cases f with
  |none=>rfl
  |some a=>cases h4
  have s:l=[]:=by
   cases l with
  |nil=>rfl
  |cons q r =>
    obtain⟨a,g,_⟩:=o 0 (dJ q) rfl;rw[p]at g;cases g
  refine U1 1 [2] U<|G.nilArr 32 1<|Vo (VM U U ?_);exact⟨none,0,0,U,by rw[s];rfl⟩
 refine Vd fun R d=>Wa [] U12 fl_ fun B=>Vc U6<|VF (j:=0) U11 b.m_ (by simp[dJ,lG,ae]) (by simp only[au,R5,maxLen];omega) (by simp only[au,R5];omega) fl_ fun h i k=>C6 1 [2] d U<|Vr (L':=[.arr (.slice h i k) 32 1 l.length (l.map dJ).flatten]) ak<|Vo (VM U U ?_);exact⟨h,i,k,U,U⟩
def Pa (r:RowQ):Prop:=(∀ q∈r.f,QB 22 q)/\QB 22 r.b
theorem hU {a:List RowQ}{w:Value}{r:RowQ}(c:vs[i]?=some w)(d:a[i]?=some r):(aC vs a)[i]?=some [w,ae (qtx r.b)]:=by
 unfold aC;rw[List.getElem?_zipWith,c,d]
theorem E0 (C:Mem)(hT:Tabs C)(v:Value)(a:List RowQ)(hv:RowsIn C v a)(e:∀ r∈a,Pa r)(ac:∀ r∈a,r.f.length<=1000)(an:a.length<=100000) :
  Gives cx.P 249 [v] C (.tuple #[v,i_ 0]):=by
 obtain⟨vs,z,A⟩:=hv;obtain⟨l,c0,rfl,ad,ao,_⟩:=id A;have ap:=mx_
 simp only[bE z.1]at A ad⊢;refine Vi func249 32 U3 fun w0=>U1 2 [0] U<|U1 3 [0,8,9,10] U<|G.loop (fun fr B n o=>∃ (i:Nat),(i<=a.length)/\fr=[(0,[],.slice l a.length c0),(8,[],.slice l a.length c0),(9,[],i_ a.length),(10,[],i_ i)]/\n=[]/\o=a.length-i) (hn_ [0,8,9,10] U) ⟨0,Rv _,U,U,U⟩ (fun fr aq ar m _ p=>?_);obtain⟨i,hi,rfl,rfl,rfl⟩:=p;refine U1 1 [0,8,9,10,11] U<|G.cd (fun I=>?_) fun I=>?_
 ·have J:i<a.length:=by simpa using I
  obtain⟨r,E⟩:∃ r,a[i]?=some r:=⟨a[i],ai J⟩;obtain⟨w,K⟩:∃ w,vs[i]?=some w:=⟨vs[i]'(by rw[z.1];exact J),ai _⟩;have L:=aU E;obtain⟨af,ag⟩:=e r L;have av:=ac r L;have aw:(r.f++[r.b]).length<=1001:=by simp;omega
  have x:=z.2 i w r K E;obtain⟨Aw,cw,rfl,_⟩:=id x;refine Vd fun R c=>Vq A.m_ U10 om_ (hU K E) fl_ fun ay ah=>Vb ah U8<|Vt U5 fun b5=>Vk (j:=0) U12<|Vf [0,5,8,9,10] c U<|G.freeze 0 U fun _ _ F=>G.cut (fun fr B n o=>∃ (g:Option Addr)(k:Nat),(Sl B 1 (.slice g (r.f++[r.b]).length k) ((r.f++[r.b]).map dJ))/\fr=[(0,[],.slice l a.length c0),(8,[],.slice l a.length c0),(9,[],i_ a.length),(10,[],i_ i),(20,[],.slice g (r.f++[r.b]).length k),(21,[],i_ (r.f++[r.b]).length),(22,[],i_ 0)]/\n=[]) ?_ (fun fr az aA o aB p=>?_)
  ·refine VY (.cut [0,1,3,8] (.alt 2 (.fin [4,5,6,7]) (.alt 4 (.cut [] (.alt 2 (.fin [5,6,7]) (.alt 5 (.fin [2,6,7]) .stop))) .stop))) [(2,3)] U U kr_ fun R hB c M=>Vc U6<|Vb (bkT F 1) U8<|Ve 2 U<|VL M U ⟨?_, ?_,trivial⟩
   ·refine D.call (rC _ _ r.f x.m_ om_) U (.inr dc_) U6 (Rw _) fl_ fun N O Q _ s=>Vb (bkT F 1) U8<|Vy [dJ r.b] U12 (fun S T _ t=>?_);obtain⟨V,W,cc,rfl,rfl⟩:=s;refine VF (j:=0) U11 t.m_ (by simp[dJ,lG,ae]) ax (by simp only[Rp];omega) fl_ fun g X k=>C6 1 [0,8,9,10,20,21,22] c U<|G.freezeArr 0 ((r.f++[r.b]).map dJ) rfl ak (by intro r e;obtain⟨y,_,rfl⟩:=Rs.1 e;rfl) ak (fun Y Z d=>?_);obtain⟨Az,cz,u,_⟩:=id d;cases u
    simp only[au]at d⊢;exact G.dropAll<|Vp 0 mup (hn_ [0,8,9,10,20,21,22] U) ⟨_,_,d,U,U⟩
   refine Vb (bkT F 1) U8<|VL M U ⟨?_, ?_,trivial⟩
   ·refine D.call (rC _ _ r.f x.m_ om_) U (.inr dc_) U6 (Rw _) fl_ fun N O Q _ s=>Vy [dJ r.b] U12 (fun S T _ t=>?_);obtain⟨V,W,cc,rfl,rfl⟩:=s;refine VF (j:=0) U11 t.m_ (by simp[dJ,lG,ae]) ax (by simp only[Rp];omega) fl_ fun g X k=>C6 1 [0,8,9,10,20,21,22] c U<|G.freezeArr 0 ((r.f++[r.b]).map dJ) rfl ak (by intro r e;obtain⟨y,_,rfl⟩:=Rs.1 e;rfl) ak (fun Y Z d=>?_);obtain⟨Az,cz,u,_⟩:=id d;cases u
    simp only[au]at d⊢;exact G.dropAll<|Vp 0 mup (hn_ [0,8,9,10,20,21,22] U) ⟨_,_,d,U,U⟩
   refine Vy [dJ r.b] U12 fun S T _ t=>D.call (rC _ _ r.f x.m_ om_) U (.inr dc_) U6 (Rw _) fl_ (fun N O Q _ s=>?_);obtain⟨V,W,cc,rfl,rfl⟩:=s;refine VF (j:=0) U11 t.m_ (by simp[dJ,lG,ae]) ax (by simp only[Rp];omega) fl_ fun g X k=>C6 1 [0,8,9,10,20,21,22] c U<|G.freezeArr 0 ((r.f++[r.b]).map dJ) rfl ak (by intro r e;obtain⟨y,_,rfl⟩:=Rs.1 e;rfl) ak (fun Y Z d=>?_);obtain⟨Az,cz,u,_⟩:=id d;cases u
   simp only[au]at d⊢;exact G.dropAll<|Vp 0 mup (hn_ [0,8,9,10,20,21,22] U) ⟨_,_,d,U,U⟩
  obtain⟨g,k,aj,rfl,rfl⟩:=p;refine G.loop (fun fr B n o=>∃ (j:Nat),(j<=(r.f++[r.b]).length)/\fr=[(0,[],.slice l a.length c0),(8,[],.slice l a.length c0),(9,[],i_ a.length),(10,[],i_ i),(20,[],.slice g (r.f++[r.b]).length k),(21,[],i_ (r.f++[r.b]).length),(22,[],i_ j)]/\n=[]/\o=(r.f++[r.b]).length-j) (hn_ [0,8,9,10,20,21,22] U) ⟨0,Rv _,U,U,U⟩ (fun fr aC aD m _ p=>?_);obtain⟨j,hj,rfl,rfl,rfl⟩:=p;refine U1 1 [0,8,9,10,20,21,22,23] U<|G.cd (fun aa=>?_) fun aa=>?_
  ·have al:j<(r.f++[r.b]).length:=by
    have:=QL aa;omega
   obtain⟨q,hq⟩:∃ q,(r.f++[r.b])[j]?=some q:=⟨(r.f++[r.b])[j],ai al⟩;have ab:QB 22 q:=by
    rcases RF.1 (aU hq) with h|h
    ·exact af q h
    rw[RK.1 h];exact ag
   refine Vd fun R c=>Vq aj.m_ U10 om_ (cq hq) fl_ fun aE am=>Vb am U8<|C6 1 [0,7,8,9,10,20,21,22] c U<|Va 1 U fun R c=>Vl (dE _ hT.m_ _ (uA ab)) U7<|C6 1 [0,8,9,10,20,21,22,28] c U<|G.cd (fun H=>?_) fun H=>?_
   ·exfalso;rw[yK ab]at H;exact absurd H dc_
   refine Vd fun R c=>Vh _ U U6<|C6 1 [0,8,9,10,20,21,22] c U<|Vn (m':=(r.f++[r.b]).length-(j+1)) om_ mup (hn_ [0,8,9,10,20,21,22] U) ⟨j+1,om_,U,U,U⟩
  refine Vd fun R c=>Vh _ U U6<|C6 1 [0,8,9,10] c U<|Vn (m':=a.length-(i+1)) om_ mup (hn_ [0,8,9,10] U) ⟨i+1,om_,U,U,U⟩
 refine U1 3 [2,3] U<|Vo (G.dropAll (VA U3 ?_));exact⟨U,U⟩
def gZ (s p k:Nat)(fm:List (Nat × Rat))(b sg:Rat):RowQ:=⟨JW s p k fm sg,sg*b⟩
theorem jC (C:Mem)(O:Tabs C)(s p d b g v:Nat)(c:List (Nat × Rat))(e:Rat)(a:List Rat)(I w:Value)(n:List Value)(f:List RowQ)(al:s*p<=60)(Q:d<s)(S:C v=some (.cells ⟨[i_ (s:Nat),i_ (p:Nat)]⟩ 196 (0,0)))(T:C b=some (aY keyZ.enc (eO c)))(V:(c.map (·.1)).Nodup)(W:∀ x∈c,x.1<p)(X:∀ x∈c,QB 23 x.2)(Y:QB 23 e)
  (y:Sl C 1 I (a.map dJ)) (Z:∀ q∈a,QB 1 q) (am:a.length<=2) (aa:RowsOk C n f) (an:f.length<=10000) :
  Jog.Fn cx.P 245 [i_ d,.map (some b),ae (qtx e),I,p_ g,p_ v] C [.obj g (.cells ⟨[w]⟩ 47 (0,0)),.arr w 140 2 f.length (aC n f).flatten]
   fun u z k=>∃ J w',u=.tuple #[]/\k=[.obj g (.cells ⟨[w']⟩ 47 (0,0)),.arr w' 140 2 (f++a.map (gZ s p d c e)).length (aC J (f++a.map (gZ s p d c e))).flatten]/\RowsOk z J (f++a.map (gZ s p d c e)):=by
 obtain⟨A0,c0,rfl,ab,ao,_⟩:=id y;have ap:=mx_
 simp only[au]at y ab⊢;refine Vi func245 28 U3 fun w0=>U1 3 [0,1,2,4,5,12,13,14] U<|Vr (L':=[.obj g (.cells ⟨[w]⟩ 47 (0,0)),.arr w 140 2 (f++(a.take 0).map (gZ s p d c e)).length (aC n (f++(a.take 0).map (gZ s p d c e))).flatten]) ak<|G.loop (fun fr z k μ=>∃ (i:Nat)(h:List Value)(o:Value),(i<=a.length/\RowsOk z h (f++(a.take i).map (gZ s p d c e)))/\fr=[(0,[],i_ d),(1,[],.map (some b)),(2,[],ae (qtx e)),(4,[],p_ g),(5,[],p_ v),(12,[],.slice A0 a.length c0),(13,[],i_ a.length),(14,[],i_ i)]/\k=[.obj g (.cells ⟨[o]⟩ 47 (0,0)),.arr o 140 2 (f++(a.take i).map (gZ s p d c e)).length (aC h (f++(a.take i).map (gZ s p d c e))).flatten]/\μ=a.length-i) (hn_ [0,1,2,4,5,12,13,14] U) ⟨0,n,w,⟨Rv _,by simpa using aa⟩,U,U,U⟩ (fun fr aq ar m _ hI=>?_);obtain⟨i,h,o,⟨hi,t⟩,rfl,rfl,rfl⟩:=hI;refine U1 1 [0,1,2,4,5,12,13,14,15] U<|G.cd (fun A=>?_) fun A=>?_
 ·have B:i<a.length:=by simpa using A
  obtain⟨sg,D⟩:∃ sg,a[i]?=some sg:=⟨a[i],ai B⟩;have ac:=Z sg (aU D);have av:(f++(a.take i).map (gZ s p d c e)).length<=10002:=by
   rw[Ru,au,RE];omega
  have K:f++(a.take (i+1)).map (gZ s p d c e)=f++(a.take i).map (gZ s p d c e)++[gZ s p d c e sg]:=by
   rw[RR,D];simp
  refine Vd fun R l=>Vq y.m_ U10 om_ (cq D) fl_ fun aw ad=>Vb ad U8<|C6 1 [0,1,2,4,5,11,12,13,14] l U<|Vv [0,1,2,3,4,5,6,7,8,9] [] U kr_ fun R hB l=>Vj ag U9<|Vb (bkT S 2) U8<|Ve 4 U<|VC (PO _ O.m_ s p d b c sg e 23 dc_ dc_ om_ Q (Mem.get T mup) V W X (ac.le dc_) Y) U7 fl_ (fun ay _ _ af=>?_);obtain⟨fv,rfl,E⟩:=af;obtain⟨F,H,rfl,_⟩:=id E;simp only[au]at E⊢;refine Vy [[.slice F (JW s p d c sg).length H,ae (qtx (sg*e))]] U12 fun az _ _ ah=>VF (j:=1) U11 ah.m_ U ax (by simp only[Rp];omega) fl_ fun L M N=>Vk (j:=1) U12<|Vf [0,1,2,4,5,12,13,14] l U<|Vd fun R l=>Vh _ U U6<|C6 1 [0,1,2,4,5,12,13,14] l U ?_;have aj:=RowsOk.snoc (r:=gZ s p d c e sg) t.m_ E;refine Vr (L':=[.obj g (.cells ⟨[.slice L M N]⟩ 47 (0,0)),.arr (.slice L M N) 140 2 (f++(a.take (i+1)).map (gZ s p d c e)).length (aC (h++[.slice F (JW s p d c sg).length H]) (f++(a.take (i+1)).map (gZ s p d c e))).flatten]) (by rw[K,eJ t.1];simp[gZ,aE];omega)<|Vn (m':=a.length-(i+1)) om_ mup (hn_ [0,1,2,4,5,12,13,14] U) ⟨i+1,h++[.slice F (JW s p d c sg).length H],_,⟨by omega,by rw[K];exact aj.mono mup⟩,U,U,U⟩
 have B:i=a.length:=by
  have:¬ i<a.length:=by simpa using A
  omega
 rw[B,Rz]at t⊢;exact Wf U<|⟨h,o,U,U,t.mono mup⟩
noncomputable def rm (o:Obs):Rat:=-dm o.nx / dm o.nz
noncomputable def jo (o:Obs):Rat:=-dm o.ny / dm o.nz
def upN (B:Bk)(o:Obs):Nat:=(jt (isU o.upper) B.col 0).toNat
noncomputable def rowsO (B:Bk)(o:Obs)(p:Pt)(t:Tri)(z:Rat):List RowQ :=
 if o.kind=1 then (if 0<upN B o then [gZ (bs B) (bp B) (upN B o-1) (atT t (wgt B.pts t p)) (lH o z) 1] else [])++(if upN B o<bs B then [gZ (bs B) (bp B) (upN B o) (atT t (wgt B.pts t p)) (lH o z) (-1)] else [])
 else if o.kind=2 then (cG B.col o).flatMap fun k=>[1, -1].map (gZ (bs B) (bp B) k (atT t (wgt B.pts t p)) (lH o z))
 else (cG B.col o).flatMap fun k=>[1, -1].map (gZ (bs B) (bp B) k (atT t fun j=>(slf B.pts t j).1) (rm o))++[1, -1].map (gZ (bs B) (bp B) k (atT t fun j=>(slf B.pts t j).2) (jo o))
structure Fine (B:Bk)(fs:List Rat)(o:Obs)(p:Pt)(ti:Nat)(t:Tri)(z:Rat):Prop where
 place:ObsAt o p
 loc:∃ r,kC B.pts B.tris p=ti::r
 tri:B.tris[ti]?=some t
 val:zi B.pts B.tris fs p=.tuple #[ae (qtx z),.int .i64 0]
 qz:QB 22 z
 qh:QB 22 (lH o z)
 w:∀ j,QB 22 (wgt B.pts t p j)
 up:0<=jt (isU o.upper) B.col 0
 sl:∀ j,QP 22 (slf B.pts t j)
 nr:o.kind≠1->o.kind≠2->(aR o.nx=true/\aR o.ny=true/\aR o.nz=true)/\QB 11 (dm o.nx)/\QB 11 (dm o.ny)/\QB 11 (dm o.nz)/\dm o.nz≠0
 rows:∀ r∈rowsO B o p t z,Pa r
theorem PD (h:Sl C 1 v [[ae [49]]]):Sl C 1 v (([1]:List Rat).map dJ):=by rw[<- dF]at h;exact h
theorem PE (h:Sl C 1 v [[ae [45,49]]]):Sl C 1 v (([-1]:List Rat).map dJ):=by rw[<- cX]at h;exact h
theorem F7 (h:Sl C 1 v [[ae [49]],[ae [45,49]]]):Sl C 1 v (([1, -1]:List Rat).map dJ):=by rw[<- cX,<- dF]at h;exact h
theorem Pw:∀ q∈([1]:List Rat),QB 1 q:=by simp;exact QB_one
theorem Px:∀ q∈([-1]:List Rat),QB 1 q:=by simp;exact nG
theorem sz:∀ q∈([1, -1]:List Rat),QB 1 q:=by
 intro q a;simp only[RC,Ss,TS]at a;rcases a with rfl|rfl
 ·exact QB_one
 exact nG
theorem gz {f:Nat->Rat}{P:Nat × Rat->Prop}(b:P (t.1,f 0))(c:P (t.2.1,f 1))(d:P (t.2.2,f 2)):∀ x∈atT t f,P x:=by
 intro x a;simp only[atT,RC,Ss,TS]at a;rcases a with rfl|rfl|rfl <;> assumption
theorem Jw {a b:Int}(h:k∈wJ a b n):k<n:=by
 unfold wJ at h;rw[SY,RL]at h;exact h.1
theorem jx {a b:Type}(f:a->List b){l:List a}{j:Nat}{x:a}(h:l[j]?=some x):(l.take (j+1)).flatMap f=(l.take j).flatMap f++f x:=by
 rw[RR,h,List.flatMap_append];simp
theorem fV {a b:Type}{f:a->List b}{c:Nat}(h:∀ x,(f x).length=c):∀ l:List a,(l.flatMap f).length=c*l.length
|[]=>by simp
|x::l=>by rw[List.flatMap_cons,Ru,h,fV h l,RH,Nat.mul_succ,TB]
theorem Ca :∀ r∈rowsO B o p t z,r.f.length=bs B*bp B:=by
 have a:∀ k d b sg,(gZ (bs B) (bp B) k d b sg).f.length=bs B*bp B:=fun k d b sg=>jT _ _;intro r hr;unfold rowsO at hr;split at hr
 ·rcases RF.1 hr with h|h
  ·split at h
   ·rw[RK.1 h];exact a _ _ _ _
   cases h
  split at h
  ·rw[RK.1 h];exact a _ _ _ _
  cases h
 split at hr
 ·obtain⟨k,_,c⟩:=List.mem_flatMap.1 hr;obtain⟨sg,_,rfl⟩:=Rs.1 c;exact a _ _ _ _
 obtain⟨k,_,c⟩:=List.mem_flatMap.1 hr;rcases RF.1 c with h|h
 ·obtain⟨sg,_,rfl⟩:=Rs.1 h;exact a _ _ _ _
 obtain⟨sg,_,rfl⟩:=Rs.1 h;exact a _ _ _ _
theorem xe (h:(cG B.col o).length<=60):(rowsO B o p t z).length<=240:=by
 unfold rowsO;split
 ·rw[Ru];have h1:∀ (c:Prop)[Decidable c] (r:RowQ),(if c then [r] else []).length<=1:=fun c _ r=>by split <;> simp
  have:=h1 (0<upN B o) (gZ (bs B) (bp B) (upN B o-1) (atT t (wgt B.pts t p)) (lH o z) 1);have:=h1 (upN B o<bs B) (gZ (bs B) (bp B) (upN B o) (atT t (wgt B.pts t p)) (lH o z) (-1));omega
 split
 ·rw[fV (c:=2) (fun k=>by simp)];omega
 rw[fV (c:=4) (fun k=>by simp)];omega
theorem Nr (C:Mem)(d:Tabs C)(bv:Value)(B:Bk)(fs:List Rat)(i:Nat)(o:Obs)(p:Pt)(ti:Nat)(t:Tri)(z:Rat)(M:BookIn C bv B)(S:Good B.pts B.tris)(am:BookR B)(aN:iK B=0)(hF:Terr B fs)(W:B.obs[i]?=some o)(b:Fine B fs o p ti t z)(T:bs B*bp B<=60)(a5:sf B.col=0)(bV:bs B+1=B.col.length)(bW:B.col.length<=60) :
  Pur cx.P 183 [gk (bs B) (bp B),bv,i_ i] C fun u D=>∃ v,u=.tuple #[v,i_ 0]/\RowsIn D v (rowsO B o p t z):=by
 have an:=M;have hM:=S.ok;obtain⟨r,a6⟩:=b.loc;have aO:=aU b.tri;have l:=hM.ins t aO;have ao:=uj hM aO;have bX:=(aJ.1 W).1;have X:=b.place;obtain⟨u,Y⟩:∃ u:Nat,jt (isU o.upper) B.col 0=(u:Nat):=⟨_,(Int.toNat_of_nonneg b.up).symm⟩;have a7:upN B o=u:=by unfold upN;rw[Y];rfl
 have bY:u<B.col.length:=by
  rcases nK (isU o.upper) B.col with⟨h,_⟩|⟨k,x,h,h2,_⟩
  ·rw[Y]at h;omega
  have:=(aJ.1 h2).1;rw[Y]at h;omega
 have ap:=rI (wgt B.pts t p) ao;have aq:∀ x∈atT t (wgt B.pts t p),x.1<bp B:=gz (P:=fun x=>x.1<bp B) l.1 l.2.1 l.2.2;have ar:∀ x∈atT t (wgt B.pts t p),QB 23 x.2:=gz (P:=fun x=>QB 23 x.2) ((b.w 0).le dc_) ((b.w 1).le dc_) ((b.w 2).le dc_);have av:QB 23 (lH o z):=b.qh.le dc_;have a8:(cG B.col o).length<=bs B:=by
  unfold cG wJ;refine RD (S9 _ _) ?_;rw[SI];unfold bs;omega
 have aP:∀ k∈cG B.col o,k<bs B:=fun k hk=>Jw hk;obtain⟨v1,v2,tv,cv,ov,rfl,h1,h2,h3,h4,h5⟩:=id M.ex;have aQ:MeshIn C (.agg ⟨[v1,v2]⟩) B.pts B.tris:=⟨v1,v2,rfl,h1,h2⟩;obtain⟨A5,c5,rfl,a9,bZ,_⟩:=id h5;have b0:=mx_
 simp only[au]at h5 a9 an⊢;refine Vi func183 172 U3 fun w0=>?_;refine Vd fun R a=>?_;refine Vs U6 (fun n=>?_);refine Vs U6 (fun b4=>?_);refine C6 2 [2,3,4] a U ?_;clear a R;refine G.freeze 1 U (fun _ _ N=>?_);refine G.freeze 0 U (fun _ _ O=>?_);refine Va 1 U fun R a=>?_;refine Vb (bkT O 1) U8 ?_;refine Vc U6 ?_;refine Vq h5.m_ U10 om_ (cq W) fl_ (fun b1 ba=>?_);refine Vb ba U8 ?_;refine Vt U5 (fun b8=>?_);refine Vk (j:=0) U12 ?_;refine Vf [2,3,4,8] a U ?_;clear a R;refine G.freeze 0 U (fun C8 _ E=>?_);refine Va 1 U fun R a=>?_;refine Vb (bkT O 2) U8 ?_;refine Vc U6 ?_;refine Vb (bkT E 2) U8 ?_;refine VC (by have h:=EX C8 d.m_ _ B.pts B.tris p ti r t aQ.m_ S X.q X.r a6 b.tri b.w;rw[<- xM X]at h;exact h) U7 fl_ (fun b2 _ _ bb=>?_);obtain⟨V,rfl,aw⟩:=bb;refine C6 7 [2,3,4,8,9,10,11] a U ?_;clear a R;refine U1 2 [2,3,4,8,9,10,11,45] U ?_;refine G.cd (fun aR=>?_) fun aR=>?_
 ·exact absurd aR dc_
 refine Vd fun R a=>?_;refine Vb (bkT O 5) U8 ?_;refine Vc U6 ?_;refine Vl (EF _ d.m_ _ B fs i o p z an.m_ S am aN hF W X b.val b.qz b.qh) U7 ?_;refine C6 5 [2,3,4,8,9,10,11,12] a U ?_;clear a R;refine U1 2 [2,3,4,8,9,10,11,12,54] U ?_;refine G.cd (fun aS=>?_) fun aS=>?_
 ·exact absurd aS dc_
 refine Vd fun R a=>?_;refine Vb (bkT O 5) U8 ?_;refine Vc U6 ?_;refine VJ (wG _ d.m_ _ B i o an.m_ S am aN W) U7 (fun b5 _ _ bc=>?_);obtain⟨lv,rfl,ax⟩:=bc;obtain⟨Al,cl,aT,_⟩:=id ax;rw[au]at aT;subst aT;refine C6 5 [3,4,8,9,10,11,12,13] a U ?_;clear a R;refine U1 2 [3,4,8,9,10,11,12,13,63] U ?_;refine G.cd (fun aV=>?_) fun aV=>?_
 ·exact absurd aV dc_
 refine Vd fun R a=>?_;refine Vt U5 (fun c=>?_);refine Vf [3,4,8,9,10,12,13,14] a U ?_;clear a R;refine G.nilArr 140 2 (G.perm (L':=[.obj c (.cells ⟨[.slice none 0 0]⟩ 47 (0,0)),.arr (.slice none 0 0) 140 2 0 []]) (List.Perm.swap _ _ _) ?_);refine U1 2 [3,4,8,9,10,12,13,14,15] U ?_;refine Va 1 U fun R a=>?_;refine Vb (bkT E 1) U8 ?_;refine Vf [3,4,8,9,10,12,13,14,15,67] a U ?_;clear a R;refine U1 2 [3,4,8,9,10,12,13,14,15,67,120] U ?_;refine G.cut (fun fr F y H=>∃ (vs:List Value)(w:Value),(RowsOk F vs (rowsO B o p t z))/\fr=[(14,[],p_ c)]/\y=[.obj c (.cells ⟨[w]⟩ 47 (0,0)),.arr w 140 2 (rowsO B o p t z).length (aC vs (rowsO B o p t z)).flatten]) ?_ (fun fr _ b6 H _ I=>?_)
 ·refine G.cd (fun Z=>?_) fun Z=>?_
  ·have hk:o.kind=1:=dU Z;obtain⟨s,Q⟩:∃ s,(if 0<u then [gZ (bs B) (bp B) (u-1) (atT t (wgt B.pts t p)) (lH o z) 1] else [])=s:=⟨_,rfl⟩;have A:rowsO B o p t z=s++(if u<bs B then [gZ (bs B) (bp B) u (atT t (wgt B.pts t p)) (lH o z) (-1)] else []):=by unfold rowsO;rw[aM hk,a7,Q]
   refine Va 1 U fun R a=>?_;refine Vb (bkT O 1) U8 ?_;refine Vc U6 ?_;refine Vb (bkT E 1) U8 ?_;refine Vl (AP _ d.m_ _ B.col o.upper h4.m_ am.col a5 u Y) U7 ?_;refine C6 7 [3,9,12,14,15,16,18] a U ?_;clear a R;refine U1 2 [3,9,12,14,15,16,18,132] U ?_;refine G.cd (fun aW=>?_) fun aW=>?_
   ·exact absurd aW dc_
   refine U1 2 [3,9,12,14,15,16,135] U ?_;refine G.cut (fun fr F y H=>∃ (vs:List Value)(w:Value),(RowsOk F vs s)/\fr=[(3,[],p_ n),(9,[],.map (some V)),(12,[],ae (qtx (lH o z))),(14,[],p_ c),(15,[],.func (.func 245) #[] #[p_ c,p_ n]),(16,[],i_ u)]/\y=[.obj c (.cells ⟨[w]⟩ 47 (0,0)),.arr w 140 2 s.length (aC vs s).flatten]) ?_ (fun fr _ b7 H _ I=>?_)
   ·refine G.cd (fun ay=>?_) fun ay=>?_
    ·have az:0<u:=by
      have:=QL ay;omega
     rw[aM az]at Q;subst Q;refine VB [(6,3)] U (fun R a=>?_);refine Ve 2 U ?_;refine VI (((u-1:Nat):Int)) U4 om_ om_ om_ U2 ?_;refine Ve 2 U ?_;refine Vy [[ae [49]]] U12 (fun b9 _ _ bf=>?_);refine D.call (jC _ d.m_ (bs B) (bp B) (u-1) V c n (atT t (wgt B.pts t p)) (lH o z) [1] _ (.slice none 0 0) [] [] T om_ (Mem.get N mup) (Mem.get aw mup) ap aq ar av ((PD bf).mono mup) Pw dc_ (RowsOk.nil _) dc_) U (.inr dc_) U6 (Rw _) fl_ (fun ca _ cb _ bg=>?_);refine Vf [3,9,12,14,15,16] a U ?_;clear a R;obtain⟨bh,w1,rfl,rfl,bi⟩:=bg;refine Vp 0 mup (hn_ [3,9,12,14,15,16] U) ⟨bh,w1,bi,U,U⟩
    have az:¬ 0<u:=by
     have:=Rt ay;omega
    rw[aF az]at Q;subst Q;refine Vp 0 l_ (hn_ [3,9,12,14,15,16] U) ⟨[],.slice none 0 0,RowsOk.nil _,U,U⟩
   obtain⟨vs ,w,aA,rfl,rfl⟩:=I;refine Va 2 U fun R a=>?_;refine Vb (bkT N 1) U8 ?_;refine C6 1 [9,12,14,15,16,146] a U ?_;clear a R;refine G.cd (fun aB=>?_) fun aB=>?_
   ·have aa:u<bs B:=by
     have:=QL aB;omega
    rw[aM aa]at A;have cc:s.length<=1:=by rw[<- Q];split <;> simp
    refine VB [(5,3)] U (fun R a=>?_);refine Ve 4 U ?_;refine Vy [[ae [45,49]]] U12 (fun ce _ _ bj=>?_);refine D.call (jC _ d.m_ (bs B) (bp B) u V c n (atT t (wgt B.pts t p)) (lH o z) [-1] _ w vs s T aa (Mem.get N mup) (Mem.get aw mup) ap aq ar av ((PE bj).mono mup) Px dc_ aA.m_ om_) U (.inr dc_) U6 (Rw _) fl_ (fun cf _ cg _ bk=>?_);refine Vf [14] a U ?_;clear a R;obtain⟨bl,w2,rfl,rfl,aX⟩:=bk;rw[show s++([-1]:List Rat).map (gZ (bs B) (bp B) u (atT t (wgt B.pts t p)) (lH o z))=rowsO B o p t z from A.symm]at aX⊢;refine Vp 0 mup (hn_ [14] U) ⟨bl,w2,aX,U,U⟩
   have aa:¬ u<bs B:=by
    have:=Rt aB;omega
   rw[aF aa,RQ]at A;rw[<- A]at aA⊢;refine Vp 0 mup (hn_ [14] U) ⟨vs,w,aA.mono mup,U,U⟩
  have aD:¬ o.kind=1:=by
   intro e;rw[show((o.kind == 1)=true) by rw[e];rfl]at Z;cases Z
  refine U1 2 [4,8,9,10,12,13,14,15,153] U ?_;refine G.cd (fun ab=>?_) fun ab=>?_
  ·have ac:o.kind=2:=dU ab;obtain⟨f,aE⟩:∃ f,(fun k=>([1, -1]:List Rat).map (gZ (bs B) (bp B) k (atT t (wgt B.pts t p)) (lH o z)))=f:=⟨_,rfl⟩;have A:rowsO B o p t z=(cG B.col o).flatMap f:=by unfold rowsO;rw[aF aD,aM ac,<- aE]
   have bm:∀ k,(f k).length=2:=fun k=>by rw[<- aE];rfl
   refine U1 3 [9,12,14,15,155,156,157] U ?_;refine G.loop (fun fr F y H=>∃ (j:Nat)(vs:List Value)(w:Value),(j<=(cG B.col o).length/\RowsOk F vs (((cG B.col o).take j).flatMap f))/\fr=[(9,[],.map (some V)),(12,[],ae (qtx (lH o z))),(14,[],p_ c),(15,[],.func (.func 245) #[] #[p_ c,p_ n]),(155,[],.slice Al (cG B.col o).length cl),(156,[],i_ (cG B.col o).length),(157,[],i_ j)]/\y=[.obj c (.cells ⟨[w]⟩ 47 (0,0)),.arr w 140 2 (((cG B.col o).take j).flatMap f).length (aC vs (((cG B.col o).take j).flatMap f)).flatten]/\H=(cG B.col o).length-j) (hn_ [9,12,14,15,155,156,157] U) ⟨0,[],.slice none 0 0,⟨Rv _,RowsOk.nil _⟩,U,U,U⟩ (fun fr ch ci m _ I=>?_);obtain⟨j,vs,w,⟨hj,J⟩,rfl,rfl,rfl⟩:=I;refine U1 1 [9,12,14,15,155,156,157,158] U ?_;refine G.cd (fun aG=>?_) fun aG=>?_
   ·have K:j<(cG B.col o).length:=by
     have:=QL aG;omega
    obtain⟨k,L⟩:∃ k,(cG B.col o)[j]?=some k:=⟨(cG B.col o)[j],ai K⟩;have ad:=aP k (aU L);have af:=fV bm ((cG B.col o).take j);rw[RE]at af;have aH:=jx f L;refine Vd fun R a=>?_;refine Vq ax.m_ U10 om_ (cq L) fl_ (fun cj bo=>?_);refine Vb bo U8 ?_;refine C6 1 [9,12,14,15,20,155,156,157] a U ?_;clear a R;refine VB [(5,3)] U (fun R a=>?_);refine Ve 4 U ?_;refine Vy [[ae [49]],[ae [45,49]]] U12 (fun ck _ _ bq=>?_);refine D.call (jC _ d.m_ (bs B) (bp B) k V c n (atT t (wgt B.pts t p)) (lH o z) [1, -1] _ w vs _ T ad (Mem.get N mup) (Mem.get aw mup) ap aq ar av ((F7 bq).mono mup) sz dc_ J.m_ om_) U (.inr dc_) U6 (Rw _) fl_ (fun cm _ cn _ br=>?_);refine Vf [9,12,14,15,155,156,157] a U ?_;clear a R;refine Vd fun R a=>?_;refine Vh _ U U6 ?_;refine C6 1 [9,12,14,15,155,156,157] a U ?_;clear a R;obtain⟨aI,w3,rfl,rfl,ah⟩:=br;rw[show((cG B.col o).take j).flatMap f++([1, -1]:List Rat).map (gZ (bs B) (bp B) k (atT t (wgt B.pts t p)) (lH o z))=((cG B.col o).take (j+1)).flatMap f by rw[aH,<- aE]]at ah⊢;refine Vn (m':=(cG B.col o).length-(j+1)) om_ mup (hn_ [9,12,14,15,155,156,157] U) ⟨j+1,aI,w3,⟨by omega,ah⟩,U,U,U⟩
   have K:j=(cG B.col o).length:=by
    have:=Rt aG;omega
   rw[K,Rz,<- A]at J⊢;refine Vp 0 mup (hn_ [14] U) ⟨vs,w,J.mono mup,U,U⟩
  have ac:¬ o.kind=2:=by
   intro e;rw[show((o.kind == 2)=true) by rw[e];rfl]at ab;cases ab
  obtain⟨⟨bt,bu,bx⟩,aY,aZ,aj,ak⟩:=b.nr aD ac;obtain⟨e1,q1⟩:=dy bt;obtain⟨e2,q2⟩:=dy bu;obtain⟨e3,q3⟩:=dy bx;have a0:(qtx (dm o.nx)).length<=1000000:=RD (bd q1 dc_) dc_;have bz:(qtx (dm o.ny)).length<=1000000:=RD (bd q2 dc_) dc_;have bA:QB 23 (rm o):=(jE (eQ aY) aj ak).le dc_;have bB:QB 23 (jo o):=(jE (eQ aZ) aj ak).le dc_;obtain⟨g,aK⟩:∃ g,(fun k=>([1, -1]:List Rat).map (gZ (bs B) (bp B) k (atT t fun j=>(slf B.pts t j).1) (rm o))++([1, -1]:List Rat).map (gZ (bs B) (bp B) k (atT t fun j=>(slf B.pts t j).2) (jo o)))=g:=⟨_,rfl⟩;have A:rowsO B o p t z=(cG B.col o).flatMap g:=by unfold rowsO;rw[aF aD,aF ac,<- aK]
  have bC:∀ k,(g k).length=4:=fun k=>by rw[<- aK];rfl
  have bD:=rI (fun j=>(slf B.pts t j).1) ao;have bF:=rI (fun j=>(slf B.pts t j).2) ao;have bG:∀ x∈atT t (fun j=>(slf B.pts t j).1),x.1<bp B:=gz (P:=fun x=>x.1<bp B) l.1 l.2.1 l.2.2;have bH:∀ x∈atT t (fun j=>(slf B.pts t j).2),x.1<bp B:=gz (P:=fun x=>x.1<bp B) l.1 l.2.1 l.2.2;have bI:∀ x∈atT t (fun j=>(slf B.pts t j).1),QB 23 x.2:=gz (P:=fun x=>QB 23 x.2) ((b.sl 0).1.le dc_) ((b.sl 1).1.le dc_) ((b.sl 2).1.le dc_);have bJ:∀ x∈atT t (fun j=>(slf B.pts t j).2),QB 23 x.2:=gz (P:=fun x=>QB 23 x.2) ((b.sl 0).2.le dc_) ((b.sl 1).2.le dc_) ((b.sl 2).2.le dc_);refine Va 1 U fun R a=>?_;refine Vb (bkT O 2) U8 ?_;refine Vc U6 ?_;refine VJ (ET _ d.m_ _ B.pts B.tris ti t aQ.m_ S b.tri b.sl) U7 (fun co al _ bK=>?_);obtain⟨be,bn,rfl,bL,bM⟩:=bK;refine C6 7 [8,13,14,15,21,22,23] a U ?_;clear a R;refine U1 2 [8,13,14,15,21,22,23,77] U ?_;refine G.cd (fun a1=>?_) fun a1=>?_
  ·exact absurd a1 dc_
  refine Vv [0,1,2,3,4,5,6,7,8,9,10,11,12] [(3,1),(7,1)] U kr_ (fun R M a=>?_);refine Ve 2 U ?_;refine Vb (bkT E 1) U8 ?_;refine Vx (fun _=>(by have h:=eK al (dm o.nx) a0;rw[<- e1]at h;exact h)) U9 ?_;refine Ve 2 U ?_;refine Vb (bkT E 1) U8 ?_;refine Vx (fun _=>(by have h:=ia al d.m_ (-dm o.nx) (dm o.nz) 11 dc_ dc_ (eQ aY) aj ak;rw[<- e3]at h;exact h)) U9 ?_;refine Ve 5 U ?_;refine Vf [8,13,14,15,21,22,24] a U ?_;clear a M R;refine Vv [0,1,2,3,4,5,6,7,8,9,10,11,12] [(3,1),(7,1)] U kr_ (fun R M a=>?_);refine Ve 2 U ?_;refine Vb (bkT E 1) U8 ?_;refine Vx (fun _=>(by have h:=eK al (dm o.ny) bz;rw[<- e2]at h;exact h)) U9 ?_;refine Ve 2 U ?_;refine Vb (bkT E 1) U8 ?_;refine Vx (fun _=>(by have h:=ia al d.m_ (-dm o.ny) (dm o.nz) 11 dc_ dc_ (eQ aZ) aj ak;rw[<- e3]at h;exact h)) U9 ?_;refine Ve 5 U ?_;refine Vf [13,14,15,21,22,24,26] a U ?_;clear a M R;refine U1 3 [14,15,21,22,24,26,101,102,103] U ?_;refine G.loop (fun fr F y H=>∃ (j:Nat)(vs:List Value)(w:Value),(j<=(cG B.col o).length/\RowsOk F vs (((cG B.col o).take j).flatMap g))/\fr=[(14,[],p_ c),(15,[],.func (.func 245) #[] #[p_ c,p_ n]),(21,[],.map (some be)),(22,[],.map (some bn)),(24,[],ae (qtx (rm o))),(26,[],ae (qtx (jo o))),(101,[],.slice Al (cG B.col o).length cl),(102,[],i_ (cG B.col o).length),(103,[],i_ j)]/\y=[.obj c (.cells ⟨[w]⟩ 47 (0,0)),.arr w 140 2 (((cG B.col o).take j).flatMap g).length (aC vs (((cG B.col o).take j).flatMap g)).flatten]/\H=(cG B.col o).length-j) (hn_ [14,15,21,22,24,26,101,102,103] U) ⟨0,[],.slice none 0 0,⟨Rv _,RowsOk.nil _⟩,U,U,U⟩ (fun fr cp cr m a0 I=>?_);obtain⟨j,vs,w,⟨hj,J⟩,rfl,rfl,rfl⟩:=I;refine U1 1 [14,15,21,22,24,26,101,102,103,104] U ?_;refine G.cd (fun aL=>?_) fun aL=>?_
  ·have K:j<(cG B.col o).length:=by
    have:=QL aL;omega
   obtain⟨k,L⟩:∃ k,(cG B.col o)[j]?=some k:=⟨(cG B.col o)[j],ai K⟩;have ad:=aP k (aU L);have af:=fV bC ((cG B.col o).take j);rw[RE]at af;have aH:=jx g L;refine Vd fun R a=>?_;refine Vq ax.m_ U10 om_ (cq L) fl_ (fun cs bN=>?_);refine Vb bN U8 ?_;refine C6 1 [14,15,21,22,24,26,29,101,102,103] a U ?_;clear a R;refine VB [(5,3)] U (fun R a=>?_);refine Ve 4 U ?_;refine Vy [[ae [49]],[ae [45,49]]] U12 (fun ct _ _ bO=>?_);refine D.call (jC _ d.m_ (bs B) (bp B) k be c n (atT t fun j=>(slf B.pts t j).1) (rm o) [1, -1] _ w vs _ T ad (Mem.get N mup) (Mem.get bL mup) bD bG bI bA ((F7 bO).mono mup) sz dc_ J.m_ om_) U (.inr dc_) U6 (Rw _) fl_ (fun cu _ cw _ bP=>?_);refine Vf [14,15,21,22,24,26,29,101,102,103] a U ?_;clear a R;obtain⟨aI,w3,rfl,rfl,ah⟩:=bP;refine VB [(5,3)] U (fun R a=>?_);refine Ve 4 U ?_;refine Vy [[ae [49]],[ae [45,49]]] U12 (fun cy _ _ bR=>?_);refine D.call (jC _ d.m_ (bs B) (bp B) k bn c n (atT t fun j=>(slf B.pts t j).2) (jo o) [1, -1] _ w3 aI _ T ad (Mem.get N mup) (Mem.get bM mup) bF bH bJ bB ((F7 bR).mono mup) sz dc_ ah.m_ (by rw[Ru,af];simp;omega)) U (.inr dc_) U6 (Rw _) fl_ (fun cz _ cA _ bS=>?_);refine Vf [14,15,21,22,24,26,101,102,103] a U ?_;clear a R;refine Vd fun R a=>?_;refine Vh _ U U6 ?_;refine C6 1 [14,15,21,22,24,26,101,102,103] a U ?_;clear a R;obtain⟨bT,w4,rfl,rfl,a2⟩:=bS;rw[show((cG B.col o).take j).flatMap g++([1, -1]:List Rat).map (gZ (bs B) (bp B) k (atT t fun j=>(slf B.pts t j).1) (rm o))++([1, -1]:List Rat).map (gZ (bs B) (bp B) k (atT t fun j=>(slf B.pts t j).2) (jo o))=((cG B.col o).take (j+1)).flatMap g by rw[aH,<- aK,R0]]at a2⊢;refine Vn (m':=(cG B.col o).length-(j+1)) om_ mup (hn_ [14,15,21,22,24,26,101,102,103] U) ⟨j+1,bT,w4,⟨by omega,a2⟩,U,U,U⟩
  have K:j=(cG B.col o).length:=by
   have:=Rt aL;omega
  rw[K,Rz,<- A]at J⊢;refine Vp 0 mup (hn_ [14] U) ⟨vs,w,J.mono mup,U,U⟩
 obtain⟨vs ,w,a3,rfl,rfl⟩:=I;refine G.freezeArr 1 (aC vs (rowsO B o p t z)) U U (bQ _ _) (bE a3.1) (fun Cr cB bU=>?_);have a4:RowsIn Cr w (rowsO B o p t z):=⟨vs,a3.mono mup,bU⟩;refine Vd fun R a=>?_;refine Vj ag U9 ?_;refine Vm (E0 _ d.m_ w (rowsO B o p t z) a4.m_ b.rows (fun r hr=>by rw[Ca r hr];omega) (RD (xe (by unfold bs at a8;omega)) dc_)) U7 fl_ ?_;refine C6 4 [6,7] a U ?_;clear a R;refine Vo (G.dropAll (VA U3 ?_));exact⟨U,w,U,a4.mono mup⟩
structure Rich (B:Bk)(fs:List Rat)(RO:Nat->List RowQ):Prop where
 good:Good B.pts B.tris
 br:BookR B
 bz:iK B=0
 terr:Terr B fs
 h60:bs B*bp B<=60
 fine:∀ i o,B.obs[i]?=some o->∃ p ti t z,Fine B fs o p ti t z/\RO i=rowsO B o p t z
theorem mV (h:iK B=0):sf B.col=0:=by
 unfold iK at h;split at h
 ·rename_i h1;exact absurd h h1
 split at h
 ·rename_i h1;exact absurd h h1
 rename_i h1;exact RT h1
theorem vG {l:List Lay}(h:sf l=0):l≠[]/\l.length<=60:=by
 unfold sf at h;split at h
 ·exact absurd h dc_
 rename_i h0;split at h
 ·exact absurd h dc_
 exact⟨h0,by omega⟩
theorem Rich.bookz {a:Value}{d:Nat->List RowQ}(h:Rich B fs d)(e:Tabs C)(b:BookIn C a B):BookZ C a B 0 :=
 ⟨b,fun D c=>by have h2:=rE D (e.mono c) a B (b.mono c) h.good h.br;rwa [h.bz]at h2,fun _=>(vG (mV h.bz)).1,RD (vG (mV h.bz)).2 dc_,h.good.ok.lp⟩
theorem Rich.scol {a:Nat->List RowQ}(h:Rich B fs a):bs B+1=B.col.length/\B.col.length<=60:=by
 obtain⟨h1,h2⟩:=vG (mV h.bz);have:=Sc.2 h1;unfold bs;omega
theorem Q2 (C:Mem)(f:Tabs C)(b:Value)(B:Bk)(c:List Rat)(d:Nat->List RowQ)(i:Nat)(g:BookIn C b B)(a:Rich B c d)(j:i<B.obs.length) :
  Pur cx.P 183 [gk (bs B) (bp B),b,i_ i] C fun u D=>∃ v,u=.tuple #[v,i_ 0]/\RowsIn D v (d i):=by
 have e:B.obs[i]?=some B.obs[i]:=ai j;obtain⟨p,k,t,z,l,m⟩:=a.fine i _ e;have h:=Nr C f b B c i _ p k t z g a.good a.br a.bz a.terr e l a.h60 (mV a.bz) a.scol.1 a.scol.2
 rwa [<- m]at h
theorem pX {a:Nat->List RowQ}(b:Rich B fs a)(c:i<B.obs.length):(a i).length<=240/\∀ r∈a i,r.f.length=bs B*bp B:=by
 have d:B.obs[i]?=some B.obs[i]:=ai c;obtain⟨p,h,t,z,j,e⟩:=b.fine i _ d;have g:(cG B.col B.obs[i]).length<=60:=by
  unfold cG wJ;refine RD (S9 _ _) ?_;rw[SI];have:=b.scol.2;omega
 rw[e];exact⟨xe g,Ca⟩
def bJ (B:Bk):List RowQ:=bj (bs B) (bp B) B.col (B.col.length-2)
theorem DP {b:Nat->List RowQ}(a:Rich B fs b):(bJ B).length<=120:=by
 have h:=jM (bs B) (bp B) B.col (B.col.length-2);have h1:=a.scol.1;have h2:(B.col.length-2)*bp B<=bs B*bp B:=Sa _ om_;have h3:=a.h60;unfold bJ;omega
structure SrcQ where
 n:Int
 r:RowQ
def bW (vs:List Value)(l:List SrcQ):List (List Value):=List.zipWith (fun w (s:SrcQ)=>[.int .i64 s.n,w,ae (qtx s.r.b)]) vs l
def SrcsOk (C:Mem)(vs:List Value)(l:List SrcQ):Prop:=RowsOk C vs (l.map SrcQ.r)
def Dx (C:Mem)(v:Value)(l:List SrcQ):Prop:=∃ vs,SrcsOk C vs l/\Sl C 3 v (bW vs l)
theorem SrcsOk.mono {C D:Mem}{a:List Value}{l:List SrcQ}(h:SrcsOk C a l)(b:C.le D):SrcsOk D a l:=RowsOk.mono h b
theorem SrcsOk.m_ {D:Mem}{l:List SrcQ}(h:SrcsOk C vs l)(a:C.le D:=by exact mup):SrcsOk D vs l:=SrcsOk.mono h a
theorem SrcsOk.snoc {C:Mem}{a:List Value}{l:List SrcQ}{v:Value}{s:SrcQ}(h:SrcsOk C a l)(b:Sl C 1 v (s.r.f.map dJ)):SrcsOk C (a++[v]) (l++[s]):=by
 unfold SrcsOk at h⊢;rw[R3];exact RowsOk.snoc h b
theorem jO {l:List SrcQ}(h:SrcsOk C vs l):vs.length=l.length:=by have:=h.1;simpa using this
theorem lS {l:List SrcQ}(h:vs.length=l.length)(v:Value)(s:SrcQ):bW (vs++[v]) (l++[s])=bW vs l++[[i_ s.n,v,ae (qtx s.r.b)]]:=by
 unfold bW;rw[List.zipWith_append h];rfl
theorem oc {l:List SrcQ}(h:vs.length=l.length):(bW vs l).length=l.length:=by simp[bW,h]
theorem rT (b:List Value)(l:List SrcQ):∀ r∈bW b l,r.length=3:=by
 intro r hr;unfold bW at hr;obtain⟨i,a⟩:=SV hr;rw[List.getElem?_zipWith]at a;cases h1:b[i]? <;> cases h2:l[i]? <;> rw[h1,h2]at a <;> simp at a
 subst a;rfl
def kR (n:Int)(l:List RowQ):List SrcQ:=l.map fun r=>⟨n,r⟩
def bT (T:List RowQ)(RO:Nat->List RowQ)(l:List Nat):List SrcQ:=kR (-1) T++l.flatMap fun i=>kR (i:Nat) (RO i)
theorem lR {n:Int}{l:List RowQ}{r:RowQ}(h:l[i]?=some r):kR n (l.take (i+1))=kR n (l.take i)++[⟨n,r⟩]:=by
 unfold kR;rw[RR,h,R3];rfl
theorem yI {T:List RowQ}{RO:Nat->List RowQ}:∀ {l:List Nat},(∀ i∈l,(RO i).length<=240)->l.length<=100->T.length<=120->(bT T RO l).length<=120+240*l.length:=by
 intro l h e hT;unfold bT;rw[Ru];have b:∀ l:List Nat,(∀ i∈l,(RO i).length<=240)->(l.flatMap fun i=>kR (i:Nat) (RO i)).length<=240*l.length:=by
  intro l;induction l with
 |nil=>intro _;simp
 |cons a l c =>
   intro h;have h1:=h a Rq;have h2:=c fun i d=>h i (RB _ d);rw[List.flatMap_cons,Ru,RH];have:(kR (a:Nat) (RO a)).length=(RO a).length:=by simp[kR]
   omega
 have h1:=b l h;have:(kR (-1) T).length=T.length:=by simp[kR]
 omega
theorem Iz (C:Mem)(hT:Tabs C)(bv lv:Value)(B:Bk)(fs:List Rat)(c:Nat->List RowQ)(l:List Nat)(hB:BookIn C bv B)(o:Rich B fs c)(M:Sl C 1 lv (l.map aW))(ad:∀ i∈l,i<B.obs.length)(aO:l.length<=100)(aP:(bT (bJ B) c l).length<=300) :
  Pur cx.P 114 [gk (bs B) (bp B),bv,lv] C fun u D=>∃ v,u=.tuple #[v,i_ 0]/\Dx D v (bT (bJ B) c l):=by
 have aw:=hB;have ay:=DP o;obtain⟨v1,v2,tv,cv,ov,rfl,h1,h2,h3,h4,h5⟩:=id hB.ex;obtain⟨N,O,rfl,az,aQ,_⟩:=id M;have aR:=mx_
 simp only[au]at M az⊢;have aA:=fun m:List Nat=>fun hm:∀ i∈m,i<B.obs.length=>fun aB:m.length<=100=>yI (T:=bJ B) (RO:=c) (l:=m) (fun i F=>(pX o (hm i F)).1) aB ay;refine Vi func114 66 U3 fun w0=>Vd fun R d=>Vs U6 fun Q=>Vs U6 fun S=>C6 2 [2,3,4] d U<|G.freeze 1 U fun _ _ af=>G.freeze 0 U fun _ _ ah=>U1 1 [2,3,4,8] U<|Vd fun R d=>Vb (bkT af 2) U8<|Vc U6<|Vb (bkT ah 1) U8<|VJ (wD _ hT.m_ _ (bs B) (bp B) B.col h4.m_ o.scol.1 o.h60 o.br.col) U7 (fun aS _ _ aC=>?_);obtain⟨aj,V,H⟩:=aC;rw[show bj (bs B) (bp B) B.col (B.col.length-2)=bJ B from rfl]at V H;have ak:=V.1;obtain⟨At,ct,rfl,aD,aT,_⟩:=id H;simp only[bE ak]at H aD⊢;refine C6 2 [2,3,4,8,20,21,22] d U<|G.nilArr 142 3<|G.loop (fun fr x e y=>∃ (i:Nat)(vs:List Value)(w:Value),(i<=(bJ B).length/\SrcsOk x vs (kR (-1) ((bJ B).take i)))/\fr=[(2,[],.slice N l.length O),(3,[],p_ Q),(4,[],p_ S),(8,[],w),(20,[],.slice At (bJ B).length ct),(21,[],i_ (bJ B).length),(22,[],i_ i)]/\e=[.arr w 142 3 (kR (-1) ((bJ B).take i)).length (bW vs (kR (-1) ((bJ B).take i))).flatten]/\y=(bJ B).length-i) (hn_ [2,3,4,8,20,21,22] U) ⟨0,[],_,⟨Rv _,RowsOk.nil _⟩,U,U,U⟩ (fun fr aV aX m _ z=>?_);obtain⟨i,vs,w,⟨F,I⟩,rfl,rfl,rfl⟩:=z;refine U1 1 [2,3,4,8,20,21,22,23] U<|G.cd (fun W=>?_) fun W=>?_
 ·have J:i<(bJ B).length:=by
   have:=QL W;omega
  obtain⟨r,g⟩:∃ r,(bJ B)[i]?=some r:=⟨(bJ B)[i],ai J⟩;obtain⟨p,q⟩:∃ p,aj[i]?=some p:=⟨aj[i]'(by rw[ak];exact J),ai _⟩;have t:=V.2 i p r q g;obtain⟨h,n,rfl,_⟩:=id t;simp only[au]at t q;have aE:(kR (-1) ((bJ B).take i)).length=i:=by simp[kR];omega
  refine Vd fun R d=>Vq H.m_ U10 om_ (hU q g) fl_ fun aY aF=>Vb aF U8<|Vt U5 fun aZ=>Vk (j:=0) U12<|Vf [2,3,4,8,10,20,21,22] d U<|Va 1 U fun R d=>Vj ag U9<|Vu [i_ (-1),.slice h r.f.length n,ae (qtx r.b)] U8<|Vy [[i_ (-1),.slice h r.f.length n,ae (qtx r.b)]] U12 fun a0 _ _ aG=>D.append (j:=1) U11 aG U ax (by simp only[Rp];omega) fl_ fun al=>C6 1 [2,3,4,8,20,21,22] d U<|Vd fun R d=>Vh _ U U6<|C6 1 [2,3,4,8,20,21,22] d U ?_;have A:=SrcsOk.snoc (s:=⟨-1,r⟩) I.m_ t.m_;rw[<- lR g]at A;refine VR 1 U<|Vr (L':=[.arr al 142 3 (kR (-1) ((bJ B).take (i+1))).length (bW (vs++[.slice h r.f.length n]) (kR (-1) ((bJ B).take (i+1)))).flatten]) (by rw[lR g,lS (jO I)];simp)<|Vn (m':=(bJ B).length-(i+1)) om_ mup (hn_ [2,3,4,8,20,21,22] U) ⟨i+1,vs++[.slice h r.f.length n],al,⟨by omega,A.mono mup⟩,U,U,U⟩
 have J:i=(bJ B).length:=by
  have:=Rt W;omega
 rw[J,Rz]at I⊢;refine U1 3 [3,4,8,32,33,34] U<|Vr (L':=[.arr w 142 3 (bT (bJ B) c (l.take 0)).length (bW vs (bT (bJ B) c (l.take 0))).flatten]) (by simp[bT])<|G.loop (fun fr x e y=>∃ (j:Nat)(vs:List Value)(w:Value),(j<=l.length/\SrcsOk x vs (bT (bJ B) c (l.take j)))/\fr=[(3,[],p_ Q),(4,[],p_ S),(8,[],w),(32,[],.slice N l.length O),(33,[],i_ l.length),(34,[],i_ j)]/\e=[.arr w 142 3 (bT (bJ B) c (l.take j)).length (bW vs (bT (bJ B) c (l.take j))).flatten]/\y=l.length-j) (hn_ [3,4,8,32,33,34] U) ⟨0,vs,w,⟨Rv _,by simpa [bT] using I⟩,U,U,U⟩ (fun fr a1 a2 m _ z=>?_);obtain⟨j,vs,w,⟨hj,E⟩,rfl,rfl,rfl⟩:=z;refine U1 1 [3,4,8,32,33,34,35] U<|G.cd (fun X=>?_) fun X=>?_
 ·have Y:j<l.length:=by
   have:=QL X;omega
  obtain⟨a,Z⟩:∃ a,l[j]?=some a:=⟨l[j],ai Y⟩;have am:=ad a (aU Z);have aH:=aA (l.take j) (fun i F=>ad i (SD F)) (by rw[RE];omega);rw[RE]at aH;have aI:bT (bJ B) c (l.take (j+1))=bT (bJ B) c (l.take j)++kR (a:Nat) (c a):=by
   unfold bT;rw[jx _ Z,R0]
  have a3:=(pX o am).1;refine Vd fun R d=>Vq M.m_ U10 om_ (cq Z) fl_ fun a4 aJ=>Vb aJ U8<|C6 1 [3,4,8,12,32,33,34] d U<|Vd fun R d=>Vb (bkT af 2) U8<|Vb (bkT ah 5) U8<|Vc U6<|VJ (Q2 _ hT.m_ _ B fs c a aw.m_ o am) U7 (fun a5 _ _ aK=>?_);obtain⟨rv,rfl,an,ao,aa⟩:=aK;have ap:=ao.1;obtain⟨Ar,cr,rfl,aL,a6,_⟩:=id aa;simp only[bE ap]at aa aL⊢;refine C6 5 [3,4,8,12,13,14,32,33,34] d U<|U1 2 [3,4,8,12,13,14,32,33,34,46] U<|G.cd (fun aq=>?_) fun aq=>?_
  ·exact absurd aq dc_
  refine U1 3 [3,4,8,12,32,33,34,48,49,50] U<|Vr (L':=[.arr w 142 3 (bT (bJ B) c (l.take j)++kR (a:Nat) ((c a).take 0)).length (bW vs (bT (bJ B) c (l.take j)++kR (a:Nat) ((c a).take 0))).flatten]) (by simp[kR])<|G.loop (fun fr x e y=>∃ (k:Nat)(vs:List Value)(w:Value),(k<=(c a).length/\SrcsOk x vs (bT (bJ B) c (l.take j)++kR (a:Nat) ((c a).take k)))/\fr=[(3,[],p_ Q),(4,[],p_ S),(8,[],w),(12,[],i_ a),(32,[],.slice N l.length O),(33,[],i_ l.length),(34,[],i_ j),(48,[],.slice Ar (c a).length cr),(49,[],i_ (c a).length),(50,[],i_ k)]/\e=[.arr w 142 3 (bT (bJ B) c (l.take j)++kR (a:Nat) ((c a).take k)).length (bW vs (bT (bJ B) c (l.take j)++kR (a:Nat) ((c a).take k))).flatten]/\y=(c a).length-k) (hn_ [3,4,8,12,32,33,34,48,49,50] U) ⟨0,vs,w,⟨Rv _,by rw[show kR (a:Nat) ((c a).take 0)=[] from U,RQ];exact E.mono mup⟩,U,U,U⟩ (fun fr a7 a8 m _ z=>?_);obtain⟨k,vs,w,⟨hk,K⟩,rfl,rfl,rfl⟩:=z;refine U1 1 [3,4,8,12,32,33,34,48,49,50,51] U<|G.cd (fun ab=>?_) fun ab=>?_
  ·have L:k<(c a).length:=by
    have:=QL ab;omega
   obtain⟨r,g⟩:∃ r,(c a)[k]?=some r:=⟨(c a)[k],ai L⟩;obtain⟨p,q⟩:∃ p,an[k]?=some p:=⟨an[k]'(by rw[ap];exact L),ai _⟩;have t:=ao.2 k p r q g;obtain⟨h,n,rfl,_⟩:=id t;simp only[au]at t q;have aE:(kR (a:Nat) ((c a).take k)).length<=240:=by simp[kR];omega
   have a9:(bT (bJ B) c (l.take j)++kR (a:Nat) ((c a).take k)).length<=100000:=by rw[Ru];omega
   refine Vd fun R d=>Vq aa.m_ U10 om_ (hU q g) fl_ fun ba aM=>Vb aM U8<|Vt U5 fun bb=>Vk (j:=0) U12<|Vf [3,4,8,12,16,32,33,34,48,49,50] d U<|Va 2 U fun R d=>Vj ag U9<|Vu [i_ (a:Nat),.slice h r.f.length n,ae (qtx r.b)] U8<|Vy [[i_ (a:Nat),.slice h r.f.length n,ae (qtx r.b)]] U12 fun bc _ _ aN=>D.append (j:=1) U11 aN U ax (by simp only[Rp];omega) fl_ fun ar=>C6 1 [3,4,8,12,32,33,34,48,49,50] d U<|Vd fun R d=>Vh _ U U6<|C6 1 [3,4,8,12,32,33,34,48,49,50] d U ?_;have A:=SrcsOk.snoc (s:=⟨(a:Nat),r⟩) K.m_ t.m_;rw[R0,<- lR g]at A;refine VR 1 U<|Vr (L':=[.arr ar 142 3 (bT (bJ B) c (l.take j)++kR (a:Nat) ((c a).take (k+1))).length (bW (vs++[.slice h r.f.length n]) (bT (bJ B) c (l.take j)++kR (a:Nat) ((c a).take (k+1)))).flatten]) (by rw[lR g,<- R0,lS (jO K)];simp;omega)<|Vn (m':=(c a).length-(k+1)) om_ mup (hn_ [3,4,8,12,32,33,34,48,49,50] U) ⟨k+1,vs++[.slice h r.f.length n],ar,⟨by omega,A.mono mup⟩,U,U,U⟩
  have L:k=(c a).length:=by
   have:=Rt ab;omega
  rw[L,Rz,<- aI]at K⊢;refine Vd fun R d=>Vh _ U U6<|C6 1 [3,4,8,32,33,34] d U<|Vn (m':=l.length-(j+1)) om_ mup (hn_ [3,4,8,32,33,34] U) ⟨j+1,vs,w,⟨by omega,K⟩,U,U,U⟩
 have Y:j=l.length:=by
  have:=Rt X;omega
 rw[Y,Rz]at E⊢;refine G.freezeArr 0 (bW vs (bT (bJ B) c l)) U U (rT _ _) (oc (jO E)) (fun Cg hg ac=>?_);obtain⟨Ag,cg,rfl,_⟩:=id ac;rw[oc (jO E)]at ac⊢;refine U1 3 [8,64] U<|G.cd (fun av=>?_) fun av=>?_
 ·exfalso;have:=QL av;omega
 refine U1 3 [6,7] U<|Vo (G.dropAll (VA U3 ?_));exact⟨U,_,U,vs,E.mono mup,ac.mono mup⟩
theorem IS (C:Mem)(g:Tabs C)(h:Value)(B:Bk)(k:List Rat)(b:Nat->List RowQ)(c:BookIn C h B)(d:Rich B k b)(x:B.obs.length<=100)(z:(bT (bJ B) b (List.range B.obs.length)).length<=300) :
  Pur cx.P 54 [h] C fun u D=>∃ v,u=.tuple #[v,i_ 0]/\Dx D v (bT (bJ B) b (List.range B.obs.length)):=by
 have l:=c;have n:=d.bookz g c;obtain⟨Q,S,T,V,W,rfl,h1,h2,h3,h4,h5⟩:=id c.ex;obtain⟨X,Y,rfl,A,Z,_⟩:=id h5;have aa:=mx_
 simp only[au]at h5 A l n⊢;refine Vi func54 33 U3 fun w0=>Vd fun R a=>Vs U6 fun E=>C6 2 [1] a U<|G.freeze 0 U fun _ _ e=>Vd fun R a=>Vb (bkT e 5) U8<|Vl (N3 _ _ B n.m_ d.h60) U7<|Ve 3 U<|Vt U5 fun F=>Vk (j:=0) U12<|C6 1 [1,4,5] a U<|U1 2 [1,4,5,14] U<|G.cd (fun o=>?_) fun o=>?_
 ·exact absurd o dc_
 refine U1 1 [1,4,6] U<|Va 1 U fun R a=>Vb (bkT e 1) U8<|C6 2 [1,4,6,18,19] a U<|G.freeze 0 U fun _ _ H=>G.nilArr 3 1<|G.loop (fun fr C' p I=>∃ (i:Nat)(w:Value),(i<=B.obs.length)/\fr=[(1,[],p_ E),(4,[],p_ F),(6,[],w),(18,[],i_ B.obs.length),(19,[],i_ i)]/\p=[.arr w 3 1 (List.range i).length ((List.range i).map aW).flatten]/\I=B.obs.length-i) (hn_ [1,4,6,18,19] U) ⟨0,_,Rv _,U,U,U⟩ (fun fr ab ac m _ J=>?_);obtain⟨i,w,q,rfl,rfl,rfl⟩:=J;refine U1 1 [1,4,6,18,19,20] U<|G.cd (fun f=>?_) fun f=>?_
 ·have s:i<B.obs.length:=by
   have:=QL f;omega
  have ad:(List.range i).length<=100:=by simp;omega
  refine U1 2 [1,4,6,7,18,19] U<|Va 2 U fun R a=>Vy [aW i] U12 fun ae _ _ K=>D.append (j:=0) U11 K U ax (by simp only[Rp];omega) fl_ fun t=>C6 1 [1,4,6,18,19] a U<|Vd fun R a=>Vh _ U U6<|C6 1 [1,4,6,18,19] a U<|Vr (L':=[.arr t 3 1 (List.range (i+1)).length ((List.range (i+1)).map aW).flatten]) (by rw[SC];simp[aW])<|Vn (m':=B.obs.length-(i+1)) om_ mup (hn_ [1,4,6,18,19] U) ⟨i+1,t,om_,U,U,U⟩
 have s:i=B.obs.length:=by
  have:=Rt f;omega
 subst s;refine G.freezeArr 0 ((List.range B.obs.length).map aW) rfl rfl (by intro r hr;obtain⟨y,_,rfl⟩:=Rs.1 hr;rfl) ak fun Cg hg L=>Vd fun R a=>Vb (bkT H 2) U8<|Vb (bkT e 5) U8<|Vc U6<|VC (Iz _ g.m_ _ _ B k b (List.range B.obs.length) l.m_ d L.m_ (fun i q=>RL.1 q) (by simpa using x) z) U7 fl_ (fun af _ _ M=>?_);obtain⟨N,rfl,O⟩:=M;refine C6 4 [2,3] a U<|Vo (G.dropAll (VA U3 ?_));exact⟨U,N,U,O⟩
def cm (err:Nat->Int):Nat->Int
|0=>0
|n+1=>if cm err n≠0 then cm err n else err n
theorem mF {a:Nat->Int}{n:Nat}(h:cm a n≠0):∀ m,n<=m->cm a m=cm a n
|0,hm=>by rw[show n=0 by omega]
|m+1,hm=>by
  rcases RS m n with h1|h1
  ·rw[show n=m+1 by omega]
  have b:=mF h m h1;simp only[cm,b];rw[aM h]
theorem yt (a:cm err i=0)(b:err i≠0)(c:i<n):cm err n=err i:=by
 have h1:cm err (i+1)=err i:=by simp only[cm,a];rw[aF dc_]
 rw[mF (n:=i+1) (by rw[h1];exact b) n om_,h1]
theorem mE (a:cm err i=0)(b:err i=0):cm err (i+1)=0:=by
 simp only[cm,a];rw[aF dc_,b]
theorem iy {a:Nat->Int}:∀ {n:Nat},cm a n=0->∀ i,i<n->a i=0
|0,_,i,b=>by omega
|n+1,h,i,b=>by
  by_cases h0:cm a n=0
  ·rcases RS i n with h1|h1
   ·exact iy h0 i h1
   have:i=n:=by omega
   subst this;simp only[cm,h0]at h
   rwa [aF dc_]at h
  simp only[cm]at h;rw[aM h0]at h;exact absurd h h0
theorem ly {a:Nat->Int}:∀ {n:Nat},(∀ i,i<n->a i=0)->cm a n=0
|0,_=>rfl
|n+1,h=>mE (ly fun i b=>h i om_) (h n om_)
end Go.Proofs.YtfjcldheldflbaaGreatDoor
