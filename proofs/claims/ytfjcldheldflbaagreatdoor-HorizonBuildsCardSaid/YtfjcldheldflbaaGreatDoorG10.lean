/- Laws that the proofs of this seat share, part 10. -/
import Derived.Test.YtfjcldheldflbaaGreatDoorG9
import Derived.Test.YtfjcldheldflbaaGreatDoorShelf
set_option maxHeartbeats 4000000
namespace Go.Proofs.YtfjcldheldflbaaGreatDoor
open Go.Proofs.Tryz
open Go Go.Jog
set_option maxRecDepth 100000
variable {B:Bk}{C:Mem}{a b:Nat}{err:Nat->Int}{fs:List Rat}{i k n:Nat}{o:Obs}{p:Pt}{t:Tri}{v:Value}{vs:List Value}{z:Rat}
structure RowQ where
 f:List Rat
 b:Rat
def aD (vs:List Value)(rows:List RowQ):List (List Value):=List.zipWith (fun w (r:RowQ)=>[w,af (qtx r.b)]) vs rows
def RowsOk (C:Mem)(vs:List Value)(rows:List RowQ):Prop:=vs.length=rows.length/\∀ (i:Nat)(w:Value)(r:RowQ),vs[i]?=some w->rows[i]?=some r->Sl C 1 w (r.f.map eE)
theorem RowsOk.mono {C D:Mem}{vs:List Value}{rows:List RowQ}(h:RowsOk C vs rows)(hl:C.le D):RowsOk D vs rows:=⟨h.1,fun i w r h1 h2=>(h.2 i w r h1 h2).mono hl⟩
theorem RowsOk.m_ {D:Mem}{rows:List RowQ}(h:RowsOk C vs rows)(hl:C.le D:=by exact mup):RowsOk D vs rows:=RowsOk.mono h hl
theorem RowsOk.nil (C:Mem):RowsOk C [] []:=⟨rfl,fun i w r h1 _=>by simp at h1⟩
theorem RowsOk.snoc {rows:List RowQ}{r:RowQ}(h:RowsOk C vs rows)(hv:Sl C 1 v (r.f.map eE)):RowsOk C (vs++[v]) (rows++[r]):=by
 have h0:=h.1;refine⟨by simp[h0],fun j w r' h1 h2=>?_⟩;rcases Rz j vs.length with hlt|hge
 ·rw[R0 hlt]at h1;rw[R0 om_]at h2;exact h.2 j w r' h1 h2
 rw[RD hge]at h1;rw[RD om_,<- h0]at h2;cases hj:j-vs.length with
|zero=>rw[hj]at h1 h2;simp at h1 h2;subst h1;subst h2;exact hv
|succ q=>rw[hj]at h1;simp at h1
theorem eI {rows:List RowQ}(h:vs.length=rows.length)(v:Value)(r:RowQ):aD (vs++[v]) (rows++[r])=aD vs rows++[[v,af (qtx r.b)]]:=by
 unfold aD;rw[List.zipWith_append h];rfl
theorem bk {rows:List RowQ}(h:vs.length=rows.length):(aD vs rows).length=rows.length:=by simp[aD,h]
theorem bN (vs:List Value)(rows:List RowQ):∀ r∈aD vs rows,r.length=2:=by
 intro r hr;unfold aD at hr;obtain⟨i,hi⟩:=SE hr;rw[List.getElem?_zipWith]at hi;cases h1:vs[i]? <;> cases h2:rows[i]? <;> rw[h1,h2]at hi <;> simp at hi
 subst hi;rfl
def RowsIn (C:Mem)(v:Value)(rows:List RowQ):Prop:=∃ vs:List Value,RowsOk C vs rows/\Sl C 2 v (aD vs rows)
theorem RowsIn.mono {C D:Mem}{v:Value}{rows:List RowQ}(h:RowsIn C v rows)(hl:C.le D):RowsIn D v rows:=by
 obtain⟨vs,h1,h2⟩:=h;exact⟨vs,h1.mono hl,h2.mono hl⟩
theorem RowsIn.m_ {D:Mem}{rows:List RowQ}(h:RowsIn C v rows)(hl:C.le D:=by exact mup):RowsIn D v rows:=RowsIn.mono h hl
def sY (s p:Nat)(x:Lay)(i k:Nat):RowQ:=⟨sH (s*p) [(i*p+k, -1),((i-1)*p+k,1)], -x.min⟩
def Hx (s p:Nat)(m:Rat)(i k:Nat):RowQ:=⟨sH (s*p) [(i*p+k,1),((i-1)*p+k, -1)],m⟩
def kI (s p:Nat)(x:Lay)(i k:Nat):List RowQ :=
 sY s p x i k::(match x.max with
 |none=>[]
 |some m=>[Hx s p m i k])
def bx (s p:Nat)(x:Lay)(i:Nat):Nat->List RowQ
|0=>[]
|k+1=>bx s p x i k++kI s p x i k
def bi (s p:Nat)(col:List Lay):Nat->List RowQ
|0=>[]
|n+1=>bi s p col n++bx s p (col.getD (n+1) ⟨[],0,none⟩) (n+1) p
theorem nn (s p:Nat)(x:Lay)(i:Nat):∀ k,(bx s p x i k).length<=2*k
|0=>Q7 _
|k+1=>by
  have:=nn s p x i k;have h2:(kI s p x i k).length<=2:=by unfold kI;split <;> simp
  simp only[bx,Rf];omega
theorem jO (s p:Nat)(col:List Lay):∀ n,(bi s p col n).length<=2*(n*p)
|0=>by simp[bi]
|n+1=>by
  have:=jO s p col n;have h2:=nn s p (col.getD (n+1) ⟨[],0,none⟩) (n+1) p;simp only[bi,Rf,Nat.succ_mul];omega
theorem cY:qtx (-1)=[45,49]:=by
 rw[fc (q:=1) dc_ dc_,dE]
theorem st2 (q1 q2:Rat)(ha:a<n)(hb:b<n):aE (aE (List.replicate n (af [48])) [af (qtx q1)] a) [af (qtx q2)] b=lH n [(b,q2),(a,q1)]:=by
 rw[mI,fH _ _ ha,fH _ _ hb]
theorem Qp (q1 q2:Rat)(ha:a<n)(hb:b<n)(hne:a≠b):aE (aE (List.replicate n (af [48])) [af (qtx q2)] b) [af (qtx q1)] a=lH n [(b,q2),(a,q1)]:=by
 rw[st2 q2 q1 hb ha];unfold lH;rw[xd (List.Perm.swap _ _ _) (by simp;exact hne)]
theorem jB (n:Nat)(d:List (Nat × Rat)):lH n d=((sH n d).map eE).flatten:=(eB (fun q=>af (qtx q)) _).symm
theorem jV (n:Nat)(d:List (Nat × Rat)):(sH n d).length=n:=by simp[sH]
theorem wz (C:Mem)(_hT:Tabs C)(v:Value)(s p:Nat)(col:List Lay)(hv:Sl C 3 v (col.map vZ))(hs:s+1=col.length)(hsp:s*p<=60)(hcol:∀ x∈col,OY x) :
  Pur cx.P 182 [gl s p,v] C fun u D=>RowsIn D u (bi s p col (col.length-2)):=by
 obtain⟨A0,c0,rfl,hc1,hc2,_⟩:=id hv;have hmx:=mx_
 simp only[au]at hv hc1⊢;refine UU func182 81 U3 fun w0=>UQ fun R hR=>Vd U6 fun b2=>C6 1 [1,2] hR U<|G.freeze 0 U fun _ _ hb2=>UM 1 [1,2,5] U<|UM 1 [1,2,5,6] U<|G.nilArr 140 2<|G.loop (fun fr C' L' μ=>∃ (i:Nat)(vs:List Value)(w:Value),(1<=i/\(i+1<=col.length∨i=1)/\RowsOk C' vs (bi s p col (i-1)))/\fr=[(1,[],.slice A0 col.length c0),(2,[],p_ b2),(5,[],w),(6,[],i_ i)]/\L'=[.arr w 140 2 (bi s p col (i-1)).length (aD vs (bi s p col (i-1))).flatten]/\μ=col.length-i) (hn_ [1,2,5,6] U) ⟨1,[],_,⟨Q7 _,.inr U,RowsOk.nil _⟩,U,U,U⟩ (fun fr C0' L0' m _ hI=>?_);obtain⟨i,vs,w,⟨hi1,hi2,hrows⟩,rfl,rfl,rfl⟩:=hI;refine UN 1 U fun R hR=>UV _ U U6<|C6 3 [1,2,5,6,15] hR U<|G.cd (fun h15=>?_) fun h15=>?_
 ·have hil:i+1<col.length:=by
   have:=Qw h15;omega
  obtain⟨x,hx⟩:∃ x,col[i]?=some x:=⟨col[i]'om_,ai om_⟩;obtain⟨hr1,hr2,hr3⟩:=hcol x (aM hx);have hTl:=jO s p col (i-1);refine UN 1 U fun R hR=>UO (bkT hb2 1) U8<|C6 1 [1,2,5,6,19,20] hR U<|Vc (L':=[.arr w 140 2 (bi s p col (i-1)++bx s p x i 0).length (aD vs (bi s p col (i-1)++bx s p x i 0)).flatten]) (by simp[bx])<|G.loop (fun fr C' L' μ=>∃ (k:Nat)(vs2:List Value)(w2:Value),(k<=p/\RowsOk C' vs2 (bi s p col (i-1)++bx s p x i k))/\fr=[(1,[],.slice A0 col.length c0),(2,[],p_ b2),(5,[],w2),(6,[],i_ i),(19,[],i_ p),(20,[],i_ k)]/\L'=[.arr w2 140 2 (bi s p col (i-1)++bx s p x i k).length (aD vs2 (bi s p col (i-1)++bx s p x i k)).flatten]/\μ=p-k) (hn_ [1,2,5,6,19,20] U) ⟨0,vs,w,⟨Re _,by simpa [bx] using hrows⟩,U,U,U⟩ (fun fr C1' L1' m _ hI=>?_);obtain⟨k,vs2,w2,⟨hk,hrow2⟩,rfl,rfl,rfl⟩:=hI;refine UM 1 [1,2,5,6,19,20,21] U<|G.cd (fun h21=>?_) fun h21=>?_
  ·have hkp:k<p:=by simpa using h21
   have hip:i*p+p<=s*p:=by
    rw[<- Nat.succ_mul];exact RV _ om_
   have hjp:(i-1)*p+p=i*p:=by
    rw[<- Nat.succ_mul,show(i-1).succ=i by omega]
   have hTi:=nn s p x i k;have hipb:(i-1)*p<=60:=by omega
   have hRl:(bi s p col (i-1)++bx s p x i k).length<=400:=by
    rw[Rf];omega
   refine UM 2 [1,2,5,6,7,19,20] U<|Vg [0,1,2,3,4,5,6,7,8,9,10] [(4,1),(8,1)] U kr_ fun R hB hR=>UO (bkT hb2 2) U8<|UP U6<|Vt (((i-1:Nat):Int)) U4 om_ om_ om_ U2<|UP U6<|Vh (fun _=>(zu _ s p (i-1) k om_)) U9<|UO (bkT hb2 2) U8<|UR 2 U<|Vh (fun _=>(zu _ s p i k om_)) U9<|C6 2 [1,2,5,6,8,9,19,20] hR U<|G.cut (fun fr C' L' μ=>∃ (bz b10:Nat),(True)/\fr=[(1,[],.slice A0 col.length c0),(2,[],p_ b2),(5,[],w2),(6,[],i_ i),(8,[],i_ ((((i-1)*p+k:Nat)):Int)),(9,[],i_ (((i*p+k:Nat)):Int)),(10,[],p_ b10),(19,[],i_ p),(20,[],i_ k)]/\L'=[.arr (s_ bz (s*p) (s*p)) 32 1 (s*p) (List.replicate (s*p) (af [48])),.obj b10 (.cells ⟨[s_ bz (s*p) (s*p),af (qtx (-x.min))]⟩ 140 (0,0)),.arr w2 140 2 (bi s p col (i-1)++bx s p x i k).length (aD vs2 (bi s p col (i-1)++bx s p x i k)).flatten]) ?_ (fun fr Cr9 Lr9 μ hler9 hI=>?_)
   ·refine VJ (.cut [0,2,3,4,5] (.alt 1 (.fin [6,7,8,9,10]) (.alt 6 (.cut [] (.alt 1 (.fin [7,8,9,10]) (.alt 9 (.fin [1,7,8,10]) .stop))) (.alt 9 (.cut [] (.alt 1 (.fin [6,7,8,10]) (.alt 6 (.fin [1,7,8,10]) .stop))) .stop)))) [(7,1),(1,3)] U U kr_ fun R hB hR hH=>UO (bkT hb2 2) U8<|UR 2 U<|Va hv.m_ U10 om_ (cA hx) fl_ fun p36 hp36=>V0 hp36 U10 fl_ fun p37 hp37=>Vw hH U ⟨?_, ?_, ?_,trivial⟩
    ·refine D.call (gi _ s p om_) U (.inr dc_) U6 (Rh _) fl_ fun v33 C33 L33 _ hq33=>UO hp37.m_ U8<|Vv (fun _=>(eJ _ x.min (Ea hr1))) U9 ?_;obtain⟨bz,rfl,rfl⟩:=hq33;refine Vf [s_ bz (s*p:Nat) (s*p:Nat),af (qtx (-x.min))] U8<|Ve U5 (fun b10=>?_)
     first|refine VM (j:=0) U12 ?_|refine VM (j:=1) U12 ?_
     exact US [1,2,5,6,8,9,10,19,20] hR U<|G.perm (L':=[.arr (s_ bz (s*p) (s*p)) 32 1 (s*p) (List.replicate (s*p) (af [48])),.obj b10 (.cells ⟨[s_ bz (s*p) (s*p),af (qtx (-x.min))]⟩ 140 (0,0)),.arr w2 140 2 (bi s p col (i-1)++bx s p x i k).length (aD vs2 (bi s p col (i-1)++bx s p x i k)).flatten]) (by first|exact Rh _|exact List.Perm.swap _ _ _)<|Vb 0 mup (hn_ [1,2,5,6,8,9,10,19,20] U) ⟨bz,b10,trivial,U,U⟩
    ·refine UO hp37.m_ U8<|Vw hH U ⟨?_, ?_,trivial⟩
     ·refine D.call (gi _ s p om_) U (.inr dc_) U6 (Rh _) fl_ fun v33 C33 L33 _ hq33=>Vv (fun _=>(eJ _ x.min (Ea hr1))) U9 ?_;obtain⟨bz,rfl,rfl⟩:=hq33;refine Vf [s_ bz (s*p:Nat) (s*p:Nat),af (qtx (-x.min))] U8<|Ve U5 (fun b10=>?_)
      first|refine VM (j:=0) U12 ?_|refine VM (j:=1) U12 ?_
      exact US [1,2,5,6,8,9,10,19,20] hR U<|G.perm (L':=[.arr (s_ bz (s*p) (s*p)) 32 1 (s*p) (List.replicate (s*p) (af [48])),.obj b10 (.cells ⟨[s_ bz (s*p) (s*p),af (qtx (-x.min))]⟩ 140 (0,0)),.arr w2 140 2 (bi s p col (i-1)++bx s p x i k).length (aD vs2 (bi s p col (i-1)++bx s p x i k)).flatten]) (by first|exact Rh _|exact List.Perm.swap _ _ _)<|Vb 0 mup (hn_ [1,2,5,6,8,9,10,19,20] U) ⟨bz,b10,trivial,U,U⟩
     refine Ve U5 fun b10=>D.call (gi _ s p om_) U (.inr dc_) U6 (Rh _) fl_ fun v33 C33 L33 _ hq33=>Vv (fun _=>(eJ _ x.min (Ea hr1))) U9 ?_;obtain⟨bz,rfl,rfl⟩:=hq33;refine Vf [s_ bz (s*p:Nat) (s*p:Nat),af (qtx (-x.min))] U8 ?_
     first|refine VM (j:=0) U12 ?_|refine VM (j:=1) U12 ?_
     exact US [1,2,5,6,8,9,10,19,20] hR U<|G.perm (L':=[.arr (s_ bz (s*p) (s*p)) 32 1 (s*p) (List.replicate (s*p) (af [48])),.obj b10 (.cells ⟨[s_ bz (s*p) (s*p),af (qtx (-x.min))]⟩ 140 (0,0)),.arr w2 140 2 (bi s p col (i-1)++bx s p x i k).length (aD vs2 (bi s p col (i-1)++bx s p x i k)).flatten]) (by first|exact Rh _|exact List.Perm.swap _ _ _)<|Vb 0 mup (hn_ [1,2,5,6,8,9,10,19,20] U) ⟨bz,b10,trivial,U,U⟩
    refine Ve U5 fun b10=>Vw hH U ⟨?_, ?_,trivial⟩
    ·refine D.call (gi _ s p om_) U (.inr dc_) U6 (Rh _) fl_ fun v33 C33 L33 _ hq33=>UO hp37.m_ U8<|Vv (fun _=>(eJ _ x.min (Ea hr1))) U9 ?_;obtain⟨bz,rfl,rfl⟩:=hq33;refine Vf [s_ bz (s*p:Nat) (s*p:Nat),af (qtx (-x.min))] U8 ?_
     first|refine VM (j:=0) U12 ?_|refine VM (j:=1) U12 ?_
     exact US [1,2,5,6,8,9,10,19,20] hR U<|G.perm (L':=[.arr (s_ bz (s*p) (s*p)) 32 1 (s*p) (List.replicate (s*p) (af [48])),.obj b10 (.cells ⟨[s_ bz (s*p) (s*p),af (qtx (-x.min))]⟩ 140 (0,0)),.arr w2 140 2 (bi s p col (i-1)++bx s p x i k).length (aD vs2 (bi s p col (i-1)++bx s p x i k)).flatten]) (by first|exact Rh _|exact List.Perm.swap _ _ _)<|Vb 0 mup (hn_ [1,2,5,6,8,9,10,19,20] U) ⟨bz,b10,trivial,U,U⟩
    refine UO hp37.m_ U8<|D.call (gi _ s p om_) U (.inr dc_) U6 (Rh _) fl_ fun v33 C33 L33 _ hq33=>Vv (fun _=>(eJ _ x.min (Ea hr1))) U9 ?_;obtain⟨bz,rfl,rfl⟩:=hq33;refine Vf [s_ bz (s*p:Nat) (s*p:Nat),af (qtx (-x.min))] U8 ?_
    first|refine VM (j:=0) U12 ?_|refine VM (j:=1) U12 ?_
    exact US [1,2,5,6,8,9,10,19,20] hR U<|G.perm (L':=[.arr (s_ bz (s*p) (s*p)) 32 1 (s*p) (List.replicate (s*p) (af [48])),.obj b10 (.cells ⟨[s_ bz (s*p) (s*p),af (qtx (-x.min))]⟩ 140 (0,0)),.arr w2 140 2 (bi s p col (i-1)++bx s p x i k).length (aD vs2 (bi s p col (i-1)++bx s p x i k)).flatten]) (by first|exact Rh _|exact List.Perm.swap _ _ _)<|Vb 0 mup (hn_ [1,2,5,6,8,9,10,19,20] U) ⟨bz,b10,trivial,U,U⟩
   obtain⟨bz,b10,_,rfl,rfl⟩:=hI;refine G.cut (fun fr C' L' μ=>(True)/\fr=[(1,[],.slice A0 col.length c0),(2,[],p_ b2),(5,[],w2),(6,[],i_ i),(8,[],i_ ((((i-1)*p+k:Nat)):Int)),(9,[],i_ (((i*p+k:Nat)):Int)),(10,[],p_ b10),(19,[],i_ p),(20,[],i_ k)]/\L'=[.arr (s_ bz (s*p) (s*p)) 32 1 (s*p) (lH (s*p) [(i*p+k, -1),((i-1)*p+k,1)]),.obj b10 (.cells ⟨[s_ bz (s*p) (s*p),af (qtx (-x.min))]⟩ 140 (0,0)),.arr w2 140 2 (bi s p col (i-1)++bx s p x i k).length (aD vs2 (bi s p col (i-1)++bx s p x i k)).flatten]) ?_ (fun fr Cr10 Lr10 μ hler10 hI=>?_)
   ·refine VJ (.cut [0,1,2,3,5,6] (.alt 4 (.fin [7,8,9]) (.alt 7 (.fin [4,8,9]) .stop))) [] U U kr_ fun R hB hR hH=>UP U6<|UW ae U9<|UR 3 U<|Vp (((i-1)*p+k)) U10 v_ U2<|Vw hH U ⟨?_, ?_,trivial⟩
    ·refine UW ae U9<|Vr (j:=0) U11 (by simp[];omega)<|Vp ((i*p+k)) U10 v_ U2<|Vr (j:=0) U11 (by simp[aE];omega)<|US [1,2,5,6,8,9,10,19,20] hR U<|Vc (L':=[.arr (s_ bz (s*p) (s*p)) 32 1 (s*p) (lH (s*p) [(i*p+k, -1),((i-1)*p+k,1)]),.obj b10 (.cells ⟨[s_ bz (s*p) (s*p),af (qtx (-x.min))]⟩ 140 (0,0)),.arr w2 140 2 (bi s p col (i-1)++bx s p x i k).length (aD vs2 (bi s p col (i-1)++bx s p x i k)).flatten]) (by
      first
     |(rw[<- st2 (n:=s*p) 1 (-1) om_ om_,dE,cY];rfl)
     |(rw[<- Qp (n:=s*p) 1 (-1) om_ om_ om_,dE,cY];rfl)) ?_
     exact Vb 0 l_ (hn_ [1,2,5,6,8,9,10,19,20] U) ⟨trivial,U,U⟩
    refine Vr (j:=0) U11 (by simp[];omega)<|UW ae U9<|Vp ((i*p+k)) U10 v_ U2<|Vr (j:=0) U11 (by simp[aE];omega)<|US [1,2,5,6,8,9,10,19,20] hR U<|Vc (L':=[.arr (s_ bz (s*p) (s*p)) 32 1 (s*p) (lH (s*p) [(i*p+k, -1),((i-1)*p+k,1)]),.obj b10 (.cells ⟨[s_ bz (s*p) (s*p),af (qtx (-x.min))]⟩ 140 (0,0)),.arr w2 140 2 (bi s p col (i-1)++bx s p x i k).length (aD vs2 (bi s p col (i-1)++bx s p x i k)).flatten]) (by
     first
    |(rw[<- st2 (n:=s*p) 1 (-1) om_ om_,dE,cY];rfl)
    |(rw[<- Qp (n:=s*p) 1 (-1) om_ om_ om_,dE,cY];rfl)) ?_
    exact Vb 0 l_ (hn_ [1,2,5,6,8,9,10,19,20] U) ⟨trivial,U,U⟩
   obtain⟨_,rfl,rfl⟩:=hI;refine G.freezeArr 0 ((sH (s*p) [(i*p+k, -1),((i-1)*p+k,1)]).map eE) ⟨rfl,(jB _ _)⟩ e_ (by simp[jV]) (fun Cz hz hsz=>?_);have hR2:=hrow2.1;have hone:=RowsOk.snoc (r:=sY s p x i k) hrow2.m_ hsz;have hcel:=eI hR2 (s_ bz (s*p) (s*p)) (sY s p x i k);refine UN 1 U fun R hR=>UW ag U9<|Vj [[s_ bz (s*p:Nat) (s*p:Nat),af (qtx (-x.min))]] U12 fun p51 _ _ hs51=>D.append (j:=1) U11 hs51 U ax q_ fl_ fun v52=>C6 1 [1,2,5,6,8,9,10,19,20] hR U<|Vc (L':=[.arr v52 140 2 (bi s p col (i-1)++bx s p x i k++[sY s p x i k]).length (aD (vs2++[s_ bz (s*p) (s*p)]) (bi s p col (i-1)++bx s p x i k++[sY s p x i k])).flatten,.obj b10 (.cells ⟨[s_ bz (s*p) (s*p),af (qtx (-x.min))]⟩ 140 (0,0))]) (by rw[hcel];simp[sY];omega)<|UN 2 U fun R hR=>Va hv.m_ U10 om_ (cA hx) fl_ fun p55 hp55=>V0 hp55 U10 fl_ fun p56 hp56=>UO hp56 U8<|C6 1 [1,2,5,6,8,9,10,19,20,58] hR U<|G.cd (fun h58=>?_) fun h58=>?_
   ·obtain⟨m,hm⟩:∃ m,x.max=some m:=by
     rw[qF]at h58;exact Uf.1 h58
    have hthick:kI s p x i k=[sY s p x i k,Hx s p m i k]:=by unfold kI;rw[hm]
    have hmt:vW x.max=qtx m:=by rw[hm];rfl
    refine G.cut (fun fr C' L' μ=>∃ (bz2:Nat),(True)/\fr=[(1,[],.slice A0 col.length c0),(2,[],p_ b2),(5,[],v52),(6,[],i_ i),(8,[],i_ ((((i-1)*p+k:Nat)):Int)),(9,[],i_ (((i*p+k:Nat)):Int)),(10,[],p_ b10),(19,[],i_ p),(20,[],i_ k)]/\L'=[.arr (s_ bz2 (s*p) (s*p)) 32 1 (s*p) (List.replicate (s*p) (af [48])),.obj b10 (.cells ⟨[s_ bz2 (s*p) (s*p),af (vW x.max)]⟩ 140 (0,0)),.arr v52 140 2 (bi s p col (i-1)++bx s p x i k++[sY s p x i k]).length (aD (vs2++[s_ bz (s*p) (s*p)]) (bi s p col (i-1)++bx s p x i k++[sY s p x i k])).flatten]) ?_ (fun fr Cr13 Lr13 μ hler13 hI=>?_)
    ·refine VJ (.cut [0,2,3,4,5] (.alt 1 (.fin [6,7,8]) (.alt 6 (.fin [1,7,8]) .stop))) [(1,3)] U U kr_ fun R hB hR hH=>UO (bkT hb2 2) U8<|UR 2 U<|Va hv.m_ U10 om_ (cA hx) fl_ fun p63 hp63=>V0 hp63 U10 fl_ fun p64 hp64=>Vw hH U ⟨?_, ?_,trivial⟩
     ·refine D.call (gi _ s p om_) U (.inr dc_) U6 (Rh _) fl_ fun v60 C60 L60 _ hq60=>UO hp64.m_ U8 ?_;obtain⟨bz2,rfl,rfl⟩:=hq60;refine Vf [s_ bz2 (s*p:Nat) (s*p:Nat),af (vW x.max)] U8 ?_
      first|refine VM (j:=2) U12 ?_|refine VM (j:=1) U12 ?_
      exact US [1,2,5,6,8,9,10,19,20] hR U<|G.perm (L':=[.arr (s_ bz2 (s*p) (s*p)) 32 1 (s*p) (List.replicate (s*p) (af [48])),.obj b10 (.cells ⟨[s_ bz2 (s*p) (s*p),af (vW x.max)]⟩ 140 (0,0)),.arr v52 140 2 (bi s p col (i-1)++bx s p x i k++[sY s p x i k]).length (aD (vs2++[s_ bz (s*p) (s*p)]) (bi s p col (i-1)++bx s p x i k++[sY s p x i k])).flatten]) (by first|exact Rh _|exact List.Perm.swap _ _ _)<|Vb 0 mup (hn_ [1,2,5,6,8,9,10,19,20] U) ⟨bz2,trivial,U,U⟩
     refine UO hp64.m_ U8<|D.call (gi _ s p om_) U (.inr dc_) U6 (Rh _) fl_ (fun v60 C60 L60 _ hq60=>?_);obtain⟨bz2,rfl,rfl⟩:=hq60;refine Vf [s_ bz2 (s*p:Nat) (s*p:Nat),af (vW x.max)] U8 ?_
     first|refine VM (j:=2) U12 ?_|refine VM (j:=1) U12 ?_
     exact US [1,2,5,6,8,9,10,19,20] hR U<|G.perm (L':=[.arr (s_ bz2 (s*p) (s*p)) 32 1 (s*p) (List.replicate (s*p) (af [48])),.obj b10 (.cells ⟨[s_ bz2 (s*p) (s*p),af (vW x.max)]⟩ 140 (0,0)),.arr v52 140 2 (bi s p col (i-1)++bx s p x i k++[sY s p x i k]).length (aD (vs2++[s_ bz (s*p) (s*p)]) (bi s p col (i-1)++bx s p x i k++[sY s p x i k])).flatten]) (by first|exact Rh _|exact List.Perm.swap _ _ _)<|Vb 0 mup (hn_ [1,2,5,6,8,9,10,19,20] U) ⟨bz2,trivial,U,U⟩
    obtain⟨bz2,_,rfl,rfl⟩:=hI;refine G.cut (fun fr C' L' μ=>(True)/\fr=[(1,[],.slice A0 col.length c0),(2,[],p_ b2),(5,[],v52),(6,[],i_ i),(10,[],p_ b10),(19,[],i_ p),(20,[],i_ k)]/\L'=[.arr (s_ bz2 (s*p) (s*p)) 32 1 (s*p) (lH (s*p) [(i*p+k,1),((i-1)*p+k, -1)]),.obj b10 (.cells ⟨[s_ bz2 (s*p) (s*p),af (vW x.max)]⟩ 140 (0,0)),.arr v52 140 2 (bi s p col (i-1)++bx s p x i k++[sY s p x i k]).length (aD (vs2++[s_ bz (s*p) (s*p)]) (bi s p col (i-1)++bx s p x i k++[sY s p x i k])).flatten]) ?_ (fun fr Cr14 Lr14 μ hler14 hI=>?_)
    ·refine VJ (.cut [0,1,2,3,5,6] (.alt 4 (.fin [7,8,9]) (.alt 7 (.fin [4,8,9]) .stop))) [] U U kr_ fun R hB hR hH=>UP U6<|UW ae U9<|UR 3 U<|Vp (((i-1)*p+k)) U10 v_ U2<|Vw hH U ⟨?_, ?_,trivial⟩
     ·refine UW ae U9<|Vr (j:=0) U11 (by simp[];omega)<|Vp ((i*p+k)) U10 v_ U2<|Vr (j:=0) U11 (by simp[aE];omega)<|US [1,2,5,6,10,19,20] hR U<|Vc (L':=[.arr (s_ bz2 (s*p) (s*p)) 32 1 (s*p) (lH (s*p) [(i*p+k,1),((i-1)*p+k, -1)]),.obj b10 (.cells ⟨[s_ bz2 (s*p) (s*p),af (vW x.max)]⟩ 140 (0,0)),.arr v52 140 2 (bi s p col (i-1)++bx s p x i k++[sY s p x i k]).length (aD (vs2++[s_ bz (s*p) (s*p)]) (bi s p col (i-1)++bx s p x i k++[sY s p x i k])).flatten]) (by
       first
      |(rw[<- st2 (n:=s*p) (-1) 1 om_ om_,dE,cY];rfl)
      |(rw[<- Qp (n:=s*p) (-1) 1 om_ om_ om_,dE,cY];rfl)) ?_
      exact Vb 0 l_ (hn_ [1,2,5,6,10,19,20] U) ⟨trivial,U,U⟩
     refine Vr (j:=0) U11 (by simp[];omega)<|UW ae U9<|Vp ((i*p+k)) U10 v_ U2<|Vr (j:=0) U11 (by simp[aE];omega)<|US [1,2,5,6,10,19,20] hR U<|Vc (L':=[.arr (s_ bz2 (s*p) (s*p)) 32 1 (s*p) (lH (s*p) [(i*p+k,1),((i-1)*p+k, -1)]),.obj b10 (.cells ⟨[s_ bz2 (s*p) (s*p),af (vW x.max)]⟩ 140 (0,0)),.arr v52 140 2 (bi s p col (i-1)++bx s p x i k++[sY s p x i k]).length (aD (vs2++[s_ bz (s*p) (s*p)]) (bi s p col (i-1)++bx s p x i k++[sY s p x i k])).flatten]) (by
      first
     |(rw[<- st2 (n:=s*p) (-1) 1 om_ om_,dE,cY];rfl)
     |(rw[<- Qp (n:=s*p) (-1) 1 om_ om_ om_,dE,cY];rfl)) ?_
     exact Vb 0 l_ (hn_ [1,2,5,6,10,19,20] U) ⟨trivial,U,U⟩
    obtain⟨_,rfl,rfl⟩:=hI;refine G.freezeArr 0 ((sH (s*p) [(i*p+k,1),((i-1)*p+k, -1)]).map eE) ⟨rfl,(jB _ _)⟩ e_ (by simp[jV]) (fun Cz2 hz2 hsz2=>?_);have htwo:=RowsOk.snoc (r:=Hx s p m i k) hone.m_ hsz2;have hcel2:=eI hone.1 (s_ bz2 (s*p) (s*p)) (Hx s p m i k);refine UN 1 U fun R hR=>UW ag U9<|Vj [[s_ bz2 (s*p:Nat) (s*p:Nat),af (vW x.max)]] U12 fun p77 _ _ hs77=>D.append (j:=1) U11 hs77 U (by simp only[Rf,Q8,maxLen]at hRl⊢;omega) (by simp only[Rf,Q8]at hRl⊢;omega) fl_ fun v78=>C6 1 [1,2,5,6,19,20] hR U<|UQ fun R hR=>UV _ U U6<|C6 1 [1,2,5,6,19,20] hR U<|VC 1 U<|Vc (L':=[.arr v78 140 2 (bi s p col (i-1)++bx s p x i (k+1)).length (aD (vs2++[s_ bz (s*p) (s*p)]++[s_ bz2 (s*p) (s*p)]) (bi s p col (i-1)++bx s p x i (k+1))).flatten]) (by
     rw[bx,hthick,<- RL,show ∀ (l:List RowQ)(a b:RowQ),l++[a,b]=l++[a]++[b] from fun l a b=>by simp,hcel2,hmt];simp[Hx];omega) ?_
    refine U0 (m':=p-(k+1)) om_ mup (hn_ [1,2,5,6,19,20] U) ⟨k+1,_,v78,⟨by omega,by
     rw[bx,hthick,<- RL,show ∀ (l:List RowQ)(a b:RowQ),l++[a,b]=l++[a]++[b] from fun l a b=>by simp];exact htwo.mono mup⟩,U,U,U⟩
   have hm:x.max=none:=by
    rw[qF]at h58;cases hx2:x.max with
   |none=>rfl
   |some q=>rw[hx2]at h58;cases h58
   have hthick:kI s p x i k=[sY s p x i k]:=by unfold kI;rw[hm]
   refine UQ fun R hR=>UV _ U U6<|C6 1 [1,2,5,6,19,20] hR U<|VC 1 U<|Vc (L':=[.arr v52 140 2 (bi s p col (i-1)++bx s p x i (k+1)).length (aD (vs2++[s_ bz (s*p) (s*p)]) (bi s p col (i-1)++bx s p x i (k+1))).flatten]) (by rw[bx,hthick,<- RL];rfl)<|U0 (m':=p-(k+1)) om_ mup (hn_ [1,2,5,6,19,20] U) ⟨k+1,_,v52,⟨by omega,by
    rw[bx,hthick,<- RL];exact hone.mono mup⟩,U,U,U⟩
  have hkp:k=p:=by
   have:¬ k<p:=by simpa using h21
   omega
  have hfull:bi s p col (i-1)++bx s p x i k=bi s p col i:=by
   obtain⟨j,rfl⟩:∃ j,i=j+1:=⟨i-1,by omega⟩;rw[hkp,Ts,bi,Mj hx]
  refine UN 1 U fun R hR=>UV _ U U6<|C6 1 [1,2,5,6] hR U<|Vc (L':=[.arr w2 140 2 (bi s p col (i+1-1)).length (aD vs2 (bi s p col (i+1-1))).flatten]) (by rw[hfull];rfl)<|U0 (m':=col.length-(i+1)) om_ mup (hn_ [1,2,5,6] U) ⟨i+1,vs2,w2,⟨by omega,.inl om_,by rw[Ts,<- hfull];exact hrow2⟩,U,U,U⟩
 have hil:i-1=col.length-2:=by
  have:=Rc h15;omega
 refine UM 2 [4] U ?_;rw[hil]at hrows⊢;exact G.freezeArr 0 (aD vs (bi s p col (col.length-2))) U2 (bN _ _) (bk hrows.1) fun Cg hg hsl3=>UT U2<|⟨U,vs,hrows.mono mup,hsl3⟩
theorem km {l:List (Nat × Rat)}(q:Rat)(h:k ∉ l.map (·.1)):iT (eO l) ((k:Nat):Int) (af (qtx q))=eO (l++[(k,q)]):=by
 rw[kb (by
  rw[cC];unfold eO;rw[R8];intro hm;obtain⟨x,hx,he⟩:=Ra.1 hm;have:x.1=k:=by
   have h2:((x.1:Nat):Int)=(k:Int):=he;omega
  exact h (this ▸ Tl (f:=(·.1)) hx))]
 simp[eO]
theorem rM (a c:Pt):dK a a c=0/\dK c a a=0/\dK a c a=0:=by
 unfold dK;refine⟨?_, ?_, ?_⟩ <;> grind
theorem ui {pts:List Pt}{tris:List Tri}(hM:MeshOk pts tris)(ht:t∈tris):t.1≠t.2.1/\t.1≠t.2.2/\t.2.1≠t.2.2:=by
 have h:=kh hM ht;refine⟨fun e=>h ?_,fun e=>h ?_,fun e=>h ?_⟩
 ·have:cor pts t 1=cor pts t 0:=by show pts.getD t.2.1 _=pts.getD t.1 _;rw[e]
  rw[this];exact(rM _ _).1
 ·have:cor pts t 2=cor pts t 0:=by show pts.getD t.2.2 _=pts.getD t.1 _;rw[e]
  rw[this];exact(rM _ _).2.2
 have:cor pts t 2=cor pts t 1:=by show pts.getD t.2.2 _=pts.getD t.2.1 _;rw[e]
 rw[this];exact(rM _ _).2.1
def atT (t:Tri)(f:Nat->Rat):List (Nat × Rat):=[(t.1,f 0),(t.2.1,f 1),(t.2.2,f 2)]
theorem rJ (f:Nat->Rat)(h:t.1≠t.2.1/\t.1≠t.2.2/\t.2.1≠t.2.2):((atT t f).map (·.1)).Nodup:=by
 simp[atT,h.1,h.2.1,h.2.2]
theorem EP (C:Mem)(hT:Tabs C)(mv:Value)(pts:List Pt)(tris:List Tri)(p:Pt)(i:Nat)(r:List Nat)(t:Tri)(hm:MeshIn C mv pts tris)(hG:Good pts tris)(hq:QP 23 p)(hr:PtR p)(hl:lf pts tris p=i::r)(ht:tris[i]?=some t)(hw:∀ j,QB 22 (wgt pts t p j)) :
  Pur cx.P 242 [mv,ptV p] C fun u D=>∃ b,u=.tuple #[.map (some b),i_ (i:Nat),i_ 0]/\D b=some (aY keyZ.enc (eO (atT t (wgt pts t p)))):=by
 have hM:=hG.ok;have hm0:=hm;have hil:=(aT.1 ht).1;obtain⟨hd1,hd2,hd3⟩:=ui hM (aM ht);obtain⟨v1,v2,rfl,h1,h2⟩:=id hm.ex;obtain⟨A2,c2,rfl,hq3,hq4,_⟩:=id h2;have hmx:=mx_
 simp only[au]at h2 hm0 hq3⊢;refine UU func242 54 U3 fun w0=>UQ fun R hR=>Vd U6 fun b2=>Vd U6 fun b3=>C6 3 [2,3] hR U<|G.freeze 1 U fun _ _ hb2=>G.freeze 0 U fun _ _ hb3=>UQ fun R hR=>UO (bkT hb2 2) U8<|UO (bkT hb3 2) U8<|Vu (ml _ hT.m_ _ pts tris p hm0.m_ hG hq hr) U7 (fun v14 _ _ hq14=>?_);obtain⟨wv,rfl,hwv⟩:=hq14;rw[hl]at hwv;obtain⟨Aw,cw,hwe,_⟩:=id hwv;rw[au]at hwe;subst hwe;refine C6 5 [2,3,6,7] hR U<|UM 2 [2,3,6,7,18] U<|G.cd (fun h18=>?_) fun h18=>?_
 ·exact absurd h18 dc_
 refine Vg [0,1,2,3,4,5,6,7,8,9,10,11] [(5,1)] U kr_ fun R hB hR=>UO (bkT hb2 2) U8<|UP U6<|Va hwv.m_ U10 om_ (rfl:(List.map aW (i::r))[0]?=some (aW i)) fl_ fun p23 hp23=>UO hp23 U8<|UO (bkT hb3 2) U8<|Vv (fun _=>(wR _ hT.m_ _ pts tris p i t hm0.m_ hG hq hr ht hw)) U9<|UR 3 U<|Ve U5 fun b8=>UX (j:=0) U12<|C6 1 [2,6,7,8] hR U<|UM 2 [2,6,7,8,30] U<|G.cd (fun h30=>?_) fun h30=>?_
 ·exact absurd h30 dc_
 refine G.freeze 0 U fun _ _ hb8=>UQ fun R hR=>D.makeMap keyZ U U U U fl_ fun b32=>C6 1 [2,4,7,8] hR U<|Vg [0,1,2,3,4,5,6,7] [] U kr_ fun R hB hR=>UP U6<|UO (bkT hb2 1) U8<|UP U6<|Va hwv.m_ U10 om_ (rfl:(List.map aW (i::r))[0]?=some (aW i)) fl_ fun p36 hp36=>UO hp36 U8<|Va h2.m_ U10 om_ (cA ht) fl_ fun p38 hp38=>UO hp38 U8<|C6 1 [4,7,8,39,40] hR U<|G.loop (fun fr C' L' μ=>∃ (j:Nat),(j<=3)/\fr=[(4,[],.map (some b32)),(7,[],.slice Aw (i::r).length cw),(8,[],p_ b8),(39,[],.agg ⟨iF t⟩),(40,[],i_ j)]/\L'=[.obj b32 (aY keyZ.enc (eO ((atT t (wgt pts t p)).take j)))]/\μ=3-j) (hn_ [4,7,8,39,40] U) ⟨0,Re _,U,U,U⟩ (fun fr C0' L0' m hle0 hI=>?_);obtain⟨j,hj,rfl,rfl,rfl⟩:=hI;refine UM 1 [4,7,8,39,40,41] U<|G.cd (fun h41=>?_) fun h41=>?_
 ·have hjl:j<3:=by
   simp only[Rj]at h41;omega
  rcases(by omega:j=0∨j=1∨j=2) with rfl|rfl|rfl
  ·refine UN 1 U fun R hR=>VO U11 k_ U2<|C6 2 [4,7,8,9,10,39,40] hR U<|UN 3 U fun R hR=>Vi (_) U9 k_ U2<|UO (bkT hb8 1) U8<|D.mapUpdate keyZ (j:=0) U U U U U U U U U U kr_<|US [4,7,8,39,40] hR U<|UQ fun R hR=>UV _ U U6<|C6 1 [4,7,8,39,40] hR U<|Vc (L':=[.obj b32 (aY keyZ.enc (eO ((atT t (wgt pts t p)).take 1)))]) (congrArg (fun m=>[Ent.obj b32 (aY keyZ.enc m)]) (km (l:=[]) _ ak))<|U0 (m':=2) om_ hle0 (hn_ [4,7,8,39,40] U) ⟨1,by decide,U,U,U⟩
  ·refine UN 1 U fun R hR=>VO U11 k_ U2<|C6 2 [4,7,8,9,10,39,40] hR U<|UN 3 U fun R hR=>Vi (_) U9 k_ U2<|UO (bkT hb8 1) U8<|D.mapUpdate keyZ (j:=0) U U U U U U U U U U kr_<|US [4,7,8,39,40] hR U<|UQ fun R hR=>UV _ U U6<|C6 1 [4,7,8,39,40] hR U<|Vc (L':=[.obj b32 (aY keyZ.enc (eO ((atT t (wgt pts t p)).take 2)))]) (congrArg (fun m=>[Ent.obj b32 (aY keyZ.enc m)]) (km (l:=[(t.1,wgt pts t p 0)]) _ (by simpa using hd1.symm)))<|U0 (m':=1) om_ hle0 (hn_ [4,7,8,39,40] U) ⟨2,by decide,U,U,U⟩
  refine UN 1 U fun R hR=>VO U11 k_ U2<|C6 2 [4,7,8,9,10,39,40] hR U<|UN 3 U fun R hR=>Vi (_) U9 k_ U2<|UO (bkT hb8 1) U8<|D.mapUpdate keyZ (j:=0) U U U U U U U U U U kr_<|US [4,7,8,39,40] hR U<|UQ fun R hR=>UV _ U U6<|C6 1 [4,7,8,39,40] hR U<|Vc (L':=[.obj b32 (aY keyZ.enc (eO ((atT t (wgt pts t p)).take 3)))]) (congrArg (fun m=>[Ent.obj b32 (aY keyZ.enc m)]) (km (l:=[(t.1,wgt pts t p 0),(t.2.1,wgt pts t p 1)]) _ (by simp[hd2.symm,hd3.symm])))<|U0 (m':=0) om_ hle0 (hn_ [4,7,8,39,40] U) ⟨3,by decide,U,U,U⟩
 have hjl:j=3:=by
  simp only[RJ]at h41;omega
 subst hjl;refine G.freeze 0 U fun Cm hlem hbm=>Vg [0,1,2,3,4,5,6] [] U kr_ fun R hB hR=>UR 2 U<|Va hwv.m_ U10 om_ (rfl:(List.map aW (i::r))[0]?=some (aW i)) fl_ fun p52 hp52=>UO hp52 U8<|C6 3 [4,5,6] hR U<|U1 (G.dropAll (VG U4 ?_));exact⟨U,b32,U,hbm⟩
theorem dy (t:Tri)(f:Nat->Rat)(j:Nat)(hj:j<3)(h:t.1≠t.2.1/\t.1≠t.2.2/\t.2.1≠t.2.2):iT (eO ((atT t f).take j)) ((ie t j:Nat):Int) (af (qtx (f j)))=eO ((atT t f).take (j+1)):=by
 rcases(by omega:j=0∨j=1∨j=2) with rfl|rfl|rfl
 ·exact km (l:=[]) _ ak
 ·exact km (l:=[(t.1,f 0)]) (k:=t.2.1) _ (by simpa using h.1.symm)
 exact km (l:=[(t.1,f 0),(t.2.1,f 1)]) (k:=t.2.2) _ (by simp[h.2.1.symm,h.2.2.symm])
def oA (n k:Nat):List Rat:=sH n [(k,1)]
def slf (pts:List Pt)(t:Tri)(j:Nat):Pt:=dT pts (oA pts.length (ie t j)) t
theorem gG (n k:Nat):(oA n k).length=n:=jV n _
theorem BA :∀ q∈oA n k,q=0∨q=1:=by
 intro q hq;unfold oA sH at hq;obtain⟨j,_,rfl⟩:=Ra.1 hq;simp only[dZ];split
 ·exact .inr U
 exact .inl U
theorem jN :∀ q∈oA n k,QB 1 q:=by
 intro q hq;rcases BA q hq with rfl|rfl
 ·exact QB_zero
 exact QB_one
theorem EL (C:Mem)(hT:Tabs C)(mv:Value)(pts:List Pt)(tris:List Tri)(i:Nat)(t:Tri)(hm:MeshIn C mv pts tris)(hG:Good pts tris)(ht:tris[i]?=some t)(hw:∀ j,QP 22 (slf pts t j)) :
  Pur cx.P 248 [mv,i_ i] C fun u D=>∃ be bn,u=.tuple #[.map (some be),.map (some bn),i_ 0]/\D be=some (aY keyZ.enc (eO (atT t fun j=>(slf pts t j).1)))/\D bn=some (aY keyZ.enc (eO (atT t fun j=>(slf pts t j).2))):=by
 have hM:=hG.ok;have hm0:=hm;have hlp:=hM.lp;have hti:=hM.ins t (aM ht);obtain⟨hti1,hti2,hti3⟩:=id hti;have hil:=(aT.1 ht).1;obtain⟨hd1,hd2,hd3⟩:=ui hM (aM ht);obtain⟨v1,v2,rfl,h1,h2⟩:=id hm.ex;obtain⟨A1,c1,rfl,hq1,hq2,_⟩:=id h1;obtain⟨A2,c2,rfl,hq3,hq4,_⟩:=id h2;have hmx:=mx_
 simp only[au]at h1 h2 hm0 hq3⊢;refine UU func248 51 U3 fun w0=>UQ fun R hR=>Vd U6 fun b2=>C6 3 [1,2] hR U<|G.freeze 0 U fun _ _ hb2=>UQ fun R hR=>D.makeMap keyZ U U U U fl_ fun b12=>D.makeMap keyZ U U U U fl_ fun b13=>C6 2 [1,2,4,5] hR U<|UN 1 U fun R hR=>UO (bkT hb2 1) U8<|UP U6<|Va h2.m_ U10 om_ (cA ht) fl_ fun p17 hp17=>UO hp17 U8<|C6 1 [1,2,4,5,18,19] hR U<|G.perm (L':=[.obj b12 (aY keyZ.enc (eO [])),.obj b13 (aY keyZ.enc (eO []))]) (List.Perm.swap _ _ _)<|G.loop (fun fr C' L' μ=>∃ (j:Nat),(j<=3)/\fr=[(1,[],i_ i),(2,[],p_ b2),(4,[],.map (some b12)),(5,[],.map (some b13)),(18,[],.agg ⟨iF t⟩),(19,[],i_ j)]/\L'=[.obj b12 (aY keyZ.enc (eO ((atT t fun j=>(slf pts t j).1).take j))),.obj b13 (aY keyZ.enc (eO ((atT t fun j=>(slf pts t j).2).take j)))]/\μ=3-j) (hn_ [1,2,4,5,18,19] U) ⟨0,Re _,U,U,U⟩ (fun fr C0' L0' m _ hI=>?_);obtain⟨j,hj,rfl,rfl,rfl⟩:=hI;refine UM 1 [1,2,4,5,18,19,20] U<|G.cd (fun h20=>?_) fun h20=>?_
 ·have hjl:j<3:=by
   simp only[Rj]at h20;omega
  rcases(by omega:j=0∨j=1∨j=2) with rfl|rfl|rfl
  ·refine UQ fun R hR=>VO U11 k_ U2<|C6 1 [1,2,4,5,8,18,19] hR U<|Vl [(4,3)] U fun R hR=>Vj [[af [48]]] U12 fun p22 C22 _ hs22=>UP U6<|UO (bkT hb2 1) U8<|UP U6<|D.call (nC _ _ pts.length [48] hs22.m_ om_) U (.inr dc_) U6 (Rh _) fl_ fun v26 C26 L26 _ hq26=>C6 1 [1,2,4,5,8,9,18,19] hR U ?_;obtain⟨bz,rfl,rfl⟩:=hq26;have hkp:ie t 0<pts.length:=eS hti 0;refine Vc (L':=[.arr (s_ bz pts.length pts.length) 32 1 pts.length (lH pts.length []),.obj b12 (aY keyZ.enc (eO ((atT t fun j=>(slf pts t j).1).take 0))),.obj b13 (aY keyZ.enc (eO ((atT t fun j=>(slf pts t j).2).take 0)))]) (by rw[mI];rfl)<|UN 2 U fun R hR=>Vp ((ie t 0)) U10 v_ U2<|Vr (j:=0) U11 (by rw[mJ];simp;omega)<|US [1,2,4,5,8,9,18,19] hR U<|Vc (L':=[.arr (s_ bz pts.length pts.length) 32 1 pts.length (lH pts.length [(ie t 0,1)]),.obj b12 (aY keyZ.enc (eO ((atT t fun j=>(slf pts t j).1).take 0))),.obj b13 (aY keyZ.enc (eO ((atT t fun j=>(slf pts t j).2).take 0)))]) (by rw[<- fH [] 1 hkp,dE];rfl)<|G.freezeArr 0 ((oA pts.length (ie t 0)).map eE) ⟨rfl,(jB _ _)⟩ e_ (by rw[au,gG]) fun Cz hz hsz=>UQ fun R hR=>UO (bkT hb2 2) U8<|UR 2 U<|UY (uq _ hT.m_ _ _ pts tris (oA pts.length (ie t 0)) 1 dc_ dc_ hm0.m_ hG hsz.m_ (gG _ _) jN (fun q hq=>bA ((jN q hq).le dc_)) i t ht (hw 0)) U7 fl_<|UR 3 U<|Ve U5 fun b10=>UX (j:=0) U12<|C6 1 [1,2,4,5,8,10,11,18,19] hR U<|UM 2 [1,2,4,5,8,10,11,18,19,38] U<|G.cd (fun h38=>?_) fun h38=>?_
   ·exact absurd h38 dc_
   refine G.freeze 0 U fun C10 _ hb10=>G.cut (fun fr C' L' μ=>(True)/\fr=[(1,[],i_ i),(2,[],p_ b2),(4,[],.map (some b12)),(5,[],.map (some b13)),(18,[],.agg ⟨iF t⟩),(19,[],i_ ((0:Nat):Int))]/\L'=[.obj b12 (aY keyZ.enc (eO ((atT t fun j=>(slf pts t j).1).take (0+1)))),.obj b13 (aY keyZ.enc (eO ((atT t fun j=>(slf pts t j).2).take (0+1))))]) ?_ (fun fr Cr10 Lr10 μ hler10 hI=>?_)
   ·refine VJ (.cut [0,1,2,3,4,5,6] (.alt 7 (.fin [8,9]) (.alt 8 (.fin [7,9]) .stop))) [] U U kr_ fun R hB hR hH=>UR 5 U<|UO (bkT hb10 1) U8<|UP U6<|Vw hH U ⟨?_, ?_,trivial⟩
    ·refine UO (bkT hb10 1) U8 ?_
     first|refine D.mapUpdate keyZ (j:=0) rfl rfl rfl rfl rfl rfl rfl rfl rfl rfl kr_ ?_|refine D.mapUpdate keyZ (j:=1) rfl rfl rfl rfl rfl rfl rfl rfl rfl rfl kr_ ?_
     first|refine D.mapUpdate keyZ (j:=1) rfl rfl rfl rfl rfl rfl rfl rfl rfl rfl kr_ ?_|refine D.mapUpdate keyZ (j:=0) rfl rfl rfl rfl rfl rfl rfl rfl rfl rfl kr_ ?_
     refine US [1,2,4,5,18,19] hR U<|G.perm (L':=[.obj b12 (aY keyZ.enc (eO ((atT t fun j=>(slf pts t j).1).take (0+1)))),.obj b13 (aY keyZ.enc (eO ((atT t fun j=>(slf pts t j).2).take (0+1))))]) (by
      rw[<- dy t (fun j=>(slf pts t j).1) 0 dc_ ⟨hd1,hd2,hd3⟩,<- dy t (fun j=>(slf pts t j).2) 0 dc_ ⟨hd1,hd2,hd3⟩]
      first|exact Rh _|exact List.Perm.swap _ _ _) ?_
     exact Vb 0 l_ (hn_ [1,2,4,5,18,19] U) ⟨trivial,U,U⟩
    first|refine D.mapUpdate keyZ (j:=0) rfl rfl rfl rfl rfl rfl rfl rfl rfl rfl kr_ ?_|refine D.mapUpdate keyZ (j:=1) rfl rfl rfl rfl rfl rfl rfl rfl rfl rfl kr_ ?_
    refine UO (bkT hb10 1) U8 ?_
    first|refine D.mapUpdate keyZ (j:=1) rfl rfl rfl rfl rfl rfl rfl rfl rfl rfl kr_ ?_|refine D.mapUpdate keyZ (j:=0) rfl rfl rfl rfl rfl rfl rfl rfl rfl rfl kr_ ?_
    refine US [1,2,4,5,18,19] hR U<|G.perm (L':=[.obj b12 (aY keyZ.enc (eO ((atT t fun j=>(slf pts t j).1).take (0+1)))),.obj b13 (aY keyZ.enc (eO ((atT t fun j=>(slf pts t j).2).take (0+1))))]) (by
     rw[<- dy t (fun j=>(slf pts t j).1) 0 dc_ ⟨hd1,hd2,hd3⟩,<- dy t (fun j=>(slf pts t j).2) 0 dc_ ⟨hd1,hd2,hd3⟩]
     first|exact Rh _|exact List.Perm.swap _ _ _) ?_
    exact Vb 0 l_ (hn_ [1,2,4,5,18,19] U) ⟨trivial,U,U⟩
   obtain⟨_,rfl,rfl⟩:=hI;refine UQ fun R hR=>UV _ U U6<|C6 1 [1,2,4,5,18,19] hR U<|U0 (m':=2) om_ mup (hn_ [1,2,4,5,18,19] U) ⟨1,by decide,U,U,U⟩
  ·refine UQ fun R hR=>VO U11 k_ U2<|C6 1 [1,2,4,5,8,18,19] hR U<|Vl [(4,3)] U fun R hR=>Vj [[af [48]]] U12 fun p22 C22 _ hs22=>UP U6<|UO (bkT hb2 1) U8<|UP U6<|D.call (nC _ _ pts.length [48] hs22.m_ om_) U (.inr dc_) U6 (Rh _) fl_ fun v26 C26 L26 _ hq26=>C6 1 [1,2,4,5,8,9,18,19] hR U ?_;obtain⟨bz,rfl,rfl⟩:=hq26;have hkp:ie t 1<pts.length:=eS hti 1;refine Vc (L':=[.arr (s_ bz pts.length pts.length) 32 1 pts.length (lH pts.length []),.obj b12 (aY keyZ.enc (eO ((atT t fun j=>(slf pts t j).1).take 1))),.obj b13 (aY keyZ.enc (eO ((atT t fun j=>(slf pts t j).2).take 1)))]) (by rw[mI];rfl)<|UN 2 U fun R hR=>Vp ((ie t 1)) U10 v_ U2<|Vr (j:=0) U11 (by rw[mJ];simp;omega)<|US [1,2,4,5,8,9,18,19] hR U<|Vc (L':=[.arr (s_ bz pts.length pts.length) 32 1 pts.length (lH pts.length [(ie t 1,1)]),.obj b12 (aY keyZ.enc (eO ((atT t fun j=>(slf pts t j).1).take 1))),.obj b13 (aY keyZ.enc (eO ((atT t fun j=>(slf pts t j).2).take 1)))]) (by rw[<- fH [] 1 hkp,dE];rfl)<|G.freezeArr 0 ((oA pts.length (ie t 1)).map eE) ⟨rfl,(jB _ _)⟩ e_ (by rw[au,gG]) fun Cz hz hsz=>UQ fun R hR=>UO (bkT hb2 2) U8<|UR 2 U<|UY (uq _ hT.m_ _ _ pts tris (oA pts.length (ie t 1)) 1 dc_ dc_ hm0.m_ hG hsz.m_ (gG _ _) jN (fun q hq=>bA ((jN q hq).le dc_)) i t ht (hw 1)) U7 fl_<|UR 3 U<|Ve U5 fun b10=>UX (j:=0) U12<|C6 1 [1,2,4,5,8,10,11,18,19] hR U<|UM 2 [1,2,4,5,8,10,11,18,19,38] U<|G.cd (fun h38b=>?_) fun h38b=>?_
   ·exact absurd h38b dc_
   refine G.freeze 0 U fun C10 _ hb10=>G.cut (fun fr C' L' μ=>(True)/\fr=[(1,[],i_ i),(2,[],p_ b2),(4,[],.map (some b12)),(5,[],.map (some b13)),(18,[],.agg ⟨iF t⟩),(19,[],i_ ((1:Nat):Int))]/\L'=[.obj b12 (aY keyZ.enc (eO ((atT t fun j=>(slf pts t j).1).take (1+1)))),.obj b13 (aY keyZ.enc (eO ((atT t fun j=>(slf pts t j).2).take (1+1))))]) ?_ (fun fr Cr10b Lr10b μ hler10b hI=>?_)
   ·refine VJ (.cut [0,1,2,3,4,5,6] (.alt 7 (.fin [8,9]) (.alt 8 (.fin [7,9]) .stop))) [] U U kr_ fun R hB hR hH=>UR 5 U<|UO (bkT hb10 1) U8<|UP U6<|Vw hH U ⟨?_, ?_,trivial⟩
    ·refine UO (bkT hb10 1) U8 ?_
     first|refine D.mapUpdate keyZ (j:=0) rfl rfl rfl rfl rfl rfl rfl rfl rfl rfl kr_ ?_|refine D.mapUpdate keyZ (j:=1) rfl rfl rfl rfl rfl rfl rfl rfl rfl rfl kr_ ?_
     first|refine D.mapUpdate keyZ (j:=1) rfl rfl rfl rfl rfl rfl rfl rfl rfl rfl kr_ ?_|refine D.mapUpdate keyZ (j:=0) rfl rfl rfl rfl rfl rfl rfl rfl rfl rfl kr_ ?_
     refine US [1,2,4,5,18,19] hR U<|G.perm (L':=[.obj b12 (aY keyZ.enc (eO ((atT t fun j=>(slf pts t j).1).take (1+1)))),.obj b13 (aY keyZ.enc (eO ((atT t fun j=>(slf pts t j).2).take (1+1))))]) (by
      rw[<- dy t (fun j=>(slf pts t j).1) 1 dc_ ⟨hd1,hd2,hd3⟩,<- dy t (fun j=>(slf pts t j).2) 1 dc_ ⟨hd1,hd2,hd3⟩]
      first|exact Rh _|exact List.Perm.swap _ _ _) ?_
     exact Vb 0 l_ (hn_ [1,2,4,5,18,19] U) ⟨trivial,U,U⟩
    first|refine D.mapUpdate keyZ (j:=0) rfl rfl rfl rfl rfl rfl rfl rfl rfl rfl kr_ ?_|refine D.mapUpdate keyZ (j:=1) rfl rfl rfl rfl rfl rfl rfl rfl rfl rfl kr_ ?_
    refine UO (bkT hb10 1) U8 ?_
    first|refine D.mapUpdate keyZ (j:=1) rfl rfl rfl rfl rfl rfl rfl rfl rfl rfl kr_ ?_|refine D.mapUpdate keyZ (j:=0) rfl rfl rfl rfl rfl rfl rfl rfl rfl rfl kr_ ?_
    refine US [1,2,4,5,18,19] hR U<|G.perm (L':=[.obj b12 (aY keyZ.enc (eO ((atT t fun j=>(slf pts t j).1).take (1+1)))),.obj b13 (aY keyZ.enc (eO ((atT t fun j=>(slf pts t j).2).take (1+1))))]) (by
     rw[<- dy t (fun j=>(slf pts t j).1) 1 dc_ ⟨hd1,hd2,hd3⟩,<- dy t (fun j=>(slf pts t j).2) 1 dc_ ⟨hd1,hd2,hd3⟩]
     first|exact Rh _|exact List.Perm.swap _ _ _) ?_
    exact Vb 0 l_ (hn_ [1,2,4,5,18,19] U) ⟨trivial,U,U⟩
   obtain⟨_,rfl,rfl⟩:=hI;refine UQ fun R hR=>UV _ U U6<|C6 1 [1,2,4,5,18,19] hR U<|U0 (m':=1) om_ mup (hn_ [1,2,4,5,18,19] U) ⟨2,by decide,U,U,U⟩
  refine UQ fun R hR=>VO U11 k_ U2<|C6 1 [1,2,4,5,8,18,19] hR U<|Vl [(4,3)] U fun R hR=>Vj [[af [48]]] U12 fun p22 C22 _ hs22=>UP U6<|UO (bkT hb2 1) U8<|UP U6<|D.call (nC _ _ pts.length [48] hs22.m_ om_) U (.inr dc_) U6 (Rh _) fl_ fun v26 C26 L26 _ hq26=>C6 1 [1,2,4,5,8,9,18,19] hR U ?_;obtain⟨bz,rfl,rfl⟩:=hq26;have hkp:ie t 2<pts.length:=eS hti 2;refine Vc (L':=[.arr (s_ bz pts.length pts.length) 32 1 pts.length (lH pts.length []),.obj b12 (aY keyZ.enc (eO ((atT t fun j=>(slf pts t j).1).take 2))),.obj b13 (aY keyZ.enc (eO ((atT t fun j=>(slf pts t j).2).take 2)))]) (by rw[mI];rfl)<|UN 2 U fun R hR=>Vp ((ie t 2)) U10 v_ U2<|Vr (j:=0) U11 (by rw[mJ];simp;omega)<|US [1,2,4,5,8,9,18,19] hR U<|Vc (L':=[.arr (s_ bz pts.length pts.length) 32 1 pts.length (lH pts.length [(ie t 2,1)]),.obj b12 (aY keyZ.enc (eO ((atT t fun j=>(slf pts t j).1).take 2))),.obj b13 (aY keyZ.enc (eO ((atT t fun j=>(slf pts t j).2).take 2)))]) (by rw[<- fH [] 1 hkp,dE];rfl)<|G.freezeArr 0 ((oA pts.length (ie t 2)).map eE) ⟨rfl,(jB _ _)⟩ e_ (by rw[au,gG]) fun Cz hz hsz=>UQ fun R hR=>UO (bkT hb2 2) U8<|UR 2 U<|UY (uq _ hT.m_ _ _ pts tris (oA pts.length (ie t 2)) 1 dc_ dc_ hm0.m_ hG hsz.m_ (gG _ _) jN (fun q hq=>bA ((jN q hq).le dc_)) i t ht (hw 2)) U7 fl_<|UR 3 U<|Ve U5 fun b10=>UX (j:=0) U12<|C6 1 [1,2,4,5,8,10,11,18,19] hR U<|UM 2 [1,2,4,5,8,10,11,18,19,38] U<|G.cd (fun h38c=>?_) fun h38c=>?_
  ·exact absurd h38c dc_
  refine G.freeze 0 U fun C10 _ hb10=>G.cut (fun fr C' L' μ=>(True)/\fr=[(1,[],i_ i),(2,[],p_ b2),(4,[],.map (some b12)),(5,[],.map (some b13)),(18,[],.agg ⟨iF t⟩),(19,[],i_ ((2:Nat):Int))]/\L'=[.obj b12 (aY keyZ.enc (eO ((atT t fun j=>(slf pts t j).1).take (2+1)))),.obj b13 (aY keyZ.enc (eO ((atT t fun j=>(slf pts t j).2).take (2+1))))]) ?_ (fun fr Cr10c Lr10c μ hler10c hI=>?_)
  ·refine VJ (.cut [0,1,2,3,4,5,6] (.alt 7 (.fin [8,9]) (.alt 8 (.fin [7,9]) .stop))) [] U U kr_ fun R hB hR hH=>UR 5 U<|UO (bkT hb10 1) U8<|UP U6<|Vw hH U ⟨?_, ?_,trivial⟩
   ·refine UO (bkT hb10 1) U8 ?_
    first|refine D.mapUpdate keyZ (j:=0) rfl rfl rfl rfl rfl rfl rfl rfl rfl rfl kr_ ?_|refine D.mapUpdate keyZ (j:=1) rfl rfl rfl rfl rfl rfl rfl rfl rfl rfl kr_ ?_
    first|refine D.mapUpdate keyZ (j:=1) rfl rfl rfl rfl rfl rfl rfl rfl rfl rfl kr_ ?_|refine D.mapUpdate keyZ (j:=0) rfl rfl rfl rfl rfl rfl rfl rfl rfl rfl kr_ ?_
    refine US [1,2,4,5,18,19] hR U<|G.perm (L':=[.obj b12 (aY keyZ.enc (eO ((atT t fun j=>(slf pts t j).1).take (2+1)))),.obj b13 (aY keyZ.enc (eO ((atT t fun j=>(slf pts t j).2).take (2+1))))]) (by
     rw[<- dy t (fun j=>(slf pts t j).1) 2 dc_ ⟨hd1,hd2,hd3⟩,<- dy t (fun j=>(slf pts t j).2) 2 dc_ ⟨hd1,hd2,hd3⟩]
     first|exact Rh _|exact List.Perm.swap _ _ _) ?_
    exact Vb 0 l_ (hn_ [1,2,4,5,18,19] U) ⟨trivial,U,U⟩
   first|refine D.mapUpdate keyZ (j:=0) rfl rfl rfl rfl rfl rfl rfl rfl rfl rfl kr_ ?_|refine D.mapUpdate keyZ (j:=1) rfl rfl rfl rfl rfl rfl rfl rfl rfl rfl kr_ ?_
   refine UO (bkT hb10 1) U8 ?_
   first|refine D.mapUpdate keyZ (j:=1) rfl rfl rfl rfl rfl rfl rfl rfl rfl rfl kr_ ?_|refine D.mapUpdate keyZ (j:=0) rfl rfl rfl rfl rfl rfl rfl rfl rfl rfl kr_ ?_
   refine US [1,2,4,5,18,19] hR U<|G.perm (L':=[.obj b12 (aY keyZ.enc (eO ((atT t fun j=>(slf pts t j).1).take (2+1)))),.obj b13 (aY keyZ.enc (eO ((atT t fun j=>(slf pts t j).2).take (2+1))))]) (by
    rw[<- dy t (fun j=>(slf pts t j).1) 2 dc_ ⟨hd1,hd2,hd3⟩,<- dy t (fun j=>(slf pts t j).2) 2 dc_ ⟨hd1,hd2,hd3⟩]
    first|exact Rh _|exact List.Perm.swap _ _ _) ?_
   exact Vb 0 l_ (hn_ [1,2,4,5,18,19] U) ⟨trivial,U,U⟩
  obtain⟨_,rfl,rfl⟩:=hI;refine UQ fun R hR=>UV _ U U6<|C6 1 [1,2,4,5,18,19] hR U<|U0 (m':=0) om_ mup (hn_ [1,2,4,5,18,19] U) ⟨3,by decide,U,U,U⟩
 have hjl:j=3:=by
  simp only[RJ]at h20;omega
 subst hjl;refine G.freeze 0 U fun Cm hlem hbm=>G.freeze 0 U fun Cn hlen hbn=>UM 5 [4,5,6] U<|U1 (G.dropAll (VG U4 ?_));exact⟨U,b12,b13,U,Mem.get hbm mup,hbn⟩
theorem rE (C:Mem)(v:Value)(l:List Rat)(hv:Sl C 1 v (l.map eE))(hl:l.length<=1000000):Jog.Fn cx.P 50 [v] C [] fun u _C' L'=>∃ A n c,u=.slice A n c/\L'=[.arr (.slice A n c) 32 1 l.length (l.map eE).flatten]:=by
 obtain⟨A0,c0,rfl,hc1,hc2,hc3,hc4⟩:=id hv;have hmx:=mx_
 simp only[au]at hv hc1⊢;refine UU func50 8 U3 fun w0=>UM 1 [0] U<|UN 1 U fun R hR=>Wd U9<|US [0,4] hR U<|G.cd (fun h4=>?_) fun h4=>?_
 ·have hA:A0=none:=by
   cases A0 with
  |none=>rfl
  |some a=>cases h4
  have hnil:l=[]:=by
   cases l with
  |nil=>rfl
  |cons q r =>
    obtain⟨a,ha,_⟩:=hc4 0 (eE q) rfl;rw[hA]at ha;cases ha
  refine UM 1 [2] U<|G.nilArr 32 1<|U1 (Vx U U ?_);exact⟨none,0,0,U,by rw[hnil];rfl⟩
 refine UQ fun R hR=>VV [] U12 fl_ fun b5=>UP U6<|Vs (j:=0) U11 hv.m_ (by simp[eE,lF,af]) (by simp only[au,RQ,maxLen];omega) (by simp only[au,RQ];omega) fl_ fun A7 n7 c7=>C6 1 [2] hR U<|Vc (L':=[.arr (.slice A7 n7 c7) 32 1 l.length (l.map eE).flatten]) ak<|U1 (Vx U U ?_);exact⟨A7,n7,c7,U,U⟩
theorem Ii (C:Mem)(v:Value)(l:List Rat)(hv:Sl C 1 v (l.map eE))(hl:l.length<=1000000):Jog.Fn cx.P 48 [v] C [] fun u _C' L'=>∃ A n c,u=.slice A n c/\L'=[.arr (.slice A n c) 32 1 l.length (l.map eE).flatten]:=by
 obtain⟨A0,c0,rfl,hc1,hc2,hc3,hc4⟩:=id hv;have hmx:=mx_
 simp only[au]at hv hc1⊢;refine UU func48 8 U3 fun w0=>UM 1 [0] U<|UN 1 U fun R hR=>Wd U9<|US [0,4] hR U<|G.cd (fun h4=>?_) fun h4=>?_
 ·have hA:A0=none:=by
   cases A0 with
  |none=>rfl
  |some a=>cases h4
  have hnil:l=[]:=by
   cases l with
  |nil=>rfl
  |cons q r =>
    obtain⟨a,ha,_⟩:=hc4 0 (eE q) rfl;rw[hA]at ha;cases ha
  refine UM 1 [2] U<|G.nilArr 32 1<|U1 (Vx U U ?_);exact⟨none,0,0,U,by rw[hnil];rfl⟩
 refine UQ fun R hR=>VV [] U12 fl_ fun b5=>UP U6<|Vs (j:=0) U11 hv.m_ (by simp[eE,lF,af]) (by simp only[au,RQ,maxLen];omega) (by simp only[au,RQ];omega) fl_ fun A7 n7 c7=>C6 1 [2] hR U<|Vc (L':=[.arr (.slice A7 n7 c7) 32 1 l.length (l.map eE).flatten]) ak<|U1 (Vx U U ?_);exact⟨A7,n7,c7,U,U⟩
def OW (r:RowQ):Prop:=(∀ q∈r.f,QB 22 q)/\QB 22 r.b
theorem ij {rows:List RowQ}{w:Value}{r:RowQ}(h1:vs[i]?=some w)(h2:rows[i]?=some r):(aD vs rows)[i]?=some [w,af (qtx r.b)]:=by
 unfold aD;rw[List.getElem?_zipWith,h1,h2]
theorem ET (C:Mem)(hT:Tabs C)(v:Value)(rows:List RowQ)(hv:RowsIn C v rows)(hr:∀ r∈rows,OW r)(hfl:∀ r∈rows,r.f.length<=1000)(hrl:rows.length<=100000) :
  Gives cx.P 249 [v] C (.tuple #[v,i_ 0]):=by
 obtain⟨vs,hok,hsv⟩:=hv;obtain⟨A0,c0,rfl,hc1,hc2,_⟩:=id hsv;have hmx:=mx_
 simp only[bk hok.1]at hsv hc1⊢;refine UU func249 32 U3 fun w0=>UM 2 [0] U<|UM 3 [0,8,9,10] U<|G.loop (fun fr C' L' μ=>∃ (i:Nat),(i<=rows.length)/\fr=[(0,[],.slice A0 rows.length c0),(8,[],.slice A0 rows.length c0),(9,[],i_ rows.length),(10,[],i_ i)]/\L'=[]/\μ=rows.length-i) (hn_ [0,8,9,10] U) ⟨0,Re _,U,U,U⟩ (fun fr C0' L0' m _ hI=>?_);obtain⟨i,hi,rfl,rfl,rfl⟩:=hI;refine UM 1 [0,8,9,10,11] U<|G.cd (fun h11=>?_) fun h11=>?_
 ·have hil:i<rows.length:=by simpa using h11
  obtain⟨r,hx⟩:∃ r,rows[i]?=some r:=⟨rows[i],ai hil⟩;obtain⟨w,hw⟩:∃ w,vs[i]?=some w:=⟨vs[i]'(by rw[hok.1];exact hil),ai _⟩;have hrm:=aM hx;obtain⟨hrf,hrb⟩:=hr r hrm;have hfl1:=hfl r hrm;have hlb:(r.f++[r.b]).length<=1001:=by simp;omega
  have hsw:=hok.2 i w r hw hx;obtain⟨Aw,cw,rfl,_⟩:=id hsw;refine UQ fun R hR=>Va hsv.m_ U10 om_ (ij hw hx) fl_ fun p12 hp12=>UO hp12 U8<|Ve U5 fun b5=>UX (j:=0) U12<|US [0,5,8,9,10] hR U<|G.freeze 0 U fun _ _ hb5=>G.cut (fun fr C' L' μ=>∃ (A20:Option Addr)(c20:Nat),(Sl C' 1 (.slice A20 (r.f++[r.b]).length c20) ((r.f++[r.b]).map eE))/\fr=[(0,[],.slice A0 rows.length c0),(8,[],.slice A0 rows.length c0),(9,[],i_ rows.length),(10,[],i_ i),(20,[],.slice A20 (r.f++[r.b]).length c20),(21,[],i_ (r.f++[r.b]).length),(22,[],i_ 0)]/\L'=[]) ?_ (fun fr Cr4 Lr4 μ hler4 hI=>?_)
  ·refine VJ (.cut [0,1,3,8] (.alt 2 (.fin [4,5,6,7]) (.alt 4 (.cut [] (.alt 2 (.fin [5,6,7]) (.alt 5 (.fin [2,6,7]) .stop))) .stop))) [(2,3)] U U kr_ fun R hB hR hH=>UP U6<|UO (bkT hb5 1) U8<|UR 2 U<|Vw hH U ⟨?_, ?_,trivial⟩
   ·refine D.call (rE _ _ r.f hsw.m_ om_) U (.inr dc_) U6 (Rh _) fl_ fun v16 C16 L16 _ hq16=>UO (bkT hb5 1) U8<|Vj [eE r.b] U12 (fun p19 C19 _ hs19=>?_);obtain⟨Ac,nc,cc,rfl,rfl⟩:=hq16;refine Vs (j:=0) U11 hs19.m_ (by simp[eE,lF,af]) ax q_ fl_ fun A20 n20 c20=>C6 1 [0,8,9,10,20,21,22] hR U<|G.freezeArr 0 ((r.f++[r.b]).map eE) ⟨rfl,ak⟩ e_ ak (fun Cz hz hsz=>?_);obtain⟨Az,cz,hze,_⟩:=id hsz;cases hze
    simp only[au]at hsz⊢;exact G.dropAll<|Vb 0 mup (hn_ [0,8,9,10,20,21,22] U) ⟨_,_,hsz,U,U⟩
   refine UO (bkT hb5 1) U8<|Vw hH U ⟨?_, ?_,trivial⟩
   ·refine D.call (rE _ _ r.f hsw.m_ om_) U (.inr dc_) U6 (Rh _) fl_ fun v16 C16 L16 _ hq16=>Vj [eE r.b] U12 (fun p19 C19 _ hs19=>?_);obtain⟨Ac,nc,cc,rfl,rfl⟩:=hq16;refine Vs (j:=0) U11 hs19.m_ (by simp[eE,lF,af]) ax q_ fl_ fun A20 n20 c20=>C6 1 [0,8,9,10,20,21,22] hR U<|G.freezeArr 0 ((r.f++[r.b]).map eE) ⟨rfl,ak⟩ e_ ak (fun Cz hz hsz=>?_);obtain⟨Az,cz,hze,_⟩:=id hsz;cases hze
    simp only[au]at hsz⊢;exact G.dropAll<|Vb 0 mup (hn_ [0,8,9,10,20,21,22] U) ⟨_,_,hsz,U,U⟩
   refine Vj [eE r.b] U12 fun p19 C19 _ hs19=>D.call (rE _ _ r.f hsw.m_ om_) U (.inr dc_) U6 (Rh _) fl_ (fun v16 C16 L16 _ hq16=>?_);obtain⟨Ac,nc,cc,rfl,rfl⟩:=hq16;refine Vs (j:=0) U11 hs19.m_ (by simp[eE,lF,af]) ax q_ fl_ fun A20 n20 c20=>C6 1 [0,8,9,10,20,21,22] hR U<|G.freezeArr 0 ((r.f++[r.b]).map eE) ⟨rfl,ak⟩ e_ ak (fun Cz hz hsz=>?_);obtain⟨Az,cz,hze,_⟩:=id hsz;cases hze
   simp only[au]at hsz⊢;exact G.dropAll<|Vb 0 mup (hn_ [0,8,9,10,20,21,22] U) ⟨_,_,hsz,U,U⟩
  obtain⟨A20,c20,hs20,rfl,rfl⟩:=hI;refine G.loop (fun fr C' L' μ=>∃ (j:Nat),(j<=(r.f++[r.b]).length)/\fr=[(0,[],.slice A0 rows.length c0),(8,[],.slice A0 rows.length c0),(9,[],i_ rows.length),(10,[],i_ i),(20,[],.slice A20 (r.f++[r.b]).length c20),(21,[],i_ (r.f++[r.b]).length),(22,[],i_ j)]/\L'=[]/\μ=(r.f++[r.b]).length-j) (hn_ [0,8,9,10,20,21,22] U) ⟨0,Re _,U,U,U⟩ (fun fr C1' L1' m _ hI=>?_);obtain⟨j,hj,rfl,rfl,rfl⟩:=hI;refine UM 1 [0,8,9,10,20,21,22,23] U<|G.cd (fun h23=>?_) fun h23=>?_
  ·have hjl:j<(r.f++[r.b]).length:=by
    have:=Qw h23;omega
   obtain⟨q,hq⟩:∃ q,(r.f++[r.b])[j]?=some q:=⟨(r.f++[r.b])[j],ai hjl⟩;have hqq:QB 22 q:=by
    rcases Rr.1 (aM hq) with h|h
    ·exact hrf q h
    rw[Rw.1 h];exact hrb
   refine UQ fun R hR=>Va hs20.m_ U10 om_ (cA hq) fl_ fun p24 hp24=>UO hp24 U8<|C6 1 [0,7,8,9,10,20,21,22] hR U<|UN 1 U fun R hR=>UZ (dD _ hT.m_ _ (uz hqq)) U7<|C6 1 [0,8,9,10,20,21,22,28] hR U<|G.cd (fun h28=>?_) fun h28=>?_
   ·exfalso;rw[yE hqq]at h28;exact absurd h28 dc_
   refine UQ fun R hR=>UV _ U U6<|C6 1 [0,8,9,10,20,21,22] hR U<|U0 (m':=(r.f++[r.b]).length-(j+1)) om_ mup (hn_ [0,8,9,10,20,21,22] U) ⟨j+1,om_,U,U,U⟩
  refine UQ fun R hR=>UV _ U U6<|C6 1 [0,8,9,10] hR U<|U0 (m':=rows.length-(i+1)) om_ mup (hn_ [0,8,9,10] U) ⟨i+1,om_,U,U,U⟩
 refine UM 3 [2,3] U<|U1 (G.dropAll (Vn U3 ?_));exact⟨U,U⟩
def ii (s p k:Nat)(fm:List (Nat × Rat))(b sg:Rat):RowQ:=⟨JH s p k fm sg,sg*b⟩
theorem jF (C:Mem)(hT:Tabs C)(s p surface b b14 b3:Nat)(fm:List (Nat × Rat))(bound:Rat)(sgs:List Rat)(sv w:Value)(vs:List Value)(rows:List RowQ)(hsp:s*p<=60)(hs:surface<s)(hb3:C b3=some (.cells ⟨[i_ (s:Nat),i_ (p:Nat)]⟩ 196 (0,0)))(hm:C b=some (aY keyZ.enc (eO fm)))(hkeys:(fm.map (·.1)).Nodup)(hin:∀ x∈fm,x.1<p)(hfq:∀ x∈fm,QB 23 x.2)(hbd:QB 23 bound)
  (hsv:Sl C 1 sv (sgs.map eE)) (hsq:∀ q∈sgs,QB 1 q) (hsl:sgs.length<=2) (hok:RowsOk C vs rows) (hrl:rows.length<=10000) :
  Jog.Fn cx.P 245 [i_ surface,.map (some b),af (qtx bound),sv,p_ b14,p_ b3] C [.obj b14 (.cells ⟨[w]⟩ 47 (0,0)),.arr w 140 2 rows.length (aD vs rows).flatten]
   fun u C' L'=>∃ vs' w',u=.tuple #[]/\L'=[.obj b14 (.cells ⟨[w']⟩ 47 (0,0)),.arr w' 140 2 (rows++sgs.map (ii s p surface fm bound)).length (aD vs' (rows++sgs.map (ii s p surface fm bound))).flatten]/\RowsOk C' vs' (rows++sgs.map (ii s p surface fm bound)):=by
 obtain⟨A0,c0,rfl,hc1,hc2,_⟩:=id hsv;have hmx:=mx_
 simp only[au]at hsv hc1⊢;refine UU func245 28 U3 fun w0=>UM 3 [0,1,2,4,5,12,13,14] U<|Vc (L':=[.obj b14 (.cells ⟨[w]⟩ 47 (0,0)),.arr w 140 2 (rows++(sgs.take 0).map (ii s p surface fm bound)).length (aD vs (rows++(sgs.take 0).map (ii s p surface fm bound))).flatten]) ak<|G.loop (fun fr C' L' μ=>∃ (i:Nat)(vs2:List Value)(w2:Value),(i<=sgs.length/\RowsOk C' vs2 (rows++(sgs.take i).map (ii s p surface fm bound)))/\fr=[(0,[],i_ surface),(1,[],.map (some b)),(2,[],af (qtx bound)),(4,[],p_ b14),(5,[],p_ b3),(12,[],.slice A0 sgs.length c0),(13,[],i_ sgs.length),(14,[],i_ i)]/\L'=[.obj b14 (.cells ⟨[w2]⟩ 47 (0,0)),.arr w2 140 2 (rows++(sgs.take i).map (ii s p surface fm bound)).length (aD vs2 (rows++(sgs.take i).map (ii s p surface fm bound))).flatten]/\μ=sgs.length-i) (hn_ [0,1,2,4,5,12,13,14] U) ⟨0,vs,w,⟨Re _,by simpa using hok⟩,U,U,U⟩ (fun fr C0' L0' m _ hI=>?_);obtain⟨i,vs2,w2,⟨hi,hrow⟩,rfl,rfl,rfl⟩:=hI;refine UM 1 [0,1,2,4,5,12,13,14,15] U<|G.cd (fun h15=>?_) fun h15=>?_
 ·have hil:i<sgs.length:=by simpa using h15
  obtain⟨sg,hsg⟩:∃ sg,sgs[i]?=some sg:=⟨sgs[i],ai hil⟩;have hsq1:=hsq sg (aM hsg);have hRl:(rows++(sgs.take i).map (ii s p surface fm bound)).length<=10002:=by
   rw[Rf,au,Ro];omega
  have htk:rows++(sgs.take (i+1)).map (ii s p surface fm bound)=rows++(sgs.take i).map (ii s p surface fm bound)++[ii s p surface fm bound sg]:=by
   rw[RE,hsg];simp
  refine UQ fun R hR=>Va hsv.m_ U10 om_ (cA hsg) fl_ fun p16 hp16=>UO hp16 U8<|C6 1 [0,1,2,4,5,11,12,13,14] hR U<|Vg [0,1,2,3,4,5,6,7,8,9] [] U kr_ fun R hB hR=>UW ag U9<|UO (bkT hb3 2) U8<|UR 4 U<|Vo (Px _ hT.m_ s p surface b fm sg bound 23 dc_ dc_ om_ hs (Mem.get hm mup) hkeys hin hfq (hsq1.le dc_) hbd) U7 fl_ (fun v24 _ _ hq24=>?_);obtain⟨fv,rfl,hfv⟩:=hq24;obtain⟨Af,cf,rfl,_⟩:=id hfv;simp only[au]at hfv⊢;refine Vj [[.slice Af (JH s p surface fm sg).length cf,af (qtx (sg*bound))]] U12 fun p25 _ _ hs25=>Vs (j:=1) U11 hs25.m_ U ax q_ fl_ fun A26 n26 c26=>UX (j:=1) U12<|US [0,1,2,4,5,12,13,14] hR U<|UQ fun R hR=>UV _ U U6<|C6 1 [0,1,2,4,5,12,13,14] hR U ?_;have hone:=RowsOk.snoc (r:=ii s p surface fm bound sg) hrow.m_ hfv;refine Vc (L':=[.obj b14 (.cells ⟨[.slice A26 n26 c26]⟩ 47 (0,0)),.arr (.slice A26 n26 c26) 140 2 (rows++(sgs.take (i+1)).map (ii s p surface fm bound)).length (aD (vs2++[.slice Af (JH s p surface fm sg).length cf]) (rows++(sgs.take (i+1)).map (ii s p surface fm bound))).flatten]) (by rw[htk,eI hrow.1];simp[ii,aE];omega)<|U0 (m':=sgs.length-(i+1)) om_ mup (hn_ [0,1,2,4,5,12,13,14] U) ⟨i+1,vs2++[.slice Af (JH s p surface fm sg).length cf],_,⟨by omega,by rw[htk];exact hone.mono mup⟩,U,U,U⟩
 have hil:i=sgs.length:=by
  have:¬ i<sgs.length:=by simpa using h15
  omega
 rw[hil,Rk]at hrow⊢;exact V1 U<|⟨vs2,w2,U,U,hrow.mono mup⟩
noncomputable def rq (o:Obs):Rat:=-dm o.nx / dm o.nz
noncomputable def jq (o:Obs):Rat:=-dm o.ny / dm o.nz
def upN (B:Bk)(o:Obs):Nat:=(kg (isU o.upper) B.col 0).toNat
noncomputable def rowsO (B:Bk)(o:Obs)(p:Pt)(t:Tri)(z:Rat):List RowQ :=
 if o.kind=1 then (if 0<upN B o then [ii (bs B) (bp B) (upN B o-1) (atT t (wgt B.pts t p)) (lG o z) 1] else [])++(if upN B o<bs B then [ii (bs B) (bp B) (upN B o) (atT t (wgt B.pts t p)) (lG o z) (-1)] else [])
 else if o.kind=2 then (cG B.col o).flatMap fun k=>[1, -1].map (ii (bs B) (bp B) k (atT t (wgt B.pts t p)) (lG o z))
 else (cG B.col o).flatMap fun k=>[1, -1].map (ii (bs B) (bp B) k (atT t fun j=>(slf B.pts t j).1) (rq o))++[1, -1].map (ii (bs B) (bp B) k (atT t fun j=>(slf B.pts t j).2) (jq o))
structure Fine (B:Bk)(fs:List Rat)(o:Obs)(p:Pt)(ti:Nat)(t:Tri)(z:Rat):Prop where
 place:ObsAt o p
 loc:∃ r,lf B.pts B.tris p=ti::r
 tri:B.tris[ti]?=some t
 val:Fb B.pts B.tris fs p=.tuple #[af (qtx z),.int .i64 0]
 qz:QB 22 z
 qh:QB 22 (lG o z)
 w:∀ j,QB 22 (wgt B.pts t p j)
 up:0<=kg (isU o.upper) B.col 0
 sl:∀ j,QP 22 (slf B.pts t j)
 nr:o.kind≠1->o.kind≠2->(aS o.nx=true/\aS o.ny=true/\aS o.nz=true)/\QB 11 (dm o.nx)/\QB 11 (dm o.ny)/\QB 11 (dm o.nz)/\dm o.nz≠0
 rows:∀ r∈rowsO B o p t z,OW r
theorem Pm (h:Sl C 1 v [[af [49]]]):Sl C 1 v (([1]:List Rat).map eE):=by rw[<- dE]at h;exact h
theorem Pn (h:Sl C 1 v [[af [45,49]]]):Sl C 1 v (([-1]:List Rat).map eE):=by rw[<- cY]at h;exact h
theorem F0 (h:Sl C 1 v [[af [49]],[af [45,49]]]):Sl C 1 v (([1, -1]:List Rat).map eE):=by rw[<- cY,<- dE]at h;exact h
theorem Pf:∀ q∈([1]:List Rat),QB 1 q:=by simp;exact QB_one
theorem Pg:∀ q∈([-1]:List Rat),QB 1 q:=by simp;exact nG
theorem sx:∀ q∈([1, -1]:List Rat),QB 1 q:=by
 intro q hq;simp only[Rp,Sh,TF]at hq;rcases hq with rfl|rfl
 ·exact QB_one
 exact nG
theorem gA {f:Nat->Rat}{P:Nat × Rat->Prop}(h0:P (t.1,f 0))(h1:P (t.2.1,f 1))(h2:P (t.2.2,f 2)):∀ x∈atT t f,P x:=by
 intro x hx;simp only[atT,Rp,Sh,TF]at hx;rcases hx with rfl|rfl|rfl <;> assumption
theorem Jh {lo hi:Int}(h:k∈wE lo hi n):k<n:=by
 unfold wE at h;rw[SH,Rv]at h;exact h.1
theorem jA {α β:Type}(f:α->List β){l:List α}{j:Nat}{x:α}(h:l[j]?=some x):(l.take (j+1)).flatMap f=(l.take j).flatMap f++f x:=by
 rw[RE,h,List.flatMap_append];simp
theorem fV {α β:Type}{f:α->List β}{c:Nat}(h:∀ x,(f x).length=c):∀ l:List α,(l.flatMap f).length=c*l.length
|[]=>by simp
|x::l=>by rw[List.flatMap_cons,Rf,h,fV h l,Rs,Nat.mul_succ,Tm]
theorem BY :∀ r∈rowsO B o p t z,r.f.length=bs B*bp B:=by
 have key:∀ k fm b sg,(ii (bs B) (bp B) k fm b sg).f.length=bs B*bp B:=fun k fm b sg=>jV _ _;intro r hr;unfold rowsO at hr;split at hr
 ·rcases Rr.1 hr with h|h
  ·split at h
   ·rw[Rw.1 h];exact key _ _ _ _
   cases h
  split at h
  ·rw[Rw.1 h];exact key _ _ _ _
  cases h
 split at hr
 ·obtain⟨k,_,hk⟩:=List.mem_flatMap.1 hr;obtain⟨sg,_,rfl⟩:=Ra.1 hk;exact key _ _ _ _
 obtain⟨k,_,hk⟩:=List.mem_flatMap.1 hr;rcases Rr.1 hk with h|h
 ·obtain⟨sg,_,rfl⟩:=Ra.1 h;exact key _ _ _ _
 obtain⟨sg,_,rfl⟩:=Ra.1 h;exact key _ _ _ _
theorem wY (h:(cG B.col o).length<=60):(rowsO B o p t z).length<=240:=by
 unfold rowsO;split
 ·rw[Rf];have h1:∀ (c:Prop)[Decidable c] (r:RowQ),(if c then [r] else []).length<=1:=fun c _ r=>by split <;> simp
  have:=h1 (0<upN B o) (ii (bs B) (bp B) (upN B o-1) (atT t (wgt B.pts t p)) (lG o z) 1);have:=h1 (upN B o<bs B) (ii (bs B) (bp B) (upN B o) (atT t (wgt B.pts t p)) (lG o z) (-1));omega
 split
 ·rw[fV (c:=2) (fun k=>by simp)];omega
 rw[fV (c:=4) (fun k=>by simp)];omega
theorem Nd (C:Mem)(hT:Tabs C)(bv:Value)(B:Bk)(fs:List Rat)(i:Nat)(o:Obs)(p:Pt)(ti:Nat)(t:Tri)(z:Rat)(hB:BookIn C bv B)(hG:Good B.pts B.tris)(hbR:BookR B)(hbz:iP B=0)(hF:Terr B fs)(ho:B.obs[i]?=some o)(hFi:Fine B fs o p ti t z)(h60:bs B*bp B<=60)(hcz:sh B.col=0)(hcl:bs B+1=B.col.length)(hcs:B.col.length<=60) :
  Pur cx.P 183 [gl (bs B) (bp B),bv,i_ i] C fun u D=>∃ v,u=.tuple #[v,i_ 0]/\RowsIn D v (rowsO B o p t z):=by
 have hB0:=hB;have hM:=hG.ok;obtain⟨r,hloc⟩:=hFi.loc;have htm:=aM hFi.tri;have hti:=hM.ins t htm;have hdiff:=ui hM htm;have hil:=(aT.1 ho).1;have hO:=hFi.place;obtain⟨u,hu⟩:∃ u:Nat,kg (isU o.upper) B.col 0=(u:Nat):=⟨_,(Int.toNat_of_nonneg hFi.up).symm⟩;have hup:upN B o=u:=by unfold upN;rw[hu];rfl
 have hul:u<B.col.length:=by
  rcases nL (isU o.upper) B.col with⟨h,_⟩|⟨k,x,h,h2,_⟩
  ·rw[hu]at h;omega
  have:=(aT.1 h2).1;rw[hu]at h;omega
 have hkw:=rJ (wgt B.pts t p) hdiff;have hiw:∀ x∈atT t (wgt B.pts t p),x.1<bp B:=gA (P:=fun x=>x.1<bp B) hti.1 hti.2.1 hti.2.2;have hqw:∀ x∈atT t (wgt B.pts t p),QB 23 x.2:=gA (P:=fun x=>QB 23 x.2) ((hFi.w 0).le dc_) ((hFi.w 1).le dc_) ((hFi.w 2).le dc_);have hqh:QB 23 (lG o z):=hFi.qh.le dc_;have hsl:(cG B.col o).length<=bs B:=by
  unfold cG wE;refine Rn (SS _ _) ?_;rw[Ss];unfold bs;omega
 have hsin:∀ k∈cG B.col o,k<bs B:=fun k hk=>Jh hk;obtain⟨v1,v2,tv,cv,ov,rfl,h1,h2,h3,h4,h5⟩:=id hB.ex;have hmi:MeshIn C (.agg ⟨[v1,v2]⟩) B.pts B.tris:=⟨v1,v2,rfl,h1,h2⟩;obtain⟨A5,c5,rfl,hq5,hq6,_⟩:=id h5;have hmx:=mx_
 simp only[au]at h5 hq5 hB0⊢;refine UU func183 172 U3 fun w0=>?_;refine UQ fun R hR=>?_;refine Vd U6 (fun b3=>?_);refine Vd U6 (fun b4=>?_);refine C6 2 [2,3,4] hR U ?_;clear hR R;refine G.freeze 1 U (fun _ _ hb3=>?_);refine G.freeze 0 U (fun _ _ hb4=>?_);refine UN 1 U fun R hR=>?_;refine UO (bkT hb4 1) U8 ?_;refine UP U6 ?_;refine Va h5.m_ U10 om_ (cA ho) fl_ (fun p33 hp33=>?_);refine UO hp33 U8 ?_;refine Ve U5 (fun b8=>?_);refine UX (j:=0) U12 ?_;refine US [2,3,4,8] hR U ?_;clear hR R;refine G.freeze 0 U (fun C8 _ hb8=>?_);refine UN 1 U fun R hR=>?_;refine UO (bkT hb4 2) U8 ?_;refine UP U6 ?_;refine UO (bkT hb8 2) U8 ?_;refine Vo (by have h:=EP C8 hT.m_ _ B.pts B.tris p ti r t hmi.m_ hG hO.q hO.r hloc hFi.tri hFi.w;rw[<- xJ hO]at h;exact h) U7 fl_ (fun v40 _ _ hq40=>?_);obtain⟨bw,rfl,hbw⟩:=hq40;refine C6 7 [2,3,4,8,9,10,11] hR U ?_;clear hR R;refine UM 2 [2,3,4,8,9,10,11,45] U ?_;refine G.cd (fun h45=>?_) fun h45=>?_
 ·exact absurd h45 dc_
 refine UQ fun R hR=>?_;refine UO (bkT hb4 5) U8 ?_;refine UP U6 ?_;refine UZ (Ey _ hT.m_ _ B fs i o p z hB0.m_ hG hbR hbz hF ho hO hFi.val hFi.qz hFi.qh) U7 ?_;refine C6 5 [2,3,4,8,9,10,11,12] hR U ?_;clear hR R;refine UM 2 [2,3,4,8,9,10,11,12,54] U ?_;refine G.cd (fun h54=>?_) fun h54=>?_
 ·exact absurd h54 dc_
 refine UQ fun R hR=>?_;refine UO (bkT hb4 5) U8 ?_;refine UP U6 ?_;refine Vu (wC _ hT.m_ _ B i o hB0.m_ hG hbR hbz ho) U7 (fun v59 _ _ hq59=>?_);obtain⟨lv,rfl,hlv⟩:=hq59;obtain⟨Al,cl,hle0',_⟩:=id hlv;rw[au]at hle0';subst hle0';refine C6 5 [3,4,8,9,10,11,12,13] hR U ?_;clear hR R;refine UM 2 [3,4,8,9,10,11,12,13,63] U ?_;refine G.cd (fun h63=>?_) fun h63=>?_
 ·exact absurd h63 dc_
 refine UQ fun R hR=>?_;refine Ve U5 (fun b14=>?_);refine US [3,4,8,9,10,12,13,14] hR U ?_;clear hR R;refine G.nilArr 140 2 (G.perm (L':=[.obj b14 (.cells ⟨[.slice none 0 0]⟩ 47 (0,0)),.arr (.slice none 0 0) 140 2 0 []]) (List.Perm.swap _ _ _) ?_);refine UM 2 [3,4,8,9,10,12,13,14,15] U ?_;refine UN 1 U fun R hR=>?_;refine UO (bkT hb8 1) U8 ?_;refine US [3,4,8,9,10,12,13,14,15,67] hR U ?_;clear hR R;refine UM 2 [3,4,8,9,10,12,13,14,15,67,120] U ?_;refine G.cut (fun fr C' L' μ=>∃ (vs:List Value)(w:Value),(RowsOk C' vs (rowsO B o p t z))/\fr=[(14,[],p_ b14)]/\L'=[.obj b14 (.cells ⟨[w]⟩ 47 (0,0)),.arr w 140 2 (rowsO B o p t z).length (aD vs (rowsO B o p t z)).flatten]) ?_ (fun fr _ L120 μ _ hI=>?_)
 ·refine G.cd (fun h120=>?_) fun h120=>?_
  ·have hk:o.kind=1:=dW h120;obtain⟨R1,hR1⟩:∃ R1,(if 0<u then [ii (bs B) (bp B) (u-1) (atT t (wgt B.pts t p)) (lG o z) 1] else [])=R1:=⟨_,rfl⟩;have hRO:rowsO B o p t z=R1++(if u<bs B then [ii (bs B) (bp B) u (atT t (wgt B.pts t p)) (lG o z) (-1)] else []):=by unfold rowsO;rw[aJ hk,hup,hR1]
   refine UN 1 U fun R hR=>?_;refine UO (bkT hb4 1) U8 ?_;refine UP U6 ?_;refine UO (bkT hb8 1) U8 ?_;refine UZ (AG _ hT.m_ _ B.col o.upper h4.m_ hbR.col hcz u hu) U7 ?_;refine C6 7 [3,9,12,14,15,16,18] hR U ?_;clear hR R;refine UM 2 [3,9,12,14,15,16,18,132] U ?_;refine G.cd (fun h132=>?_) fun h132=>?_
   ·exact absurd h132 dc_
   refine UM 2 [3,9,12,14,15,16,135] U ?_;refine G.cut (fun fr C' L' μ=>∃ (vs:List Value)(w:Value),(RowsOk C' vs R1)/\fr=[(3,[],p_ b3),(9,[],.map (some bw)),(12,[],af (qtx (lG o z))),(14,[],p_ b14),(15,[],.func (.func 245) #[] #[p_ b14,p_ b3]),(16,[],i_ u)]/\L'=[.obj b14 (.cells ⟨[w]⟩ 47 (0,0)),.arr w 140 2 R1.length (aD vs R1).flatten]) ?_ (fun fr _ L135 μ _ hI=>?_)
   ·refine G.cd (fun h135=>?_) fun h135=>?_
    ·have hu0:0<u:=by
      have:=Qw h135;omega
     rw[aJ hu0]at hR1;subst hR1;refine Vl [(6,3)] U (fun R hR=>?_);refine UR 2 U ?_;refine Vt (((u-1:Nat):Int)) U4 om_ om_ om_ U2 ?_;refine UR 2 U ?_;refine Vj [[af [49]]] U12 (fun p141 _ _ hs141=>?_);refine D.call (jF _ hT.m_ (bs B) (bp B) (u-1) bw b14 b3 (atT t (wgt B.pts t p)) (lG o z) [1] _ (.slice none 0 0) [] [] h60 om_ (Mem.get hb3 mup) (Mem.get hbw mup) hkw hiw hqw hqh ((Pm hs141).mono mup) Pf dc_ (RowsOk.nil _) dc_) U (.inr dc_) U6 (Rh _) fl_ (fun v142 _ L142 _ hq142=>?_);refine US [3,9,12,14,15,16] hR U ?_;clear hR R;obtain⟨vs1,w1,rfl,rfl,hok1⟩:=hq142;refine Vb 0 mup (hn_ [3,9,12,14,15,16] U) ⟨vs1,w1,hok1,U,U⟩
    have hu0:¬ 0<u:=by
     have:=Rc h135;omega
    rw[aF hu0]at hR1;subst hR1;refine Vb 0 l_ (hn_ [3,9,12,14,15,16] U) ⟨[],.slice none 0 0,RowsOk.nil _,U,U⟩
   obtain⟨vs ,w,hrow1,rfl,rfl⟩:=hI;refine UN 2 U fun R hR=>?_;refine UO (bkT hb3 1) U8 ?_;refine C6 1 [9,12,14,15,16,146] hR U ?_;clear hR R;refine G.cd (fun h146=>?_) fun h146=>?_
   ·have hus:u<bs B:=by
     have:=Qw h146;omega
    rw[aJ hus]at hRO;have hR1l:R1.length<=1:=by rw[<- hR1];split <;> simp
    refine Vl [(5,3)] U (fun R hR=>?_);refine UR 4 U ?_;refine Vj [[af [45,49]]] U12 (fun p151 _ _ hs151=>?_);refine D.call (jF _ hT.m_ (bs B) (bp B) u bw b14 b3 (atT t (wgt B.pts t p)) (lG o z) [-1] _ w vs R1 h60 hus (Mem.get hb3 mup) (Mem.get hbw mup) hkw hiw hqw hqh ((Pn hs151).mono mup) Pg dc_ hrow1.m_ om_) U (.inr dc_) U6 (Rh _) fl_ (fun v152 _ L152 _ hq152=>?_);refine US [14] hR U ?_;clear hR R;obtain⟨vs2,w2,rfl,rfl,hok2⟩:=hq152;rw[show R1++([-1]:List Rat).map (ii (bs B) (bp B) u (atT t (wgt B.pts t p)) (lG o z))=rowsO B o p t z from hRO.symm]at hok2⊢;refine Vb 0 mup (hn_ [14] U) ⟨vs2,w2,hok2,U,U⟩
   have hus:¬ u<bs B:=by
    have:=Rc h146;omega
   rw[aF hus,RC]at hRO;rw[<- hRO]at hrow1⊢;refine Vb 0 mup (hn_ [14] U) ⟨vs,w,hrow1.mono mup,U,U⟩
  have hk1:¬ o.kind=1:=by
   intro e;rw[show((o.kind == 1)=true) by rw[e];rfl]at h120;cases h120
  refine UM 2 [4,8,9,10,12,13,14,15,153] U ?_;refine G.cd (fun h153=>?_) fun h153=>?_
  ·have hk2:o.kind=2:=dW h153;obtain⟨f2,hf2⟩:∃ f2,(fun k=>([1, -1]:List Rat).map (ii (bs B) (bp B) k (atT t (wgt B.pts t p)) (lG o z)))=f2:=⟨_,rfl⟩;have hRO:rowsO B o p t z=(cG B.col o).flatMap f2:=by unfold rowsO;rw[aF hk1,aJ hk2,<- hf2]
   have hl2:∀ k,(f2 k).length=2:=fun k=>by rw[<- hf2];rfl
   refine UM 3 [9,12,14,15,155,156,157] U ?_;refine G.loop (fun fr C' L' μ=>∃ (j:Nat)(vs:List Value)(w:Value),(j<=(cG B.col o).length/\RowsOk C' vs (((cG B.col o).take j).flatMap f2))/\fr=[(9,[],.map (some bw)),(12,[],af (qtx (lG o z))),(14,[],p_ b14),(15,[],.func (.func 245) #[] #[p_ b14,p_ b3]),(155,[],.slice Al (cG B.col o).length cl),(156,[],i_ (cG B.col o).length),(157,[],i_ j)]/\L'=[.obj b14 (.cells ⟨[w]⟩ 47 (0,0)),.arr w 140 2 (((cG B.col o).take j).flatMap f2).length (aD vs (((cG B.col o).take j).flatMap f2)).flatten]/\μ=(cG B.col o).length-j) (hn_ [9,12,14,15,155,156,157] U) ⟨0,[],.slice none 0 0,⟨Re _,RowsOk.nil _⟩,U,U,U⟩ (fun fr C0' L0' m _ hI=>?_);obtain⟨j,vs,w,⟨hj,hrow2⟩,rfl,rfl,rfl⟩:=hI;refine UM 1 [9,12,14,15,155,156,157,158] U ?_;refine G.cd (fun h158=>?_) fun h158=>?_
   ·have hjl:j<(cG B.col o).length:=by
     have:=Qw h158;omega
    obtain⟨k,hkj⟩:∃ k,(cG B.col o)[j]?=some k:=⟨(cG B.col o)[j],ai hjl⟩;have hks:=hsin k (aM hkj);have hcnt:=fV hl2 ((cG B.col o).take j);rw[Ro]at hcnt;have hstep:=jA f2 hkj;refine UQ fun R hR=>?_;refine Va hlv.m_ U10 om_ (cA hkj) fl_ (fun p159 hp159=>?_);refine UO hp159 U8 ?_;refine C6 1 [9,12,14,15,20,155,156,157] hR U ?_;clear hR R;refine Vl [(5,3)] U (fun R hR=>?_);refine UR 4 U ?_;refine Vj [[af [49]],[af [45,49]]] U12 (fun p165 _ _ hs165=>?_);refine D.call (jF _ hT.m_ (bs B) (bp B) k bw b14 b3 (atT t (wgt B.pts t p)) (lG o z) [1, -1] _ w vs _ h60 hks (Mem.get hb3 mup) (Mem.get hbw mup) hkw hiw hqw hqh ((F0 hs165).mono mup) sx dc_ hrow2.m_ om_) U (.inr dc_) U6 (Rh _) fl_ (fun v166 _ L166 _ hq166=>?_);refine US [9,12,14,15,155,156,157] hR U ?_;clear hR R;refine UQ fun R hR=>?_;refine UV _ U U6 ?_;refine C6 1 [9,12,14,15,155,156,157] hR U ?_;clear hR R;obtain⟨vs3,w3,rfl,rfl,hok3⟩:=hq166;rw[show((cG B.col o).take j).flatMap f2++([1, -1]:List Rat).map (ii (bs B) (bp B) k (atT t (wgt B.pts t p)) (lG o z))=((cG B.col o).take (j+1)).flatMap f2 by rw[hstep,<- hf2]]at hok3⊢;refine U0 (m':=(cG B.col o).length-(j+1)) om_ mup (hn_ [9,12,14,15,155,156,157] U) ⟨j+1,vs3,w3,⟨by omega,hok3⟩,U,U,U⟩
   have hjl:j=(cG B.col o).length:=by
    have:=Rc h158;omega
   rw[hjl,Rk,<- hRO]at hrow2⊢;refine Vb 0 mup (hn_ [14] U) ⟨vs,w,hrow2.mono mup,U,U⟩
  have hk2:¬ o.kind=2:=by
   intro e;rw[show((o.kind == 2)=true) by rw[e];rfl]at h153;cases h153
  obtain⟨⟨hn1,hn2,hn3⟩,hn4,hn5,hn6,hn7⟩:=hFi.nr hk1 hk2;obtain⟨e1,q1⟩:=dz hn1;obtain⟨e2,q2⟩:=dz hn2;obtain⟨e3,q3⟩:=dz hn3;have hle1:(qtx (dm o.nx)).length<=1000000:=Rn (aZ q1 dc_) dc_;have hle2:(qtx (dm o.ny)).length<=1000000:=Rn (aZ q2 dc_) dc_;have hqe:QB 23 (rq o):=(jH (eP hn4) hn6 hn7).le dc_;have hqn:QB 23 (jq o):=(jH (eP hn5) hn6 hn7).le dc_;obtain⟨f3,hf3⟩:∃ f3,(fun k=>([1, -1]:List Rat).map (ii (bs B) (bp B) k (atT t fun j=>(slf B.pts t j).1) (rq o))++([1, -1]:List Rat).map (ii (bs B) (bp B) k (atT t fun j=>(slf B.pts t j).2) (jq o)))=f3:=⟨_,rfl⟩;have hRO:rowsO B o p t z=(cG B.col o).flatMap f3:=by unfold rowsO;rw[aF hk1,aF hk2,<- hf3]
  have hl4:∀ k,(f3 k).length=4:=fun k=>by rw[<- hf3];rfl
  have hke:=rJ (fun j=>(slf B.pts t j).1) hdiff;have hkn:=rJ (fun j=>(slf B.pts t j).2) hdiff;have hie:∀ x∈atT t (fun j=>(slf B.pts t j).1),x.1<bp B:=gA (P:=fun x=>x.1<bp B) hti.1 hti.2.1 hti.2.2;have hin2:∀ x∈atT t (fun j=>(slf B.pts t j).2),x.1<bp B:=gA (P:=fun x=>x.1<bp B) hti.1 hti.2.1 hti.2.2;have hqe2:∀ x∈atT t (fun j=>(slf B.pts t j).1),QB 23 x.2:=gA (P:=fun x=>QB 23 x.2) ((hFi.sl 0).1.le dc_) ((hFi.sl 1).1.le dc_) ((hFi.sl 2).1.le dc_);have hqn2:∀ x∈atT t (fun j=>(slf B.pts t j).2),QB 23 x.2:=gA (P:=fun x=>QB 23 x.2) ((hFi.sl 0).2.le dc_) ((hFi.sl 1).2.le dc_) ((hFi.sl 2).2.le dc_);refine UN 1 U fun R hR=>?_;refine UO (bkT hb4 2) U8 ?_;refine UP U6 ?_;refine Vu (EL _ hT.m_ _ B.pts B.tris ti t hmi.m_ hG hFi.tri hFi.sl) U7 (fun v72 C72 _ hq72=>?_);obtain⟨be,bn,rfl,hbe,hbn⟩:=hq72;refine C6 7 [8,13,14,15,21,22,23] hR U ?_;clear hR R;refine UM 2 [8,13,14,15,21,22,23,77] U ?_;refine G.cd (fun h77=>?_) fun h77=>?_
  ·exact absurd h77 dc_
  refine Vg [0,1,2,3,4,5,6,7,8,9,10,11,12] [(3,1),(7,1)] U kr_ (fun R hB hR=>?_);refine UR 2 U ?_;refine UO (bkT hb8 1) U8 ?_;refine Vh (fun _=>(by have h:=eJ C72 (dm o.nx) hle1;rw[<- e1]at h;exact h)) U9 ?_;refine UR 2 U ?_;refine UO (bkT hb8 1) U8 ?_;refine Vh (fun _=>(by have h:=ik C72 hT.m_ (-dm o.nx) (dm o.nz) 11 dc_ dc_ (eP hn4) hn6 hn7;rw[<- e3]at h;exact h)) U9 ?_;refine UR 5 U ?_;refine US [8,13,14,15,21,22,24] hR U ?_;clear hR hB R;refine Vg [0,1,2,3,4,5,6,7,8,9,10,11,12] [(3,1),(7,1)] U kr_ (fun R hB hR=>?_);refine UR 2 U ?_;refine UO (bkT hb8 1) U8 ?_;refine Vh (fun _=>(by have h:=eJ C72 (dm o.ny) hle2;rw[<- e2]at h;exact h)) U9 ?_;refine UR 2 U ?_;refine UO (bkT hb8 1) U8 ?_;refine Vh (fun _=>(by have h:=ik C72 hT.m_ (-dm o.ny) (dm o.nz) 11 dc_ dc_ (eP hn5) hn6 hn7;rw[<- e3]at h;exact h)) U9 ?_;refine UR 5 U ?_;refine US [13,14,15,21,22,24,26] hR U ?_;clear hR hB R;refine UM 3 [14,15,21,22,24,26,101,102,103] U ?_;refine G.loop (fun fr C' L' μ=>∃ (j:Nat)(vs:List Value)(w:Value),(j<=(cG B.col o).length/\RowsOk C' vs (((cG B.col o).take j).flatMap f3))/\fr=[(14,[],p_ b14),(15,[],.func (.func 245) #[] #[p_ b14,p_ b3]),(21,[],.map (some be)),(22,[],.map (some bn)),(24,[],af (qtx (rq o))),(26,[],af (qtx (jq o))),(101,[],.slice Al (cG B.col o).length cl),(102,[],i_ (cG B.col o).length),(103,[],i_ j)]/\L'=[.obj b14 (.cells ⟨[w]⟩ 47 (0,0)),.arr w 140 2 (((cG B.col o).take j).flatMap f3).length (aD vs (((cG B.col o).take j).flatMap f3)).flatten]/\μ=(cG B.col o).length-j) (hn_ [14,15,21,22,24,26,101,102,103] U) ⟨0,[],.slice none 0 0,⟨Re _,RowsOk.nil _⟩,U,U,U⟩ (fun fr C1' L1' m hle1 hI=>?_);obtain⟨j,vs,w,⟨hj,hrow2⟩,rfl,rfl,rfl⟩:=hI;refine UM 1 [14,15,21,22,24,26,101,102,103,104] U ?_;refine G.cd (fun h104=>?_) fun h104=>?_
  ·have hjl:j<(cG B.col o).length:=by
    have:=Qw h104;omega
   obtain⟨k,hkj⟩:∃ k,(cG B.col o)[j]?=some k:=⟨(cG B.col o)[j],ai hjl⟩;have hks:=hsin k (aM hkj);have hcnt:=fV hl4 ((cG B.col o).take j);rw[Ro]at hcnt;have hstep:=jA f3 hkj;refine UQ fun R hR=>?_;refine Va hlv.m_ U10 om_ (cA hkj) fl_ (fun p105 hp105=>?_);refine UO hp105 U8 ?_;refine C6 1 [14,15,21,22,24,26,29,101,102,103] hR U ?_;clear hR R;refine Vl [(5,3)] U (fun R hR=>?_);refine UR 4 U ?_;refine Vj [[af [49]],[af [45,49]]] U12 (fun p111 _ _ hs111=>?_);refine D.call (jF _ hT.m_ (bs B) (bp B) k be b14 b3 (atT t fun j=>(slf B.pts t j).1) (rq o) [1, -1] _ w vs _ h60 hks (Mem.get hb3 mup) (Mem.get hbe mup) hke hie hqe2 hqe ((F0 hs111).mono mup) sx dc_ hrow2.m_ om_) U (.inr dc_) U6 (Rh _) fl_ (fun v112 _ L112 _ hq112=>?_);refine US [14,15,21,22,24,26,29,101,102,103] hR U ?_;clear hR R;obtain⟨vs3,w3,rfl,rfl,hok3⟩:=hq112;refine Vl [(5,3)] U (fun R hR=>?_);refine UR 4 U ?_;refine Vj [[af [49]],[af [45,49]]] U12 (fun p117 _ _ hs117=>?_);refine D.call (jF _ hT.m_ (bs B) (bp B) k bn b14 b3 (atT t fun j=>(slf B.pts t j).2) (jq o) [1, -1] _ w3 vs3 _ h60 hks (Mem.get hb3 mup) (Mem.get hbn mup) hkn hin2 hqn2 hqn ((F0 hs117).mono mup) sx dc_ hok3.m_ (by rw[Rf,hcnt];simp;omega)) U (.inr dc_) U6 (Rh _) fl_ (fun v118 _ L118 _ hq118=>?_);refine US [14,15,21,22,24,26,101,102,103] hR U ?_;clear hR R;refine UQ fun R hR=>?_;refine UV _ U U6 ?_;refine C6 1 [14,15,21,22,24,26,101,102,103] hR U ?_;clear hR R;obtain⟨vs4,w4,rfl,rfl,hok4⟩:=hq118;rw[show((cG B.col o).take j).flatMap f3++([1, -1]:List Rat).map (ii (bs B) (bp B) k (atT t fun j=>(slf B.pts t j).1) (rq o))++([1, -1]:List Rat).map (ii (bs B) (bp B) k (atT t fun j=>(slf B.pts t j).2) (jq o))=((cG B.col o).take (j+1)).flatMap f3 by rw[hstep,<- hf3,RL]]at hok4⊢;refine U0 (m':=(cG B.col o).length-(j+1)) om_ mup (hn_ [14,15,21,22,24,26,101,102,103] U) ⟨j+1,vs4,w4,⟨by omega,hok4⟩,U,U,U⟩
  have hjl:j=(cG B.col o).length:=by
   have:=Rc h104;omega
  rw[hjl,Rk,<- hRO]at hrow2⊢;refine Vb 0 mup (hn_ [14] U) ⟨vs,w,hrow2.mono mup,U,U⟩
 obtain⟨vs ,w,hrows,rfl,rfl⟩:=hI;refine G.freezeArr 1 (aD vs (rowsO B o p t z)) U2 (bN _ _) (bk hrows.1) (fun Cr hcr hsr=>?_);have hin:RowsIn Cr w (rowsO B o p t z):=⟨vs,hrows.mono mup,hsr⟩;refine UQ fun R hR=>?_;refine UW ag U9 ?_;refine UY (ET _ hT.m_ w (rowsO B o p t z) hin.m_ hFi.rows (fun r hr=>by rw[BY r hr];omega) (Rn (wY (by unfold bs at hsl;omega)) dc_)) U7 fl_ ?_;refine C6 4 [6,7] hR U ?_;clear hR R;refine U1 (G.dropAll (Vn U3 ?_));exact⟨U,w,U,hin.mono mup⟩
structure Rich (B:Bk)(fs:List Rat)(RO:Nat->List RowQ):Prop where
 good:Good B.pts B.tris
 br:BookR B
 bz:iP B=0
 terr:Terr B fs
 h60:bs B*bp B<=60
 fine:∀ i o,B.obs[i]?=some o->∃ p ti t z,Fine B fs o p ti t z/\RO i=rowsO B o p t z
theorem mU (h:iP B=0):sh B.col=0:=by
 unfold iP at h;split at h
 ·rename_i h1;exact absurd h h1
 split at h
 ·rename_i h1;exact absurd h h1
 rename_i h1;exact RB h1
theorem vC {l:List Lay}(h:sh l=0):l≠[]/\l.length<=60:=by
 unfold sh at h;split at h
 ·exact absurd h dc_
 rename_i h0;split at h
 ·exact absurd h dc_
 exact⟨h0,by omega⟩
theorem Rich.bookz {bv:Value}{RO:Nat->List RowQ}(h:Rich B fs RO)(hT:Tabs C)(hB:BookIn C bv B):BookZ C bv B 0 :=
 ⟨hB,fun D hD=>by have h2:=rF D (hT.mono hD) bv B (hB.mono hD) h.good h.br;rwa [h.bz]at h2,fun _=>(vC (mU h.bz)).1,Rn (vC (mU h.bz)).2 dc_,h.good.ok.lp⟩
theorem Rich.scol {RO:Nat->List RowQ}(h:Rich B fs RO):bs B+1=B.col.length/\B.col.length<=60:=by
 obtain⟨h1,h2⟩:=vC (mU h.bz);have:=RX.2 h1;unfold bs;omega
theorem QM (C:Mem)(hT:Tabs C)(bv:Value)(B:Bk)(fs:List Rat)(RO:Nat->List RowQ)(i:Nat)(hB:BookIn C bv B)(hR:Rich B fs RO)(hi:i<B.obs.length) :
  Pur cx.P 183 [gl (bs B) (bp B),bv,i_ i] C fun u D=>∃ v,u=.tuple #[v,i_ 0]/\RowsIn D v (RO i):=by
 have ho:B.obs[i]?=some B.obs[i]:=ai hi;obtain⟨p,ti,t,z,hF,hE⟩:=hR.fine i _ ho;have h:=Nd C hT bv B fs i _ p ti t z hB hR.good hR.br hR.bz hR.terr ho hF hR.h60 (mU hR.bz) hR.scol.1 hR.scol.2
 rwa [<- hE]at h
theorem pX {RO:Nat->List RowQ}(hR:Rich B fs RO)(hi:i<B.obs.length):(RO i).length<=240/\∀ r∈RO i,r.f.length=bs B*bp B:=by
 have ho:B.obs[i]?=some B.obs[i]:=ai hi;obtain⟨p,ti,t,z,hF,hE⟩:=hR.fine i _ ho;have hsl:(cG B.col B.obs[i]).length<=60:=by
  unfold cG wE;refine Rn (SS _ _) ?_;rw[Ss];have:=hR.scol.2;omega
 rw[hE];exact⟨wY hsl,BY⟩
def bK (B:Bk):List RowQ:=bi (bs B) (bp B) B.col (B.col.length-2)
theorem DJ {RO:Nat->List RowQ}(hR:Rich B fs RO):(bK B).length<=120:=by
 have h:=jO (bs B) (bp B) B.col (B.col.length-2);have h1:=hR.scol.1;have h2:(B.col.length-2)*bp B<=bs B*bp B:=RV _ om_;have h3:=hR.h60;unfold bK;omega
structure SrcQ where
 n:Int
 r:RowQ
def bY (vs:List Value)(l:List SrcQ):List (List Value):=List.zipWith (fun w (s:SrcQ)=>[.int .i64 s.n,w,af (qtx s.r.b)]) vs l
def SrcsOk (C:Mem)(vs:List Value)(l:List SrcQ):Prop:=RowsOk C vs (l.map SrcQ.r)
def Dq (C:Mem)(v:Value)(l:List SrcQ):Prop:=∃ vs,SrcsOk C vs l/\Sl C 3 v (bY vs l)
theorem SrcsOk.mono {C D:Mem}{vs:List Value}{l:List SrcQ}(h:SrcsOk C vs l)(hl:C.le D):SrcsOk D vs l:=RowsOk.mono h hl
theorem SrcsOk.m_ {D:Mem}{l:List SrcQ}(h:SrcsOk C vs l)(hl:C.le D:=by exact mup):SrcsOk D vs l:=SrcsOk.mono h hl
theorem SrcsOk.snoc {C:Mem}{vs:List Value}{l:List SrcQ}{v:Value}{s:SrcQ}(h:SrcsOk C vs l)(hv:Sl C 1 v (s.r.f.map eE)):SrcsOk C (vs++[v]) (l++[s]):=by
 unfold SrcsOk at h⊢;rw[RN];exact RowsOk.snoc h hv
theorem jQ {l:List SrcQ}(h:SrcsOk C vs l):vs.length=l.length:=by have:=h.1;simpa using this
theorem lQ {l:List SrcQ}(h:vs.length=l.length)(v:Value)(s:SrcQ):bY (vs++[v]) (l++[s])=bY vs l++[[i_ s.n,v,af (qtx s.r.b)]]:=by
 unfold bY;rw[List.zipWith_append h];rfl
theorem og {l:List SrcQ}(h:vs.length=l.length):(bY vs l).length=l.length:=by simp[bY,h]
theorem rU (vs:List Value)(l:List SrcQ):∀ r∈bY vs l,r.length=3:=by
 intro r hr;unfold bY at hr;obtain⟨i,hi⟩:=SE hr;rw[List.getElem?_zipWith]at hi;cases h1:vs[i]? <;> cases h2:l[i]? <;> rw[h1,h2]at hi <;> simp at hi
 subst hi;rfl
def kT (n:Int)(l:List RowQ):List SrcQ:=l.map fun r=>⟨n,r⟩
def bV (T:List RowQ)(RO:Nat->List RowQ)(l:List Nat):List SrcQ:=kT (-1) T++l.flatMap fun i=>kT (i:Nat) (RO i)
theorem lP {n:Int}{l:List RowQ}{r:RowQ}(h:l[i]?=some r):kT n (l.take (i+1))=kT n (l.take i)++[⟨n,r⟩]:=by
 unfold kT;rw[RE,h,RN];rfl
theorem yC {T:List RowQ}{RO:Nat->List RowQ}:∀ {l:List Nat},(∀ i∈l,(RO i).length<=240)->l.length<=100->T.length<=120->(bV T RO l).length<=120+240*l.length:=by
 intro l h hl hT;unfold bV;rw[Rf];have key:∀ l:List Nat,(∀ i∈l,(RO i).length<=240)->(l.flatMap fun i=>kT (i:Nat) (RO i)).length<=240*l.length:=by
  intro l;induction l with
 |nil=>intro _;simp
 |cons a l ih =>
   intro h;have h1:=h a Q9;have h2:=ih fun i hi=>h i (Rm _ hi);rw[List.flatMap_cons,Rf,Rs];have:(kT (a:Nat) (RO a)).length=(RO a).length:=by simp[kT]
   omega
 have h1:=key l h;have:(kT (-1) T).length=T.length:=by simp[kT]
 omega
theorem Ik (C:Mem)(hT:Tabs C)(bv lv:Value)(B:Bk)(fs:List Rat)(RO:Nat->List RowQ)(l:List Nat)(hB:BookIn C bv B)(hRr:Rich B fs RO)(hl:Sl C 1 lv (l.map aW))(hin:∀ i∈l,i<B.obs.length)(hll:l.length<=100)(hcnt:(bV (bK B) RO l).length<=300) :
  Pur cx.P 114 [gl (bs B) (bp B),bv,lv] C fun u D=>∃ v,u=.tuple #[v,i_ 0]/\Dq D v (bV (bK B) RO l):=by
 have hB0:=hB;have hTl:=DJ hRr;obtain⟨v1,v2,tv,cv,ov,rfl,h1,h2,h3,h4,h5⟩:=id hB.ex;obtain⟨Al,cl,rfl,hq5,hq6,_⟩:=id hl;have hmx:=mx_
 simp only[au]at hl hq5⊢;have hgl:=fun m:List Nat=>fun hm:∀ i∈m,i<B.obs.length=>fun h100:m.length<=100=>yC (T:=bK B) (RO:=RO) (l:=m) (fun i hi=>(pX hRr (hm i hi)).1) h100 hTl;refine UU func114 66 U3 fun w0=>UQ fun R hR=>Vd U6 fun b3=>Vd U6 fun b4=>C6 2 [2,3,4] hR U<|G.freeze 1 U fun _ _ hb3=>G.freeze 0 U fun _ _ hb4=>UM 1 [2,3,4,8] U<|UQ fun R hR=>UO (bkT hb3 2) U8<|UP U6<|UO (bkT hb4 1) U8<|Vu (wz _ hT.m_ _ (bs B) (bp B) B.col h4.m_ hRr.scol.1 hRr.h60 hRr.br.col) U7 (fun v20 _ _ hq20=>?_);obtain⟨tvs,htok,hts⟩:=hq20;rw[show bi (bs B) (bp B) B.col (B.col.length-2)=bK B from rfl]at htok hts;have htl:=htok.1;obtain⟨At,ct,rfl,hct,hct2,_⟩:=id hts;simp only[bk htl]at hts hct⊢;refine C6 2 [2,3,4,8,20,21,22] hR U<|G.nilArr 142 3<|G.loop (fun fr C' L' μ=>∃ (i:Nat)(vs:List Value)(w:Value),(i<=(bK B).length/\SrcsOk C' vs (kT (-1) ((bK B).take i)))/\fr=[(2,[],.slice Al l.length cl),(3,[],p_ b3),(4,[],p_ b4),(8,[],w),(20,[],.slice At (bK B).length ct),(21,[],i_ (bK B).length),(22,[],i_ i)]/\L'=[.arr w 142 3 (kT (-1) ((bK B).take i)).length (bY vs (kT (-1) ((bK B).take i))).flatten]/\μ=(bK B).length-i) (hn_ [2,3,4,8,20,21,22] U) ⟨0,[],_,⟨Re _,RowsOk.nil _⟩,U,U,U⟩ (fun fr C0' L0' m _ hI=>?_);obtain⟨i,vs,w,⟨hi,hsr⟩,rfl,rfl,rfl⟩:=hI;refine UM 1 [2,3,4,8,20,21,22,23] U<|G.cd (fun h23=>?_) fun h23=>?_
 ·have hil:i<(bK B).length:=by
   have:=Qw h23;omega
  obtain⟨r,hx⟩:∃ r,(bK B)[i]?=some r:=⟨(bK B)[i],ai hil⟩;obtain⟨w2,hw⟩:∃ w2,tvs[i]?=some w2:=⟨tvs[i]'(by rw[htl];exact hil),ai _⟩;have hsw:=htok.2 i w2 r hw hx;obtain⟨Aw,cw,rfl,_⟩:=id hsw;simp only[au]at hsw hw;have hcn:(kT (-1) ((bK B).take i)).length=i:=by simp[kT];omega
  refine UQ fun R hR=>Va hts.m_ U10 om_ (ij hw hx) fl_ fun p24 hp24=>UO hp24 U8<|Ve U5 fun b10=>UX (j:=0) U12<|US [2,3,4,8,10,20,21,22] hR U<|UN 1 U fun R hR=>UW ag U9<|Vf [i_ (-1),.slice Aw r.f.length cw,af (qtx r.b)] U8<|Vj [[i_ (-1),.slice Aw r.f.length cw,af (qtx r.b)]] U12 fun p29 _ _ hs29=>D.append (j:=1) U11 hs29 U ax q_ fl_ fun v30=>C6 1 [2,3,4,8,20,21,22] hR U<|UQ fun R hR=>UV _ U U6<|C6 1 [2,3,4,8,20,21,22] hR U ?_;have hone:=SrcsOk.snoc (s:=⟨-1,r⟩) hsr.m_ hsw.m_;rw[<- lP hx]at hone;refine VC 1 U<|Vc (L':=[.arr v30 142 3 (kT (-1) ((bK B).take (i+1))).length (bY (vs++[.slice Aw r.f.length cw]) (kT (-1) ((bK B).take (i+1)))).flatten]) (by rw[lP hx,lQ (jQ hsr)];simp)<|U0 (m':=(bK B).length-(i+1)) om_ mup (hn_ [2,3,4,8,20,21,22] U) ⟨i+1,vs++[.slice Aw r.f.length cw],v30,⟨by omega,hone.mono mup⟩,U,U,U⟩
 have hil:i=(bK B).length:=by
  have:=Rc h23;omega
 rw[hil,Rk]at hsr⊢;refine UM 3 [3,4,8,32,33,34] U<|Vc (L':=[.arr w 142 3 (bV (bK B) RO (l.take 0)).length (bY vs (bV (bK B) RO (l.take 0))).flatten]) (by simp[bV])<|G.loop (fun fr C' L' μ=>∃ (j:Nat)(vs:List Value)(w:Value),(j<=l.length/\SrcsOk C' vs (bV (bK B) RO (l.take j)))/\fr=[(3,[],p_ b3),(4,[],p_ b4),(8,[],w),(32,[],.slice Al l.length cl),(33,[],i_ l.length),(34,[],i_ j)]/\L'=[.arr w 142 3 (bV (bK B) RO (l.take j)).length (bY vs (bV (bK B) RO (l.take j))).flatten]/\μ=l.length-j) (hn_ [3,4,8,32,33,34] U) ⟨0,vs,w,⟨Re _,by simpa [bV] using hsr⟩,U,U,U⟩ (fun fr C1' L1' m _ hI=>?_);obtain⟨j,vs,w,⟨hj,hsr1⟩,rfl,rfl,rfl⟩:=hI;refine UM 1 [3,4,8,32,33,34,35] U<|G.cd (fun h35=>?_) fun h35=>?_
 ·have hjl:j<l.length:=by
   have:=Qw h35;omega
  obtain⟨a,ha⟩:∃ a,l[j]?=some a:=⟨l[j],ai hjl⟩;have hal:=hin a (aM ha);have hcj:=hgl (l.take j) (fun i hi=>hin i (So hi)) (by rw[Ro];omega);rw[Ro]at hcj;have hstep:bV (bK B) RO (l.take (j+1))=bV (bK B) RO (l.take j)++kT (a:Nat) (RO a):=by
   unfold bV;rw[jA _ ha,RL]
  have hral:=(pX hRr hal).1;refine UQ fun R hR=>Va hl.m_ U10 om_ (cA ha) fl_ fun p36 hp36=>UO hp36 U8<|C6 1 [3,4,8,12,32,33,34] hR U<|UQ fun R hR=>UO (bkT hb3 2) U8<|UO (bkT hb4 5) U8<|UP U6<|Vu (QM _ hT.m_ _ B fs RO a hB0.m_ hRr hal) U7 (fun v42 _ _ hq42=>?_);obtain⟨rv,rfl,rvs,hrok,hrs⟩:=hq42;have hrl:=hrok.1;obtain⟨Ar,cr,rfl,hcr,hcr2,_⟩:=id hrs;simp only[bk hrl]at hrs hcr⊢;refine C6 5 [3,4,8,12,13,14,32,33,34] hR U<|UM 2 [3,4,8,12,13,14,32,33,34,46] U<|G.cd (fun h46=>?_) fun h46=>?_
  ·exact absurd h46 dc_
  refine UM 3 [3,4,8,12,32,33,34,48,49,50] U<|Vc (L':=[.arr w 142 3 (bV (bK B) RO (l.take j)++kT (a:Nat) ((RO a).take 0)).length (bY vs (bV (bK B) RO (l.take j)++kT (a:Nat) ((RO a).take 0))).flatten]) (by simp[kT])<|G.loop (fun fr C' L' μ=>∃ (k:Nat)(vs:List Value)(w:Value),(k<=(RO a).length/\SrcsOk C' vs (bV (bK B) RO (l.take j)++kT (a:Nat) ((RO a).take k)))/\fr=[(3,[],p_ b3),(4,[],p_ b4),(8,[],w),(12,[],i_ a),(32,[],.slice Al l.length cl),(33,[],i_ l.length),(34,[],i_ j),(48,[],.slice Ar (RO a).length cr),(49,[],i_ (RO a).length),(50,[],i_ k)]/\L'=[.arr w 142 3 (bV (bK B) RO (l.take j)++kT (a:Nat) ((RO a).take k)).length (bY vs (bV (bK B) RO (l.take j)++kT (a:Nat) ((RO a).take k))).flatten]/\μ=(RO a).length-k) (hn_ [3,4,8,12,32,33,34,48,49,50] U) ⟨0,vs,w,⟨Re _,by rw[show kT (a:Nat) ((RO a).take 0)=[] from U,RC];exact hsr1.mono mup⟩,U,U,U⟩ (fun fr C2' L2' m _ hI=>?_);obtain⟨k,vs,w,⟨hk,hsr2⟩,rfl,rfl,rfl⟩:=hI;refine UM 1 [3,4,8,12,32,33,34,48,49,50,51] U<|G.cd (fun h51=>?_) fun h51=>?_
  ·have hkl:k<(RO a).length:=by
    have:=Qw h51;omega
   obtain⟨r,hx⟩:∃ r,(RO a)[k]?=some r:=⟨(RO a)[k],ai hkl⟩;obtain⟨w2,hw⟩:∃ w2,rvs[k]?=some w2:=⟨rvs[k]'(by rw[hrl];exact hkl),ai _⟩;have hsw:=hrok.2 k w2 r hw hx;obtain⟨Aw,cw,rfl,_⟩:=id hsw;simp only[au]at hsw hw;have hcn:(kT (a:Nat) ((RO a).take k)).length<=240:=by simp[kT];omega
   have hcn2:(bV (bK B) RO (l.take j)++kT (a:Nat) ((RO a).take k)).length<=100000:=by rw[Rf];omega
   refine UQ fun R hR=>Va hrs.m_ U10 om_ (ij hw hx) fl_ fun p52 hp52=>UO hp52 U8<|Ve U5 fun b16=>UX (j:=0) U12<|US [3,4,8,12,16,32,33,34,48,49,50] hR U<|UN 2 U fun R hR=>UW ag U9<|Vf [i_ (a:Nat),.slice Aw r.f.length cw,af (qtx r.b)] U8<|Vj [[i_ (a:Nat),.slice Aw r.f.length cw,af (qtx r.b)]] U12 fun p58 _ _ hs58=>D.append (j:=1) U11 hs58 U ax q_ fl_ fun v59=>C6 1 [3,4,8,12,32,33,34,48,49,50] hR U<|UQ fun R hR=>UV _ U U6<|C6 1 [3,4,8,12,32,33,34,48,49,50] hR U ?_;have hone:=SrcsOk.snoc (s:=⟨(a:Nat),r⟩) hsr2.m_ hsw.m_;rw[RL,<- lP hx]at hone;refine VC 1 U<|Vc (L':=[.arr v59 142 3 (bV (bK B) RO (l.take j)++kT (a:Nat) ((RO a).take (k+1))).length (bY (vs++[.slice Aw r.f.length cw]) (bV (bK B) RO (l.take j)++kT (a:Nat) ((RO a).take (k+1)))).flatten]) (by rw[lP hx,<- RL,lQ (jQ hsr2)];simp;omega)<|U0 (m':=(RO a).length-(k+1)) om_ mup (hn_ [3,4,8,12,32,33,34,48,49,50] U) ⟨k+1,vs++[.slice Aw r.f.length cw],v59,⟨by omega,hone.mono mup⟩,U,U,U⟩
  have hkl:k=(RO a).length:=by
   have:=Rc h51;omega
  rw[hkl,Rk,<- hstep]at hsr2⊢;refine UQ fun R hR=>UV _ U U6<|C6 1 [3,4,8,32,33,34] hR U<|U0 (m':=l.length-(j+1)) om_ mup (hn_ [3,4,8,32,33,34] U) ⟨j+1,vs,w,⟨by omega,hsr2⟩,U,U,U⟩
 have hjl:j=l.length:=by
  have:=Rc h35;omega
 rw[hjl,Rk]at hsr1⊢;refine G.freezeArr 0 (bY vs (bV (bK B) RO l)) U2 (rU _ _) (og (jQ hsr1)) (fun Cg hg hsg=>?_);obtain⟨Ag,cg,rfl,_⟩:=id hsg;rw[og (jQ hsr1)]at hsg⊢;refine UM 3 [8,64] U<|G.cd (fun h64=>?_) fun h64=>?_
 ·exfalso;have:=Qw h64;omega
 refine UM 3 [6,7] U<|U1 (G.dropAll (Vn U3 ?_));exact⟨U,_,U,vs,hsr1.mono mup,hsg.mono mup⟩
theorem MF (C:Mem)(hT:Tabs C)(bv:Value)(B:Bk)(fs:List Rat)(RO:Nat->List RowQ)(hB:BookIn C bv B)(hRr:Rich B fs RO)(hol:B.obs.length<=100)(hcnt:(bV (bK B) RO (List.range B.obs.length)).length<=300) :
  Pur cx.P 54 [bv] C fun u D=>∃ v,u=.tuple #[v,i_ 0]/\Dq D v (bV (bK B) RO (List.range B.obs.length)):=by
 have hB0:=hB;have hZ:=hRr.bookz hT hB;obtain⟨v1,v2,tv,cv,ov,rfl,h1,h2,h3,h4,h5⟩:=id hB.ex;obtain⟨A5,c5,rfl,hq5,hq6,_⟩:=id h5;have hmx:=mx_
 simp only[au]at h5 hq5 hB0 hZ⊢;refine UU func54 33 U3 fun w0=>UQ fun R hR=>Vd U6 fun b1=>C6 2 [1] hR U<|G.freeze 0 U fun _ _ hb1=>UQ fun R hR=>UO (bkT hb1 5) U8<|UZ (NN _ _ B hZ.m_ hRr.h60) U7<|UR 3 U<|Ve U5 fun b4=>UX (j:=0) U12<|C6 1 [1,4,5] hR U<|UM 2 [1,4,5,14] U<|G.cd (fun h14=>?_) fun h14=>?_
 ·exact absurd h14 dc_
 refine UM 1 [1,4,6] U<|UN 1 U fun R hR=>UO (bkT hb1 1) U8<|C6 2 [1,4,6,18,19] hR U<|G.freeze 0 U fun _ _ hb4=>G.nilArr 3 1<|G.loop (fun fr C' L' μ=>∃ (i:Nat)(w:Value),(i<=B.obs.length)/\fr=[(1,[],p_ b1),(4,[],p_ b4),(6,[],w),(18,[],i_ B.obs.length),(19,[],i_ i)]/\L'=[.arr w 3 1 (List.range i).length ((List.range i).map aW).flatten]/\μ=B.obs.length-i) (hn_ [1,4,6,18,19] U) ⟨0,_,Re _,U,U,U⟩ (fun fr C0' L0' m _ hI=>?_);obtain⟨i,w,hi,rfl,rfl,rfl⟩:=hI;refine UM 1 [1,4,6,18,19,20] U<|G.cd (fun h20=>?_) fun h20=>?_
 ·have hil:i<B.obs.length:=by
   have:=Qw h20;omega
  have hrl:(List.range i).length<=100:=by simp;omega
  refine UM 2 [1,4,6,7,18,19] U<|UN 2 U fun R hR=>Vj [aW i] U12 fun p24 _ _ hs24=>D.append (j:=0) U11 hs24 U ax q_ fl_ fun v25=>C6 1 [1,4,6,18,19] hR U<|UQ fun R hR=>UV _ U U6<|C6 1 [1,4,6,18,19] hR U<|Vc (L':=[.arr v25 3 1 (List.range (i+1)).length ((List.range (i+1)).map aW).flatten]) (by rw[Sn];simp[aW])<|U0 (m':=B.obs.length-(i+1)) om_ mup (hn_ [1,4,6,18,19] U) ⟨i+1,v25,om_,U,U,U⟩
 have hil:i=B.obs.length:=by
  have:=Rc h20;omega
 subst hil;refine G.freezeArr 0 ((List.range B.obs.length).map aW) U2 e_ ak fun Cg hg hsl3=>UQ fun R hR=>UO (bkT hb4 2) U8<|UO (bkT hb1 5) U8<|UP U6<|Vo (Ik _ hT.m_ _ _ B fs RO (List.range B.obs.length) hB0.m_ hRr hsl3.m_ (fun i hi=>Rv.1 hi) (by simpa using hol) hcnt) U7 fl_ (fun v30 _ _ hq30=>?_);obtain⟨rv,rfl,hrv⟩:=hq30;refine C6 4 [2,3] hR U<|U1 (G.dropAll (Vn U3 ?_));exact⟨U,rv,U,hrv⟩
def cm (err:Nat->Int):Nat->Int
|0=>0
|n+1=>if cm err n≠0 then cm err n else err n
theorem mF {err:Nat->Int}{n:Nat}(h:cm err n≠0):∀ m,n<=m->cm err m=cm err n
|0,hm=>by rw[show n=0 by omega]
|m+1,hm=>by
  rcases Rz m n with h1|h1
  ·rw[show n=m+1 by omega]
  have ih:=mF h m h1;simp only[cm,ih];rw[aJ h]
theorem ym (h0:cm err i=0)(he:err i≠0)(hi:i<n):cm err n=err i:=by
 have h1:cm err (i+1)=err i:=by simp only[cm,h0];rw[aF dc_]
 rw[mF (n:=i+1) (by rw[h1];exact he) n om_,h1]
theorem mE (h0:cm err i=0)(he:err i=0):cm err (i+1)=0:=by
 simp only[cm,h0];rw[aF dc_,he]
theorem iD {err:Nat->Int}:∀ {n:Nat},cm err n=0->∀ i,i<n->err i=0
|0,_,i,hi=>by omega
|n+1,h,i,hi=>by
  by_cases h0:cm err n=0
  ·rcases Rz i n with h1|h1
   ·exact iD h0 i h1
   have:i=n:=by omega
   subst this;simp only[cm,h0]at h
   rwa [aF dc_]at h
  simp only[cm]at h;rw[aJ h0]at h;exact absurd h h0
theorem ri {err:Nat->Int}:∀ {n:Nat},(∀ i,i<n->err i=0)->cm err n=0
|0,_=>rfl
|n+1,h=>mE (ri fun i hi=>h i om_) (h n om_)
end Go.Proofs.YtfjcldheldflbaaGreatDoor
