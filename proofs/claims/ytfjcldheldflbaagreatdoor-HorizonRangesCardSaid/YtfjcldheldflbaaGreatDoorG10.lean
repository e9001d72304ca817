/- Laws that the proofs of this seat share, part 10. -/
import Derived.Test.YtfjcldheldflbaaGreatDoorG9
import Derived.Test.YtfjcldheldflbaaGreatDoorShelf
set_option maxHeartbeats 4000000
namespace Go.Proofs.YtfjcldheldflbaaGreatDoor
open Go.Proofs.Tryz
open Go Go.Jog
set_option maxRecDepth 100000
variable {B:Bk}{C:Mem}{a b:Nat}{fs:List Rat}{i k n:Nat}{o:Obs}{p:Pt}{t:Tri}{v:Value}{vs:List Value}{z:Rat}
structure RowQ where
 f:List Rat
 b:Rat
def aB (vs:List Value)(rows:List RowQ):List (List Value):=List.zipWith (fun w (r:RowQ)=>[w,af (qtx r.b)]) vs rows
def RowsOk (C:Mem)(vs:List Value)(rows:List RowQ):Prop:=vs.length=rows.length/\∀ (i:Nat)(w:Value)(r:RowQ),vs[i]?=some w->rows[i]?=some r->Sl C 1 w (r.f.map ec)
theorem RowsOk.mono {C D:Mem}{a:List Value}{b:List RowQ}(h:RowsOk C a b)(c:C.le D):RowsOk D a b:=⟨h.1,fun i w r h1 h2=>(h.2 i w r h1 h2).mono c⟩
theorem RowsOk.m_ {D:Mem}{a:List RowQ}(h:RowsOk C vs a)(b:C.le D:=by exact mup):RowsOk D vs a:=RowsOk.mono h b
theorem RowsOk.nil (C:Mem):RowsOk C [] []:=⟨rfl,fun i w r h1 _=>by simp at h1⟩
theorem RowsOk.snoc {a:List RowQ}{r:RowQ}(h:RowsOk C vs a)(c:Sl C 1 v (r.f.map ec)):RowsOk C (vs++[v]) (a++[r]):=by
 have h0:=h.1;refine ⟨by simp [h0],fun j w r' h1 h2=>?_⟩;rcases P8 j vs.length with d | e
 ·rw [Qm d] at h1;rw [Qm om_] at h2;exact h.2 j w r' h1 h2
 rw [P4 e] at h1;rw [P4 om_,<- h0] at h2;cases b:j-vs.length with
 | zero=>rw [b] at h1 h2;simp at h1 h2;subst h1;subst h2;exact c
 | succ q=>rw [b] at h1;simp at h1
theorem eE {a:List RowQ}(h:vs.length=a.length)(v:Value)(r:RowQ):aB (vs++[v]) (a++[r])=aB vs a++[[v,af (qtx r.b)]]:=by
 unfold aB;rw [List.zipWith_append h];rfl
theorem bI {a:List RowQ}(h:vs.length=a.length):(aB vs a).length=a.length:=by simp [aB,h]
theorem bT (b:List Value)(c:List RowQ):∀ r∈aB b c,r.length=2:=by
 intro r hr;unfold aB at hr;obtain ⟨i,a⟩:=Rw hr;rw [List.getElem?_zipWith] at a;cases h1:b[i]? <;> cases h2:c[i]? <;> rw [h1,h2] at a <;> simp at a
 subst a;rfl
def RowsIn (C:Mem)(v:Value)(rows:List RowQ):Prop:=∃ vs:List Value,RowsOk C vs rows/\Sl C 2 v (aB vs rows)
theorem RowsIn.mono {C D:Mem}{v:Value}{a:List RowQ}(h:RowsIn C v a)(b:C.le D):RowsIn D v a:=by
 obtain ⟨vs,h1,h2⟩:=h;exact ⟨vs,h1.mono b,h2.mono b⟩
theorem RowsIn.m_ {D:Mem}{a:List RowQ}(h:RowsIn C v a)(b:C.le D:=by exact mup):RowsIn D v a:=RowsIn.mono h b
def rS (s p:Nat)(x:Lay)(i k:Nat):RowQ:=⟨rD (s*p) [(i*p+k, -1),((i-1)*p+k,1)], -x.min⟩
def Gj (s p:Nat)(m:Rat)(i k:Nat):RowQ:=⟨rD (s*p) [(i*p+k,1),((i-1)*p+k, -1)],m⟩
def kg (s p:Nat)(x:Lay)(i k:Nat):List RowQ :=
 rS s p x i k::(match x.max with
  | none=>[]
  | some m=>[Gj s p m i k])
def bq (s p:Nat)(x:Lay)(i:Nat):Nat->List RowQ
 | 0=>[]
 | k+1=>bq s p x i k++kg s p x i k
def ba (s p:Nat)(col:List Lay):Nat->List RowQ
 | 0=>[]
 | n+1=>ba s p col n++bq s p (col.getD (n+1) ⟨[],0,none⟩) (n+1) p
theorem mB (s p:Nat)(x:Lay)(i:Nat):∀ k,(bq s p x i k).length<=2*k
 | 0=>PE _
 | k+1=>by
  have:=mB s p x i k;have h2:(kg s p x i k).length<=2:=by unfold kg;split <;> simp
  simp only [bq,PM];omega
theorem jt (s p:Nat)(a:List Lay):∀ n,(ba s p a n).length<=2*(n*p)
 | 0=>by simp [ba]
 | n+1=>by
  have:=jt s p a n;have h2:=mB s p (a.getD (n+1) ⟨[],0,none⟩) (n+1) p;simp only [ba,PM,Nat.succ_mul];omega
theorem cV:qtx (-1)=[45,49]:=by
 rw [eS (q:=1) dc_ dc_,dE]
theorem st2 (c d:Rat)(e:a<n)(f:b<n):aE (aE (List.replicate n (af [48])) [af (qtx c)] a) [af (qtx d)] b=kV n [(b,d),(a,c)]:=by
 rw [lS,fB _ _ e,fB _ _ f]
theorem OR (c d:Rat)(e:a<n)(f:b<n)(g:a≠b):aE (aE (List.replicate n (af [48])) [af (qtx d)] b) [af (qtx c)] a=kV n [(b,d),(a,c)]:=by
 rw [st2 d c f e];unfold kV;rw [vX (List.Perm.swap _ _ _) (by simp;exact g)]
theorem je (n:Nat)(d:List (Nat × Rat)):kV n d=((rD n d).map ec).flatten:=(ep (fun q=>af (qtx q)) _).symm
theorem jB (n:Nat)(d:List (Nat × Rat)):(rD n d).length=n:=by simp [rD]
theorem vC (C:Mem)(_aN:Tabs C)(v:Value)(s p:Nat)(c:List Lay)(K:Sl C 3 v (c.map sj))(hs:s+1=c.length)(aO:s*p<=60)(ao:∀ x∈c,No x) :
  Pur cx.P 182 [gu s p,v] C fun u D=>RowsIn D u (ba s p c (c.length-2)):=by
 obtain ⟨H,c0,rfl,ap,aP,_⟩:=id K;have aQ:maxLen<=9223372036854775807:=by simp [maxLen]
 simp only [al] at K ap ⊢;refine Tr func182 81 U3 fun w0=>Tl fun R d=>TC U6 fun I=>C6 1 [1,2] d Z<|G.freeze 0 Z fun _ _ L=>Th 1 [1,2,5] Z<|Th 1 [1,2,5,6] Z<|G.nilArr 140 2<|G.loop (fun fr F f t=>∃ (i:Nat)(vs:List Value)(w:Value),(1<=i/\(i+1<=c.length∨i=1)/\RowsOk F vs (ba s p c (i-1)))/\fr=[(1,[],.slice H c.length c0),(2,[],.pointer (some ⟨I,0,none⟩)),(5,[],w),(6,[],.int .i64 i)]/\f=[.arr w 140 2 (ba s p c (i-1)).length (aB vs (ba s p c (i-1))).flatten]/\t=c.length-i) (hn_ [1,2,5,6] Z) ⟨1,[],_,⟨PE _,.inr Z,RowsOk.nil _⟩,Z,Z,Z⟩ (fun fr aR aS m _ z=>?_);obtain ⟨i,vs,w,⟨aT,aU,Q⟩,rfl,rfl,rfl⟩:=z;refine Ti 1 Z fun R d=>Tq _ Z U6<|C6 3 [1,2,5,6,15] d Z<|G.cd (fun X=>?_) fun X=>?_
 ·have ad:i+1<c.length:=by
   have:=aY X;omega
  obtain ⟨x,M⟩:∃ x,c[i]?=some x:=⟨c[i]'om_,aj om_⟩;obtain ⟨N,aV,aW⟩:=ao x (O0 M);have aX:=jt s p c (i-1);refine Ti 1 Z fun R d=>Tj (bkT L 1) U8<|C6 1 [1,2,5,6,19,20] d Z<|Tz (L':=[.arr w 140 2 (ba s p c (i-1)++bq s p x i 0).length (aB vs (ba s p c (i-1)++bq s p x i 0)).flatten]) (by simp [bq])<|G.loop (fun fr F f t=>∃ (k:Nat)(g:List Value)(o:Value),(k<=p/\RowsOk F g (ba s p c (i-1)++bq s p x i k))/\fr=[(1,[],.slice H c.length c0),(2,[],.pointer (some ⟨I,0,none⟩)),(5,[],o),(6,[],.int .i64 i),(19,[],.int .i64 p),(20,[],.int .i64 k)]/\f=[.arr o 140 2 (ba s p c (i-1)++bq s p x i k).length (aB g (ba s p c (i-1)++bq s p x i k)).flatten]/\t=p-k) (hn_ [1,2,5,6,19,20] Z) ⟨0,vs,w,⟨PL _,by simpa [bq] using Q⟩,Z,Z,Z⟩ (fun fr aZ a0 m _ z=>?_);obtain ⟨k,g,o,⟨hk,Y⟩,rfl,rfl,rfl⟩:=z;refine Th 1 [1,2,5,6,19,20,21] Z<|G.cd (fun aa=>?_) fun aa=>?_
  ·have ah:k<p:=by simpa using aa
   have a1:i*p+p<=s*p:=by
    rw [<- Nat.succ_mul];exact Qt _ om_
   have a2:(i-1)*p+p=i*p:=by
    rw [<- Nat.succ_mul,show (i-1).succ=i by omega]
   have a3:=mB s p x i k;have a4:(i-1)*p<=60:=by omega
   have ai:(ba s p c (i-1)++bq s p x i k).length<=400:=by
    rw [PM];omega
   refine Th 2 [1,2,5,6,7,19,20] Z<|TD [0,1,2,3,4,5,6,7,8,9,10] [(4,1),(8,1)] Z kr_ fun R S d=>Tj (bkT L 2) U8<|Tk U6<|TS (((i-1:Nat):Int)) U4 om_ om_ om_ U2<|Tk U6<|TG (fun _=>(yp _ s p (i-1) k om_)) U9<|Tj (bkT L 2) U8<|Tm 2 Z<|TG (fun _=>(yp _ s p i k om_)) U9<|C6 2 [1,2,5,6,8,9,19,20] d Z<|G.cut (fun fr F f t=>∃ (bz e:Nat),(True)/\fr=[(1,[],.slice H c.length c0),(2,[],.pointer (some ⟨I,0,none⟩)),(5,[],o),(6,[],.int .i64 i),(8,[],.int .i64 ((((i-1)*p+k:Nat)):Int)),(9,[],.int .i64 (((i*p+k:Nat)):Int)),(10,[],.pointer (some ⟨e,0,none⟩)),(19,[],.int .i64 p),(20,[],.int .i64 k)]/\f=[.arr (.slice (some ⟨bz,0,none⟩) (s*p) (s*p)) 32 1 (s*p) (List.replicate (s*p) (af [48])),.obj e (.cells ⟨[.slice (some ⟨bz,0,none⟩) (s*p) (s*p),af (qtx (-x.min))]⟩ 140 (0,0)),.arr o 140 2 (ba s p c (i-1)++bq s p x i k).length (aB g (ba s p c (i-1)++bq s p x i k)).flatten]) ?_ (fun fr a5 a6 t a7 z=>?_)
   ·refine Uf (.cut [0,2,3,4,5] (.alt 1 (.fin [6,7,8,9,10]) (.alt 6 (.cut [] (.alt 1 (.fin [7,8,9,10]) (.alt 9 (.fin [1,7,8,10]) .stop))) (.alt 9 (.cut [] (.alt 1 (.fin [6,7,8,10]) (.alt 6 (.fin [1,7,8,10]) .stop))) .stop)))) [(7,1),(1,3)] Z Z kr_ fun R S d B=>Tj (bkT L 2) U8<|Tm 2 Z<|Ty K.m_ U10 om_ (co M) fl_ fun a8 aq=>UD aq U10 fl_ fun a9 T=>TV B Z ⟨?_, ?_, ?_,trivial⟩
    ·refine D.call (fV _ s p om_) Z (.inr dc_) U6 (PI _) fl_ fun U V W _ E=>Tj T.m_ U8<|TU (fun _=>(eF _ x.min (CS N))) U9 ?_;obtain ⟨bz,rfl,rfl⟩:=E;refine TA [.slice (some ⟨bz,0,none⟩) (s*p:Nat) (s*p:Nat),af (qtx (-x.min))] U8<|TB U5 (fun e=>?_)
     first | refine Ui (j:=0) U12 ?_ | refine Ui (j:=1) U12 ?_
     exact Tn [1,2,5,6,8,9,10,19,20] d Z<|G.perm (L':=[.arr (.slice (some ⟨bz,0,none⟩) (s*p) (s*p)) 32 1 (s*p) (List.replicate (s*p) (af [48])),.obj e (.cells ⟨[.slice (some ⟨bz,0,none⟩) (s*p) (s*p),af (qtx (-x.min))]⟩ 140 (0,0)),.arr o 140 2 (ba s p c (i-1)++bq s p x i k).length (aB g (ba s p c (i-1)++bq s p x i k)).flatten]) (by first | exact PI _ | exact List.Perm.swap _ _ _)<|Tx 0 mup (hn_ [1,2,5,6,8,9,10,19,20] Z) ⟨bz,e,trivial,Z,Z⟩
    ·refine Tj T.m_ U8<|TV B Z ⟨?_, ?_,trivial⟩
     ·refine D.call (fV _ s p om_) Z (.inr dc_) U6 (PI _) fl_ fun U V W _ E=>TU (fun _=>(eF _ x.min (CS N))) U9 ?_;obtain ⟨bz,rfl,rfl⟩:=E;refine TA [.slice (some ⟨bz,0,none⟩) (s*p:Nat) (s*p:Nat),af (qtx (-x.min))] U8<|TB U5 (fun e=>?_)
      first | refine Ui (j:=0) U12 ?_ | refine Ui (j:=1) U12 ?_
      exact Tn [1,2,5,6,8,9,10,19,20] d Z<|G.perm (L':=[.arr (.slice (some ⟨bz,0,none⟩) (s*p) (s*p)) 32 1 (s*p) (List.replicate (s*p) (af [48])),.obj e (.cells ⟨[.slice (some ⟨bz,0,none⟩) (s*p) (s*p),af (qtx (-x.min))]⟩ 140 (0,0)),.arr o 140 2 (ba s p c (i-1)++bq s p x i k).length (aB g (ba s p c (i-1)++bq s p x i k)).flatten]) (by first | exact PI _ | exact List.Perm.swap _ _ _)<|Tx 0 mup (hn_ [1,2,5,6,8,9,10,19,20] Z) ⟨bz,e,trivial,Z,Z⟩
     refine TB U5 fun e=>D.call (fV _ s p om_) Z (.inr dc_) U6 (PI _) fl_ fun U V W _ E=>TU (fun _=>(eF _ x.min (CS N))) U9 ?_;obtain ⟨bz,rfl,rfl⟩:=E;refine TA [.slice (some ⟨bz,0,none⟩) (s*p:Nat) (s*p:Nat),af (qtx (-x.min))] U8 ?_
     first | refine Ui (j:=0) U12 ?_ | refine Ui (j:=1) U12 ?_
     exact Tn [1,2,5,6,8,9,10,19,20] d Z<|G.perm (L':=[.arr (.slice (some ⟨bz,0,none⟩) (s*p) (s*p)) 32 1 (s*p) (List.replicate (s*p) (af [48])),.obj e (.cells ⟨[.slice (some ⟨bz,0,none⟩) (s*p) (s*p),af (qtx (-x.min))]⟩ 140 (0,0)),.arr o 140 2 (ba s p c (i-1)++bq s p x i k).length (aB g (ba s p c (i-1)++bq s p x i k)).flatten]) (by first | exact PI _ | exact List.Perm.swap _ _ _)<|Tx 0 mup (hn_ [1,2,5,6,8,9,10,19,20] Z) ⟨bz,e,trivial,Z,Z⟩
    refine TB U5 fun e=>TV B Z ⟨?_, ?_,trivial⟩
    ·refine D.call (fV _ s p om_) Z (.inr dc_) U6 (PI _) fl_ fun U V W _ E=>Tj T.m_ U8<|TU (fun _=>(eF _ x.min (CS N))) U9 ?_;obtain ⟨bz,rfl,rfl⟩:=E;refine TA [.slice (some ⟨bz,0,none⟩) (s*p:Nat) (s*p:Nat),af (qtx (-x.min))] U8 ?_
     first | refine Ui (j:=0) U12 ?_ | refine Ui (j:=1) U12 ?_
     exact Tn [1,2,5,6,8,9,10,19,20] d Z<|G.perm (L':=[.arr (.slice (some ⟨bz,0,none⟩) (s*p) (s*p)) 32 1 (s*p) (List.replicate (s*p) (af [48])),.obj e (.cells ⟨[.slice (some ⟨bz,0,none⟩) (s*p) (s*p),af (qtx (-x.min))]⟩ 140 (0,0)),.arr o 140 2 (ba s p c (i-1)++bq s p x i k).length (aB g (ba s p c (i-1)++bq s p x i k)).flatten]) (by first | exact PI _ | exact List.Perm.swap _ _ _)<|Tx 0 mup (hn_ [1,2,5,6,8,9,10,19,20] Z) ⟨bz,e,trivial,Z,Z⟩
    refine Tj T.m_ U8<|D.call (fV _ s p om_) Z (.inr dc_) U6 (PI _) fl_ fun U V W _ E=>TU (fun _=>(eF _ x.min (CS N))) U9 ?_;obtain ⟨bz,rfl,rfl⟩:=E;refine TA [.slice (some ⟨bz,0,none⟩) (s*p:Nat) (s*p:Nat),af (qtx (-x.min))] U8 ?_
    first | refine Ui (j:=0) U12 ?_ | refine Ui (j:=1) U12 ?_
    exact Tn [1,2,5,6,8,9,10,19,20] d Z<|G.perm (L':=[.arr (.slice (some ⟨bz,0,none⟩) (s*p) (s*p)) 32 1 (s*p) (List.replicate (s*p) (af [48])),.obj e (.cells ⟨[.slice (some ⟨bz,0,none⟩) (s*p) (s*p),af (qtx (-x.min))]⟩ 140 (0,0)),.arr o 140 2 (ba s p c (i-1)++bq s p x i k).length (aB g (ba s p c (i-1)++bq s p x i k)).flatten]) (by first | exact PI _ | exact List.Perm.swap _ _ _)<|Tx 0 mup (hn_ [1,2,5,6,8,9,10,19,20] Z) ⟨bz,e,trivial,Z,Z⟩
   obtain ⟨bz,e,_,rfl,rfl⟩:=z;refine G.cut (fun fr F f t=>(True)/\fr=[(1,[],.slice H c.length c0),(2,[],.pointer (some ⟨I,0,none⟩)),(5,[],o),(6,[],.int .i64 i),(8,[],.int .i64 ((((i-1)*p+k:Nat)):Int)),(9,[],.int .i64 (((i*p+k:Nat)):Int)),(10,[],.pointer (some ⟨e,0,none⟩)),(19,[],.int .i64 p),(20,[],.int .i64 k)]/\f=[.arr (.slice (some ⟨bz,0,none⟩) (s*p) (s*p)) 32 1 (s*p) (kV (s*p) [(i*p+k, -1),((i-1)*p+k,1)]),.obj e (.cells ⟨[.slice (some ⟨bz,0,none⟩) (s*p) (s*p),af (qtx (-x.min))]⟩ 140 (0,0)),.arr o 140 2 (ba s p c (i-1)++bq s p x i k).length (aB g (ba s p c (i-1)++bq s p x i k)).flatten]) ?_ (fun fr bb bc t bd z=>?_)
   ·refine Uf (.cut [0,1,2,3,5,6] (.alt 4 (.fin [7,8,9]) (.alt 7 (.fin [4,8,9]) .stop))) [] Z Z kr_ fun R S d B=>Tk U6<|To ae U9<|Tm 3 Z<|TL (((i-1)*p+k)) U10 (fun _=>⟨by omega,by omega,(QD _).symm⟩) U2<|TV B Z ⟨?_, ?_,trivial⟩
    ·refine To ae U9<|TP (j:=0) U11 (by simp [];omega)<|TL ((i*p+k)) U10 (fun _=>⟨by omega,by omega,(QD _).symm⟩) U2<|TP (j:=0) U11 (by simp [aE];omega)<|Tn [1,2,5,6,8,9,10,19,20] d Z<|Tz (L':=[.arr (.slice (some ⟨bz,0,none⟩) (s*p) (s*p)) 32 1 (s*p) (kV (s*p) [(i*p+k, -1),((i-1)*p+k,1)]),.obj e (.cells ⟨[.slice (some ⟨bz,0,none⟩) (s*p) (s*p),af (qtx (-x.min))]⟩ 140 (0,0)),.arr o 140 2 (ba s p c (i-1)++bq s p x i k).length (aB g (ba s p c (i-1)++bq s p x i k)).flatten]) (by
      first
      | (rw [<- st2 (n:=s*p) 1 (-1) om_ om_,dE,cV];rfl)
      | (rw [<- OR (n:=s*p) 1 (-1) om_ om_ om_,dE,cV];rfl)) ?_
     exact Tx 0 (Mem.le.refl _) (hn_ [1,2,5,6,8,9,10,19,20] Z) ⟨trivial,Z,Z⟩
    refine TP (j:=0) U11 (by simp [];omega)<|To ae U9<|TL ((i*p+k)) U10 (fun _=>⟨by omega,by omega,(QD _).symm⟩) U2<|TP (j:=0) U11 (by simp [aE];omega)<|Tn [1,2,5,6,8,9,10,19,20] d Z<|Tz (L':=[.arr (.slice (some ⟨bz,0,none⟩) (s*p) (s*p)) 32 1 (s*p) (kV (s*p) [(i*p+k, -1),((i-1)*p+k,1)]),.obj e (.cells ⟨[.slice (some ⟨bz,0,none⟩) (s*p) (s*p),af (qtx (-x.min))]⟩ 140 (0,0)),.arr o 140 2 (ba s p c (i-1)++bq s p x i k).length (aB g (ba s p c (i-1)++bq s p x i k)).flatten]) (by
     first
     | (rw [<- st2 (n:=s*p) 1 (-1) om_ om_,dE,cV];rfl)
     | (rw [<- OR (n:=s*p) 1 (-1) om_ om_ om_,dE,cV];rfl)) ?_
    exact Tx 0 (Mem.le.refl _) (hn_ [1,2,5,6,8,9,10,19,20] Z) ⟨trivial,Z,Z⟩
   obtain ⟨_,rfl,rfl⟩:=z;refine G.freezeArr 0 ((rD (s*p) [(i*p+k, -1),((i-1)*p+k,1)]).map ec) rfl (je _ _) (by intro r hr;obtain ⟨y,_,rfl⟩:=PK.1 hr;rfl) (by simp [jB]) (fun Cz hz ar=>?_);have au:=Y.1;have ab:=RowsOk.snoc (r:=rS s p x i k) Y.m_ ar;have av:=eE au (.slice (some ⟨bz,0,none⟩) (s*p) (s*p)) (rS s p x i k);refine Ti 1 Z fun R d=>To ag U9<|TF [[.slice (some ⟨bz,0,none⟩) (s*p:Nat) (s*p:Nat),af (qtx (-x.min))]] U12 fun be _ _ ax=>D.append (j:=1) U11 ax Z aw (by simp only [PD];omega) fl_ fun A=>C6 1 [1,2,5,6,8,9,10,19,20] d Z<|Tz (L':=[.arr A 140 2 (ba s p c (i-1)++bq s p x i k++[rS s p x i k]).length (aB (g++[.slice (some ⟨bz,0,none⟩) (s*p) (s*p)]) (ba s p c (i-1)++bq s p x i k++[rS s p x i k])).flatten,.obj e (.cells ⟨[.slice (some ⟨bz,0,none⟩) (s*p) (s*p),af (qtx (-x.min))]⟩ 140 (0,0))]) (by rw [av];simp [rS];omega)<|Ti 2 Z fun R d=>Ty K.m_ U10 om_ (co M) fl_ fun bf ay=>UD ay U10 fl_ fun bg az=>Tj az U8<|C6 1 [1,2,5,6,8,9,10,19,20,58] d Z<|G.cd (fun J=>?_) fun J=>?_
   ·obtain ⟨m,hm⟩:∃ m,x.max=some m:=by
     rw [pp] at J;exact SE.1 J
    have O:kg s p x i k=[rS s p x i k,Gj s p m i k]:=by unfold kg;rw [hm]
    have aA:ve x.max=qtx m:=by rw [hm];rfl
    refine G.cut (fun fr F f t=>∃ (h:Nat),(True)/\fr=[(1,[],.slice H c.length c0),(2,[],.pointer (some ⟨I,0,none⟩)),(5,[],A),(6,[],.int .i64 i),(8,[],.int .i64 ((((i-1)*p+k:Nat)):Int)),(9,[],.int .i64 (((i*p+k:Nat)):Int)),(10,[],.pointer (some ⟨e,0,none⟩)),(19,[],.int .i64 p),(20,[],.int .i64 k)]/\f=[.arr (.slice (some ⟨h,0,none⟩) (s*p) (s*p)) 32 1 (s*p) (List.replicate (s*p) (af [48])),.obj e (.cells ⟨[.slice (some ⟨h,0,none⟩) (s*p) (s*p),af (ve x.max)]⟩ 140 (0,0)),.arr A 140 2 (ba s p c (i-1)++bq s p x i k++[rS s p x i k]).length (aB (g++[.slice (some ⟨bz,0,none⟩) (s*p) (s*p)]) (ba s p c (i-1)++bq s p x i k++[rS s p x i k])).flatten]) ?_ (fun fr bh bi t bj z=>?_)
    ·refine Uf (.cut [0,2,3,4,5] (.alt 1 (.fin [6,7,8]) (.alt 6 (.fin [1,7,8]) .stop))) [(1,3)] Z Z kr_ fun R S d B=>Tj (bkT L 2) U8<|Tm 2 Z<|Ty K.m_ U10 om_ (co M) fl_ fun bk aC=>UD aC U10 fl_ fun bl ak=>TV B Z ⟨?_, ?_,trivial⟩
     ·refine D.call (fV _ s p om_) Z (.inr dc_) U6 (PI _) fl_ fun aD aF aG _ ac=>Tj ak.m_ U8 ?_;obtain ⟨h,rfl,rfl⟩:=ac;refine TA [.slice (some ⟨h,0,none⟩) (s*p:Nat) (s*p:Nat),af (ve x.max)] U8 ?_
      first | refine Ui (j:=2) U12 ?_ | refine Ui (j:=1) U12 ?_
      exact Tn [1,2,5,6,8,9,10,19,20] d Z<|G.perm (L':=[.arr (.slice (some ⟨h,0,none⟩) (s*p) (s*p)) 32 1 (s*p) (List.replicate (s*p) (af [48])),.obj e (.cells ⟨[.slice (some ⟨h,0,none⟩) (s*p) (s*p),af (ve x.max)]⟩ 140 (0,0)),.arr A 140 2 (ba s p c (i-1)++bq s p x i k++[rS s p x i k]).length (aB (g++[.slice (some ⟨bz,0,none⟩) (s*p) (s*p)]) (ba s p c (i-1)++bq s p x i k++[rS s p x i k])).flatten]) (by first | exact PI _ | exact List.Perm.swap _ _ _)<|Tx 0 mup (hn_ [1,2,5,6,8,9,10,19,20] Z) ⟨h,trivial,Z,Z⟩
     refine Tj ak.m_ U8<|D.call (fV _ s p om_) Z (.inr dc_) U6 (PI _) fl_ (fun aD aF aG _ ac=>?_);obtain ⟨h,rfl,rfl⟩:=ac;refine TA [.slice (some ⟨h,0,none⟩) (s*p:Nat) (s*p:Nat),af (ve x.max)] U8 ?_
     first | refine Ui (j:=2) U12 ?_ | refine Ui (j:=1) U12 ?_
     exact Tn [1,2,5,6,8,9,10,19,20] d Z<|G.perm (L':=[.arr (.slice (some ⟨h,0,none⟩) (s*p) (s*p)) 32 1 (s*p) (List.replicate (s*p) (af [48])),.obj e (.cells ⟨[.slice (some ⟨h,0,none⟩) (s*p) (s*p),af (ve x.max)]⟩ 140 (0,0)),.arr A 140 2 (ba s p c (i-1)++bq s p x i k++[rS s p x i k]).length (aB (g++[.slice (some ⟨bz,0,none⟩) (s*p) (s*p)]) (ba s p c (i-1)++bq s p x i k++[rS s p x i k])).flatten]) (by first | exact PI _ | exact List.Perm.swap _ _ _)<|Tx 0 mup (hn_ [1,2,5,6,8,9,10,19,20] Z) ⟨h,trivial,Z,Z⟩
    obtain ⟨h,_,rfl,rfl⟩:=z;refine G.cut (fun fr F f t=>(True)/\fr=[(1,[],.slice H c.length c0),(2,[],.pointer (some ⟨I,0,none⟩)),(5,[],A),(6,[],.int .i64 i),(10,[],.pointer (some ⟨e,0,none⟩)),(19,[],.int .i64 p),(20,[],.int .i64 k)]/\f=[.arr (.slice (some ⟨h,0,none⟩) (s*p) (s*p)) 32 1 (s*p) (kV (s*p) [(i*p+k,1),((i-1)*p+k, -1)]),.obj e (.cells ⟨[.slice (some ⟨h,0,none⟩) (s*p) (s*p),af (ve x.max)]⟩ 140 (0,0)),.arr A 140 2 (ba s p c (i-1)++bq s p x i k++[rS s p x i k]).length (aB (g++[.slice (some ⟨bz,0,none⟩) (s*p) (s*p)]) (ba s p c (i-1)++bq s p x i k++[rS s p x i k])).flatten]) ?_ (fun fr bm bn t bo z=>?_)
    ·refine Uf (.cut [0,1,2,3,5,6] (.alt 4 (.fin [7,8,9]) (.alt 7 (.fin [4,8,9]) .stop))) [] Z Z kr_ fun R S d B=>Tk U6<|To ae U9<|Tm 3 Z<|TL (((i-1)*p+k)) U10 (fun _=>⟨by omega,by omega,(QD _).symm⟩) U2<|TV B Z ⟨?_, ?_,trivial⟩
     ·refine To ae U9<|TP (j:=0) U11 (by simp [];omega)<|TL ((i*p+k)) U10 (fun _=>⟨by omega,by omega,(QD _).symm⟩) U2<|TP (j:=0) U11 (by simp [aE];omega)<|Tn [1,2,5,6,10,19,20] d Z<|Tz (L':=[.arr (.slice (some ⟨h,0,none⟩) (s*p) (s*p)) 32 1 (s*p) (kV (s*p) [(i*p+k,1),((i-1)*p+k, -1)]),.obj e (.cells ⟨[.slice (some ⟨h,0,none⟩) (s*p) (s*p),af (ve x.max)]⟩ 140 (0,0)),.arr A 140 2 (ba s p c (i-1)++bq s p x i k++[rS s p x i k]).length (aB (g++[.slice (some ⟨bz,0,none⟩) (s*p) (s*p)]) (ba s p c (i-1)++bq s p x i k++[rS s p x i k])).flatten]) (by
       first
       | (rw [<- st2 (n:=s*p) (-1) 1 om_ om_,dE,cV];rfl)
       | (rw [<- OR (n:=s*p) (-1) 1 om_ om_ om_,dE,cV];rfl)) ?_
      exact Tx 0 (Mem.le.refl _) (hn_ [1,2,5,6,10,19,20] Z) ⟨trivial,Z,Z⟩
     refine TP (j:=0) U11 (by simp [];omega)<|To ae U9<|TL ((i*p+k)) U10 (fun _=>⟨by omega,by omega,(QD _).symm⟩) U2<|TP (j:=0) U11 (by simp [aE];omega)<|Tn [1,2,5,6,10,19,20] d Z<|Tz (L':=[.arr (.slice (some ⟨h,0,none⟩) (s*p) (s*p)) 32 1 (s*p) (kV (s*p) [(i*p+k,1),((i-1)*p+k, -1)]),.obj e (.cells ⟨[.slice (some ⟨h,0,none⟩) (s*p) (s*p),af (ve x.max)]⟩ 140 (0,0)),.arr A 140 2 (ba s p c (i-1)++bq s p x i k++[rS s p x i k]).length (aB (g++[.slice (some ⟨bz,0,none⟩) (s*p) (s*p)]) (ba s p c (i-1)++bq s p x i k++[rS s p x i k])).flatten]) (by
      first
      | (rw [<- st2 (n:=s*p) (-1) 1 om_ om_,dE,cV];rfl)
      | (rw [<- OR (n:=s*p) (-1) 1 om_ om_ om_,dE,cV];rfl)) ?_
     exact Tx 0 (Mem.le.refl _) (hn_ [1,2,5,6,10,19,20] Z) ⟨trivial,Z,Z⟩
    obtain ⟨_,rfl,rfl⟩:=z;refine G.freezeArr 0 ((rD (s*p) [(i*p+k,1),((i-1)*p+k, -1)]).map ec) rfl (je _ _) (by intro r hr;obtain ⟨y,_,rfl⟩:=PK.1 hr;rfl) (by simp [jB]) (fun bp br aH=>?_);have aI:=RowsOk.snoc (r:=Gj s p m i k) ab.m_ aH;have aJ:=eE ab.1 (.slice (some ⟨h,0,none⟩) (s*p) (s*p)) (Gj s p m i k);refine Ti 1 Z fun R d=>To ag U9<|TF [[.slice (some ⟨h,0,none⟩) (s*p:Nat) (s*p:Nat),af (ve x.max)]] U12 fun bs _ _ aK=>D.append (j:=1) U11 aK Z (by simp only [PM,PD,maxLen] at ai ⊢;omega) (by simp only [PM,PD] at ai ⊢;omega) fl_ fun am=>C6 1 [1,2,5,6,19,20] d Z<|Tl fun R d=>Tq _ Z U6<|C6 1 [1,2,5,6,19,20] d Z<|Ua 1 Z<|Tz (L':=[.arr am 140 2 (ba s p c (i-1)++bq s p x i (k+1)).length (aB (g++[.slice (some ⟨bz,0,none⟩) (s*p) (s*p)]++[.slice (some ⟨h,0,none⟩) (s*p) (s*p)]) (ba s p c (i-1)++bq s p x i (k+1))).flatten]) (by
     rw [bq,O,<- Qb,show ∀ (l:List RowQ)(a b:RowQ),l++[a,b]=l++[a]++[b] from fun l a b=>by simp,aJ,aA];simp [Gj];omega) ?_
    refine Tv (m':=p-(k+1)) om_ mup (hn_ [1,2,5,6,19,20] Z) ⟨k+1,_,am,⟨by omega,by
     rw [bq,O,<- Qb,show ∀ (l:List RowQ)(a b:RowQ),l++[a,b]=l++[a]++[b] from fun l a b=>by simp];exact aI.mono mup⟩,Z,Z,Z⟩
   have hm:x.max=none:=by
    rw [pp] at J;cases aL:x.max with
    | none=>rfl
    | some q=>rw [aL] at J;cases J
   have O:kg s p x i k=[rS s p x i k]:=by unfold kg;rw [hm]
   refine Tl fun R d=>Tq _ Z U6<|C6 1 [1,2,5,6,19,20] d Z<|Ua 1 Z<|Tz (L':=[.arr A 140 2 (ba s p c (i-1)++bq s p x i (k+1)).length (aB (g++[.slice (some ⟨bz,0,none⟩) (s*p) (s*p)]) (ba s p c (i-1)++bq s p x i (k+1))).flatten]) (by rw [bq,O,<- Qb];rfl)<|Tv (m':=p-(k+1)) om_ mup (hn_ [1,2,5,6,19,20] Z) ⟨k+1,_,A,⟨by omega,by
    rw [bq,O,<- Qb];exact ab.mono mup⟩,Z,Z,Z⟩
  have ah:k=p:=by
   have:¬ k<p:=by simpa using aa
   omega
  have an:ba s p c (i-1)++bq s p x i k=ba s p c i:=by
   obtain ⟨j,rfl⟩:∃ j,i=j+1:=⟨i-1,by omega⟩;rw [ah,RP,ba,KH M]
  refine Ti 1 Z fun R d=>Tq _ Z U6<|C6 1 [1,2,5,6] d Z<|Tz (L':=[.arr o 140 2 (ba s p c (i+1-1)).length (aB g (ba s p c (i+1-1))).flatten]) (by rw [an];rfl)<|Tv (m':=c.length-(i+1)) om_ mup (hn_ [1,2,5,6] Z) ⟨i+1,g,o,⟨by omega,.inl om_,by rw [RP,<- an];exact Y⟩,Z,Z,Z⟩
 have ad:i-1=c.length-2:=by
  have:=PJ X;omega
 refine Th 2 [4] Z ?_;rw [ad] at Q ⊢;exact G.freezeArr 0 (aB vs (ba s p c (c.length-2))) Z Z (bT _ _) (bI Q.1) fun Cg hg aM=>Tp U2<|⟨Z,vs,Q.mono mup,aM⟩
theorem jO {l:List (Nat × Rat)}(q:Rat)(h:k ∉ l.map (·.1)):iw (eK l) ((k:Nat):Int) (af (qtx q))=eK (l++[(k,q)]):=by
 rw [jI (by
  rw [cA];unfold eK;rw [QC];intro hm;obtain ⟨x,a,b⟩:=PK.1 hm;have:x.1=k:=by
   have h2:((x.1:Nat):Int)=(k:Int):=b;omega
  exact h (this ▸ RL (f:=(·.1)) a))]
 simp [eK]
theorem qG (a c:Pt):cK a a c=0/\cK c a a=0/\cK a c a=0:=by
 unfold cK;refine ⟨?_, ?_, ?_⟩ <;> grind
theorem tr {a:List Pt}{b:List Tri}(c:MeshOk a b)(d:t∈b):t.1≠t.2.1/\t.1≠t.2.2/\t.2.1≠t.2.2:=by
 have h:=ic c d;refine ⟨fun e=>h ?_,fun e=>h ?_,fun e=>h ?_⟩
 ·have:cor a t 1=cor a t 0:=by show a.getD t.2.1 _=a.getD t.1 _;rw [e]
  rw [this];exact (qG _ _).1
 ·have:cor a t 2=cor a t 0:=by show a.getD t.2.2 _=a.getD t.1 _;rw [e]
  rw [this];exact (qG _ _).2.2
 have:cor a t 2=cor a t 1:=by show a.getD t.2.2 _=a.getD t.2.1 _;rw [e]
 rw [this];exact (qG _ _).2.1
def atT (t:Tri)(f:Nat->Rat):List (Nat × Rat):=[(t.1,f 0),(t.2.1,f 1),(t.2.2,f 2)]
theorem qD (f:Nat->Rat)(h:t.1≠t.2.1/\t.1≠t.2.2/\t.2.1≠t.2.2):((atT t f).map (·.1)).Nodup:=by
 simp [atT,h.1,h.2.1,h.2.2]
theorem DE (C:Mem)(w:Tabs C)(x:Value)(c:List Pt)(e:List Tri)(p:Pt)(i:Nat)(r:List Nat)(t:Tri)(y:MeshIn C x c e)(k:Good c e)(z:QP 23 p)(A:PtR p)(K:jL c e p=i::r)(g:e[i]?=some t)(L:∀ j,QB 22 (wgt c t p j)) :
  Pur cx.P 242 [x,ptV p] C fun u D=>∃ b,u=.tuple #[.map (some b),.int .i64 (i:Nat),.int .i64 0]/\D b=some (aV keyZ.enc (eK (atT t (wgt c t p)))):=by
 have M:=k.ok;have n:=y;have ad:=(aJ.1 g).1;obtain ⟨N,O,Q⟩:=tr M (O0 g);obtain ⟨v1,v2,rfl,h1,h2⟩:=id y.ex;obtain ⟨A2,c2,rfl,S,ae,_⟩:=id h2;have af:maxLen<=9223372036854775807:=by simp [maxLen]
 simp only [al] at h2 n S ⊢;refine Tr func242 54 U3 fun w0=>Tl fun R a=>TC U6 fun b2=>TC U6 fun b3=>C6 3 [2,3] a Z<|G.freeze 1 Z fun _ _ o=>G.freeze 0 Z fun _ _ B=>Tl fun R a=>Tj (bkT o 2) U8<|Tj (bkT B 2) U8<|TT (iX _ w.m_ _ c e p n.m_ k z A) U7 (fun ag _ _ T=>?_);obtain ⟨wv,rfl,f⟩:=T;rw [K] at f;obtain ⟨U,V,E,_⟩:=id f;rw [al] at E;subst E;refine C6 5 [2,3,6,7] a Z<|Th 2 [2,3,6,7,18] Z<|G.cd (fun F=>?_) fun F=>?_
 ·exact absurd F dc_
 refine TD [0,1,2,3,4,5,6,7,8,9,10,11] [(5,1)] Z kr_ fun R H a=>Tj (bkT o 2) U8<|Tk U6<|Ty f.m_ U10 om_ (rfl:(List.map aT (i::r))[0]?=some (aT i)) fl_ fun ai W=>Tj W U8<|Tj (bkT B 2) U8<|TU (fun _=>(oM _ w.m_ _ c e p i t n.m_ k z A g L)) U9<|Tm 3 Z<|TB U5 fun X=>Ts (j:=0) U12<|C6 1 [2,6,7,8] a Z<|Th 2 [2,6,7,8,30] Z<|G.cd (fun I=>?_) fun I=>?_
 ·exact absurd I dc_
 refine G.freeze 0 Z fun _ _ q=>Tl fun R a=>D.makeMap keyZ Z Z Z Z fl_ fun d=>C6 1 [2,4,7,8] a Z<|TD [0,1,2,3,4,5,6,7] [] Z kr_ fun R H a=>Tk U6<|Tj (bkT o 1) U8<|Tk U6<|Ty f.m_ U10 om_ (rfl:(List.map aT (i::r))[0]?=some (aT i)) fl_ fun aj Y=>Tj Y U8<|Ty h2.m_ U10 om_ (co g) fl_ fun ak aa=>Tj aa U8<|C6 1 [4,7,8,39,40] a Z<|G.loop (fun fr C' h μ=>∃ (j:Nat),(j<=3)/\fr=[(4,[],.map (some d)),(7,[],.slice U (i::r).length V),(8,[],.pointer (some ⟨X,0,none⟩)),(39,[],.agg ⟨fU t⟩),(40,[],.int .i64 j)]/\h=[.obj d (aV keyZ.enc (eK ((atT t (wgt c t p)).take j)))]/\μ=3-j) (hn_ [4,7,8,39,40] Z) ⟨0,PL _,Z,Z,Z⟩ (fun fr an ao m s hI=>?_);obtain ⟨j,hj,rfl,rfl,rfl⟩:=hI;refine Th 1 [4,7,8,39,40,41] Z<|G.cd (fun v=>?_) fun v=>?_
 ·have J:j<3:=by
   simp only [PN] at v;omega
  rcases (by omega:j=0∨j=1∨j=2) with rfl | rfl | rfl
  ·refine Ti 1 Z fun R a=>Ud U11 ah U2<|C6 2 [4,7,8,9,10,39,40] a Z<|Ti 3 Z fun R a=>TE (_) U9 ah U2<|Tj (bkT q 1) U8<|D.mapUpdate keyZ (j:=0) Z Z Z Z Z Z Z Z Z Z kr_<|Tn [4,7,8,39,40] a Z<|Tl fun R a=>Tq _ Z U6<|C6 1 [4,7,8,39,40] a Z<|Tz (L':=[.obj d (aV keyZ.enc (eK ((atT t (wgt c t p)).take 1)))]) (congrArg (fun m=>[Ent.obj d (aV keyZ.enc m)]) (jO (l:=[]) _ am))<|Tv (m':=2) om_ s (hn_ [4,7,8,39,40] Z) ⟨1,by decide,Z,Z,Z⟩
  ·refine Ti 1 Z fun R a=>Ud U11 ah U2<|C6 2 [4,7,8,9,10,39,40] a Z<|Ti 3 Z fun R a=>TE (_) U9 ah U2<|Tj (bkT q 1) U8<|D.mapUpdate keyZ (j:=0) Z Z Z Z Z Z Z Z Z Z kr_<|Tn [4,7,8,39,40] a Z<|Tl fun R a=>Tq _ Z U6<|C6 1 [4,7,8,39,40] a Z<|Tz (L':=[.obj d (aV keyZ.enc (eK ((atT t (wgt c t p)).take 2)))]) (congrArg (fun m=>[Ent.obj d (aV keyZ.enc m)]) (jO (l:=[(t.1,wgt c t p 0)]) _ (by simpa using N.symm)))<|Tv (m':=1) om_ s (hn_ [4,7,8,39,40] Z) ⟨2,by decide,Z,Z,Z⟩
  refine Ti 1 Z fun R a=>Ud U11 ah U2<|C6 2 [4,7,8,9,10,39,40] a Z<|Ti 3 Z fun R a=>TE (_) U9 ah U2<|Tj (bkT q 1) U8<|D.mapUpdate keyZ (j:=0) Z Z Z Z Z Z Z Z Z Z kr_<|Tn [4,7,8,39,40] a Z<|Tl fun R a=>Tq _ Z U6<|C6 1 [4,7,8,39,40] a Z<|Tz (L':=[.obj d (aV keyZ.enc (eK ((atT t (wgt c t p)).take 3)))]) (congrArg (fun m=>[Ent.obj d (aV keyZ.enc m)]) (jO (l:=[(t.1,wgt c t p 0),(t.2.1,wgt c t p 1)]) _ (by simp [O.symm,Q.symm])))<|Tv (m':=0) om_ s (hn_ [4,7,8,39,40] Z) ⟨3,by decide,Z,Z,Z⟩
 have J:j=3:=by
  simp only [P7] at v;omega
 subst J;refine G.freeze 0 Z fun Cm ap ab=>TD [0,1,2,3,4,5,6] [] Z kr_ fun R H a=>Tm 2 Z<|Ty f.m_ U10 om_ (rfl:(List.map aT (i::r))[0]?=some (aT i)) fl_ fun aq ac=>Tj ac U8<|C6 3 [4,5,6] a Z<|Tu (G.dropAll (Uk U4 ?_));exact ⟨Z,d,Z,ab⟩
theorem dt (t:Tri)(f:Nat->Rat)(j:Nat)(a:j<3)(h:t.1≠t.2.1/\t.1≠t.2.2/\t.2.1≠t.2.2):iw (eK ((atT t f).take j)) ((fb t j:Nat):Int) (af (qtx (f j)))=eK ((atT t f).take (j+1)):=by
 rcases (by omega:j=0∨j=1∨j=2) with rfl | rfl | rfl
 ·exact jO (l:=[]) _ am
 ·exact jO (l:=[(t.1,f 0)]) (k:=t.2.1) _ (by simpa using h.1.symm)
 exact jO (l:=[(t.1,f 0),(t.2.1,f 1)]) (k:=t.2.2) _ (by simp [h.2.1.symm,h.2.2.symm])
def nv (n k:Nat):List Rat:=rD n [(k,1)]
def slf (pts:List Pt)(t:Tri)(j:Nat):Pt:=dC pts (nv pts.length (fb t j)) t
theorem gn (n k:Nat):(nv n k).length=n:=jB n _
theorem zT :∀ q∈nv n k,q=0∨q=1:=by
 intro q a;unfold nv rD at a;obtain ⟨j,_,rfl⟩:=PK.1 a;simp only [dR];split
 ·exact .inr Z
 exact .inl Z
theorem js :∀ q∈nv n k,QB 1 q:=by
 intro q a;rcases zT q a with rfl | rfl
 ·exact QB_zero
 exact QB_one
theorem DB (C:Mem)(J:Tabs C)(O:Value)(a:List Pt)(s:List Tri)(i:Nat)(t:Tri)(Q:MeshIn C O a s)(E:Good a s)(l:s[i]?=some t)(K:∀ j,QP 22 (slf a t j)) :
  Pur cx.P 248 [O,.int .i64 i] C fun u D=>∃ S T,u=.tuple #[.map (some S),.map (some T),.int .i64 0]/\D S=some (aV keyZ.enc (eK (atT t fun j=>(slf a t j).1)))/\D T=some (aV keyZ.enc (eK (atT t fun j=>(slf a t j).2))):=by
 have L:=E.ok;have F:=Q;have an:=L.lp;have H:=L.ins t (O0 l);obtain ⟨ao,ap,aq⟩:=id H;have ar:=(aJ.1 l).1;obtain ⟨f,g,h⟩:=tr L (O0 l);obtain ⟨v1,v2,rfl,h1,h2⟩:=id Q.ex;obtain ⟨A1,c1,rfl,au,av,_⟩:=id h1;obtain ⟨A2,c2,rfl,ai,aw,_⟩:=id h2;have ax:maxLen<=9223372036854775807:=by simp [maxLen]
 simp only [al] at h1 h2 F ai ⊢;refine Tr func248 51 U3 fun w0=>Tl fun R b=>TC U6 fun I=>C6 3 [1,2] b Z<|G.freeze 0 Z fun _ _ n=>Tl fun R b=>D.makeMap keyZ Z Z Z Z fl_ fun c=>D.makeMap keyZ Z Z Z Z fl_ fun d=>C6 2 [1,2,4,5] b Z<|Ti 1 Z fun R b=>Tj (bkT n 1) U8<|Tk U6<|Ty h2.m_ U10 om_ (co l) fl_ fun ay aj=>Tj aj U8<|C6 1 [1,2,4,5,18,19] b Z<|G.perm (L':=[.obj c (aV keyZ.enc (eK [])),.obj d (aV keyZ.enc (eK []))]) (List.Perm.swap _ _ _)<|G.loop (fun fr M e o=>∃ (j:Nat),(j<=3)/\fr=[(1,[],.int .i64 i),(2,[],.pointer (some ⟨I,0,none⟩)),(4,[],.map (some c)),(5,[],.map (some d)),(18,[],.agg ⟨fU t⟩),(19,[],.int .i64 j)]/\e=[.obj c (aV keyZ.enc (eK ((atT t fun j=>(slf a t j).1).take j))),.obj d (aV keyZ.enc (eK ((atT t fun j=>(slf a t j).2).take j)))]/\o=3-j) (hn_ [1,2,4,5,18,19] Z) ⟨0,PL _,Z,Z,Z⟩ (fun fr az aA m _ p=>?_);obtain ⟨j,hj,rfl,rfl,rfl⟩:=p;refine Th 1 [1,2,4,5,18,19,20] Z<|G.cd (fun N=>?_) fun N=>?_
 ·have U:j<3:=by
   simp only [PN] at N;omega
  rcases (by omega:j=0∨j=1∨j=2) with rfl | rfl | rfl
  ·refine Tl fun R b=>Ud U11 ah U2<|C6 1 [1,2,4,5,8,18,19] b Z<|TH [(4,3)] Z fun R b=>TF [[af [48]]] U12 fun V W _ v=>Tk U6<|Tj (bkT n 1) U8<|Tk U6<|D.call (mG _ _ a.length [48] v.m_ om_) Z (.inr dc_) U6 (PI _) fl_ fun X Y aa _ w=>C6 1 [1,2,4,5,8,9,18,19] b Z ?_;obtain ⟨bz,rfl,rfl⟩:=w;have x:fb t 0<a.length:=eB H 0;refine Tz (L':=[.arr (.slice (some ⟨bz,0,none⟩) a.length a.length) 32 1 a.length (kV a.length []),.obj c (aV keyZ.enc (eK ((atT t fun j=>(slf a t j).1).take 0))),.obj d (aV keyZ.enc (eK ((atT t fun j=>(slf a t j).2).take 0)))]) (by rw [lS];rfl)<|Ti 2 Z fun R b=>TL ((fb t 0)) U10 (fun _=>⟨by omega,by omega,(QD _).symm⟩) U2<|TP (j:=0) U11 (by rw [lT];simp;omega)<|Tn [1,2,4,5,8,9,18,19] b Z<|Tz (L':=[.arr (.slice (some ⟨bz,0,none⟩) a.length a.length) 32 1 a.length (kV a.length [(fb t 0,1)]),.obj c (aV keyZ.enc (eK ((atT t fun j=>(slf a t j).1).take 0))),.obj d (aV keyZ.enc (eK ((atT t fun j=>(slf a t j).2).take 0)))]) (by rw [<- fB [] 1 x,dE];rfl)<|G.freezeArr 0 ((nv a.length (fb t 0)).map ec) rfl (je _ _) (by intro r hr;obtain ⟨y,_,rfl⟩:=PK.1 hr;rfl) (by rw [al,gn]) fun Cz hz z=>Tl fun R b=>Tj (bkT n 2) U8<|Tm 2 Z<|Tw (tx _ J.m_ _ _ a s (nv a.length (fb t 0)) 1 dc_ dc_ F.m_ E z.m_ (gn _ _) js (fun q A=>bB ((js q A).le dc_)) i t l (K 0)) U7 fl_<|Tm 3 Z<|TB U5 fun ab=>Ts (j:=0) U12<|C6 1 [1,2,4,5,8,10,11,18,19] b Z<|Th 2 [1,2,4,5,8,10,11,18,19,38] Z<|G.cd (fun ac=>?_) fun ac=>?_
   ·exact absurd ac dc_
   refine G.freeze 0 Z fun ad _ k=>G.cut (fun fr M e o=>(True)/\fr=[(1,[],.int .i64 i),(2,[],.pointer (some ⟨I,0,none⟩)),(4,[],.map (some c)),(5,[],.map (some d)),(18,[],.agg ⟨fU t⟩),(19,[],.int .i64 ((0:Nat):Int))]/\e=[.obj c (aV keyZ.enc (eK ((atT t fun j=>(slf a t j).1).take (0+1)))),.obj d (aV keyZ.enc (eK ((atT t fun j=>(slf a t j).2).take (0+1))))]) ?_ (fun fr aB aC o aD p=>?_)
   ·refine Uf (.cut [0,1,2,3,4,5,6] (.alt 7 (.fin [8,9]) (.alt 8 (.fin [7,9]) .stop))) [] Z Z kr_ fun R hB b B=>Tm 5 Z<|Tj (bkT k 1) U8<|Tk U6<|TV B Z ⟨?_, ?_,trivial⟩
    ·refine Tj (bkT k 1) U8 ?_
     first | refine D.mapUpdate keyZ (j:=0) rfl rfl rfl rfl rfl rfl rfl rfl rfl rfl kr_ ?_ | refine D.mapUpdate keyZ (j:=1) rfl rfl rfl rfl rfl rfl rfl rfl rfl rfl kr_ ?_
     first | refine D.mapUpdate keyZ (j:=1) rfl rfl rfl rfl rfl rfl rfl rfl rfl rfl kr_ ?_ | refine D.mapUpdate keyZ (j:=0) rfl rfl rfl rfl rfl rfl rfl rfl rfl rfl kr_ ?_
     refine Tn [1,2,4,5,18,19] b Z<|G.perm (L':=[.obj c (aV keyZ.enc (eK ((atT t fun j=>(slf a t j).1).take (0+1)))),.obj d (aV keyZ.enc (eK ((atT t fun j=>(slf a t j).2).take (0+1))))]) (by
      rw [<- dt t (fun j=>(slf a t j).1) 0 dc_ ⟨f,g,h⟩,<- dt t (fun j=>(slf a t j).2) 0 dc_ ⟨f,g,h⟩]
      first | exact PI _ | exact List.Perm.swap _ _ _) ?_
     exact Tx 0 (Mem.le.refl _) (hn_ [1,2,4,5,18,19] Z) ⟨trivial,Z,Z⟩
    first | refine D.mapUpdate keyZ (j:=0) rfl rfl rfl rfl rfl rfl rfl rfl rfl rfl kr_ ?_ | refine D.mapUpdate keyZ (j:=1) rfl rfl rfl rfl rfl rfl rfl rfl rfl rfl kr_ ?_
    refine Tj (bkT k 1) U8 ?_
    first | refine D.mapUpdate keyZ (j:=1) rfl rfl rfl rfl rfl rfl rfl rfl rfl rfl kr_ ?_ | refine D.mapUpdate keyZ (j:=0) rfl rfl rfl rfl rfl rfl rfl rfl rfl rfl kr_ ?_
    refine Tn [1,2,4,5,18,19] b Z<|G.perm (L':=[.obj c (aV keyZ.enc (eK ((atT t fun j=>(slf a t j).1).take (0+1)))),.obj d (aV keyZ.enc (eK ((atT t fun j=>(slf a t j).2).take (0+1))))]) (by
     rw [<- dt t (fun j=>(slf a t j).1) 0 dc_ ⟨f,g,h⟩,<- dt t (fun j=>(slf a t j).2) 0 dc_ ⟨f,g,h⟩]
     first | exact PI _ | exact List.Perm.swap _ _ _) ?_
    exact Tx 0 (Mem.le.refl _) (hn_ [1,2,4,5,18,19] Z) ⟨trivial,Z,Z⟩
   obtain ⟨_,rfl,rfl⟩:=p;refine Tl fun R b=>Tq _ Z U6<|C6 1 [1,2,4,5,18,19] b Z<|Tv (m':=2) om_ mup (hn_ [1,2,4,5,18,19] Z) ⟨1,by decide,Z,Z,Z⟩
  ·refine Tl fun R b=>Ud U11 ah U2<|C6 1 [1,2,4,5,8,18,19] b Z<|TH [(4,3)] Z fun R b=>TF [[af [48]]] U12 fun V W _ v=>Tk U6<|Tj (bkT n 1) U8<|Tk U6<|D.call (mG _ _ a.length [48] v.m_ om_) Z (.inr dc_) U6 (PI _) fl_ fun X Y aa _ w=>C6 1 [1,2,4,5,8,9,18,19] b Z ?_;obtain ⟨bz,rfl,rfl⟩:=w;have x:fb t 1<a.length:=eB H 1;refine Tz (L':=[.arr (.slice (some ⟨bz,0,none⟩) a.length a.length) 32 1 a.length (kV a.length []),.obj c (aV keyZ.enc (eK ((atT t fun j=>(slf a t j).1).take 1))),.obj d (aV keyZ.enc (eK ((atT t fun j=>(slf a t j).2).take 1)))]) (by rw [lS];rfl)<|Ti 2 Z fun R b=>TL ((fb t 1)) U10 (fun _=>⟨by omega,by omega,(QD _).symm⟩) U2<|TP (j:=0) U11 (by rw [lT];simp;omega)<|Tn [1,2,4,5,8,9,18,19] b Z<|Tz (L':=[.arr (.slice (some ⟨bz,0,none⟩) a.length a.length) 32 1 a.length (kV a.length [(fb t 1,1)]),.obj c (aV keyZ.enc (eK ((atT t fun j=>(slf a t j).1).take 1))),.obj d (aV keyZ.enc (eK ((atT t fun j=>(slf a t j).2).take 1)))]) (by rw [<- fB [] 1 x,dE];rfl)<|G.freezeArr 0 ((nv a.length (fb t 1)).map ec) rfl (je _ _) (by intro r hr;obtain ⟨y,_,rfl⟩:=PK.1 hr;rfl) (by rw [al,gn]) fun Cz hz z=>Tl fun R b=>Tj (bkT n 2) U8<|Tm 2 Z<|Tw (tx _ J.m_ _ _ a s (nv a.length (fb t 1)) 1 dc_ dc_ F.m_ E z.m_ (gn _ _) js (fun q A=>bB ((js q A).le dc_)) i t l (K 1)) U7 fl_<|Tm 3 Z<|TB U5 fun ab=>Ts (j:=0) U12<|C6 1 [1,2,4,5,8,10,11,18,19] b Z<|Th 2 [1,2,4,5,8,10,11,18,19,38] Z<|G.cd (fun ae=>?_) fun ae=>?_
   ·exact absurd ae dc_
   refine G.freeze 0 Z fun ad _ k=>G.cut (fun fr M e o=>(True)/\fr=[(1,[],.int .i64 i),(2,[],.pointer (some ⟨I,0,none⟩)),(4,[],.map (some c)),(5,[],.map (some d)),(18,[],.agg ⟨fU t⟩),(19,[],.int .i64 ((1:Nat):Int))]/\e=[.obj c (aV keyZ.enc (eK ((atT t fun j=>(slf a t j).1).take (1+1)))),.obj d (aV keyZ.enc (eK ((atT t fun j=>(slf a t j).2).take (1+1))))]) ?_ (fun fr aE aF o aG p=>?_)
   ·refine Uf (.cut [0,1,2,3,4,5,6] (.alt 7 (.fin [8,9]) (.alt 8 (.fin [7,9]) .stop))) [] Z Z kr_ fun R hB b B=>Tm 5 Z<|Tj (bkT k 1) U8<|Tk U6<|TV B Z ⟨?_, ?_,trivial⟩
    ·refine Tj (bkT k 1) U8 ?_
     first | refine D.mapUpdate keyZ (j:=0) rfl rfl rfl rfl rfl rfl rfl rfl rfl rfl kr_ ?_ | refine D.mapUpdate keyZ (j:=1) rfl rfl rfl rfl rfl rfl rfl rfl rfl rfl kr_ ?_
     first | refine D.mapUpdate keyZ (j:=1) rfl rfl rfl rfl rfl rfl rfl rfl rfl rfl kr_ ?_ | refine D.mapUpdate keyZ (j:=0) rfl rfl rfl rfl rfl rfl rfl rfl rfl rfl kr_ ?_
     refine Tn [1,2,4,5,18,19] b Z<|G.perm (L':=[.obj c (aV keyZ.enc (eK ((atT t fun j=>(slf a t j).1).take (1+1)))),.obj d (aV keyZ.enc (eK ((atT t fun j=>(slf a t j).2).take (1+1))))]) (by
      rw [<- dt t (fun j=>(slf a t j).1) 1 dc_ ⟨f,g,h⟩,<- dt t (fun j=>(slf a t j).2) 1 dc_ ⟨f,g,h⟩]
      first | exact PI _ | exact List.Perm.swap _ _ _) ?_
     exact Tx 0 (Mem.le.refl _) (hn_ [1,2,4,5,18,19] Z) ⟨trivial,Z,Z⟩
    first | refine D.mapUpdate keyZ (j:=0) rfl rfl rfl rfl rfl rfl rfl rfl rfl rfl kr_ ?_ | refine D.mapUpdate keyZ (j:=1) rfl rfl rfl rfl rfl rfl rfl rfl rfl rfl kr_ ?_
    refine Tj (bkT k 1) U8 ?_
    first | refine D.mapUpdate keyZ (j:=1) rfl rfl rfl rfl rfl rfl rfl rfl rfl rfl kr_ ?_ | refine D.mapUpdate keyZ (j:=0) rfl rfl rfl rfl rfl rfl rfl rfl rfl rfl kr_ ?_
    refine Tn [1,2,4,5,18,19] b Z<|G.perm (L':=[.obj c (aV keyZ.enc (eK ((atT t fun j=>(slf a t j).1).take (1+1)))),.obj d (aV keyZ.enc (eK ((atT t fun j=>(slf a t j).2).take (1+1))))]) (by
     rw [<- dt t (fun j=>(slf a t j).1) 1 dc_ ⟨f,g,h⟩,<- dt t (fun j=>(slf a t j).2) 1 dc_ ⟨f,g,h⟩]
     first | exact PI _ | exact List.Perm.swap _ _ _) ?_
    exact Tx 0 (Mem.le.refl _) (hn_ [1,2,4,5,18,19] Z) ⟨trivial,Z,Z⟩
   obtain ⟨_,rfl,rfl⟩:=p;refine Tl fun R b=>Tq _ Z U6<|C6 1 [1,2,4,5,18,19] b Z<|Tv (m':=1) om_ mup (hn_ [1,2,4,5,18,19] Z) ⟨2,by decide,Z,Z,Z⟩
  refine Tl fun R b=>Ud U11 ah U2<|C6 1 [1,2,4,5,8,18,19] b Z<|TH [(4,3)] Z fun R b=>TF [[af [48]]] U12 fun V W _ v=>Tk U6<|Tj (bkT n 1) U8<|Tk U6<|D.call (mG _ _ a.length [48] v.m_ om_) Z (.inr dc_) U6 (PI _) fl_ fun X Y aa _ w=>C6 1 [1,2,4,5,8,9,18,19] b Z ?_;obtain ⟨bz,rfl,rfl⟩:=w;have x:fb t 2<a.length:=eB H 2;refine Tz (L':=[.arr (.slice (some ⟨bz,0,none⟩) a.length a.length) 32 1 a.length (kV a.length []),.obj c (aV keyZ.enc (eK ((atT t fun j=>(slf a t j).1).take 2))),.obj d (aV keyZ.enc (eK ((atT t fun j=>(slf a t j).2).take 2)))]) (by rw [lS];rfl)<|Ti 2 Z fun R b=>TL ((fb t 2)) U10 (fun _=>⟨by omega,by omega,(QD _).symm⟩) U2<|TP (j:=0) U11 (by rw [lT];simp;omega)<|Tn [1,2,4,5,8,9,18,19] b Z<|Tz (L':=[.arr (.slice (some ⟨bz,0,none⟩) a.length a.length) 32 1 a.length (kV a.length [(fb t 2,1)]),.obj c (aV keyZ.enc (eK ((atT t fun j=>(slf a t j).1).take 2))),.obj d (aV keyZ.enc (eK ((atT t fun j=>(slf a t j).2).take 2)))]) (by rw [<- fB [] 1 x,dE];rfl)<|G.freezeArr 0 ((nv a.length (fb t 2)).map ec) rfl (je _ _) (by intro r hr;obtain ⟨y,_,rfl⟩:=PK.1 hr;rfl) (by rw [al,gn]) fun Cz hz z=>Tl fun R b=>Tj (bkT n 2) U8<|Tm 2 Z<|Tw (tx _ J.m_ _ _ a s (nv a.length (fb t 2)) 1 dc_ dc_ F.m_ E z.m_ (gn _ _) js (fun q A=>bB ((js q A).le dc_)) i t l (K 2)) U7 fl_<|Tm 3 Z<|TB U5 fun ab=>Ts (j:=0) U12<|C6 1 [1,2,4,5,8,10,11,18,19] b Z<|Th 2 [1,2,4,5,8,10,11,18,19,38] Z<|G.cd (fun ag=>?_) fun ag=>?_
  ·exact absurd ag dc_
  refine G.freeze 0 Z fun ad _ k=>G.cut (fun fr M e o=>(True)/\fr=[(1,[],.int .i64 i),(2,[],.pointer (some ⟨I,0,none⟩)),(4,[],.map (some c)),(5,[],.map (some d)),(18,[],.agg ⟨fU t⟩),(19,[],.int .i64 ((2:Nat):Int))]/\e=[.obj c (aV keyZ.enc (eK ((atT t fun j=>(slf a t j).1).take (2+1)))),.obj d (aV keyZ.enc (eK ((atT t fun j=>(slf a t j).2).take (2+1))))]) ?_ (fun fr aH aI o aK p=>?_)
  ·refine Uf (.cut [0,1,2,3,4,5,6] (.alt 7 (.fin [8,9]) (.alt 8 (.fin [7,9]) .stop))) [] Z Z kr_ fun R hB b B=>Tm 5 Z<|Tj (bkT k 1) U8<|Tk U6<|TV B Z ⟨?_, ?_,trivial⟩
   ·refine Tj (bkT k 1) U8 ?_
    first | refine D.mapUpdate keyZ (j:=0) rfl rfl rfl rfl rfl rfl rfl rfl rfl rfl kr_ ?_ | refine D.mapUpdate keyZ (j:=1) rfl rfl rfl rfl rfl rfl rfl rfl rfl rfl kr_ ?_
    first | refine D.mapUpdate keyZ (j:=1) rfl rfl rfl rfl rfl rfl rfl rfl rfl rfl kr_ ?_ | refine D.mapUpdate keyZ (j:=0) rfl rfl rfl rfl rfl rfl rfl rfl rfl rfl kr_ ?_
    refine Tn [1,2,4,5,18,19] b Z<|G.perm (L':=[.obj c (aV keyZ.enc (eK ((atT t fun j=>(slf a t j).1).take (2+1)))),.obj d (aV keyZ.enc (eK ((atT t fun j=>(slf a t j).2).take (2+1))))]) (by
     rw [<- dt t (fun j=>(slf a t j).1) 2 dc_ ⟨f,g,h⟩,<- dt t (fun j=>(slf a t j).2) 2 dc_ ⟨f,g,h⟩]
     first | exact PI _ | exact List.Perm.swap _ _ _) ?_
    exact Tx 0 (Mem.le.refl _) (hn_ [1,2,4,5,18,19] Z) ⟨trivial,Z,Z⟩
   first | refine D.mapUpdate keyZ (j:=0) rfl rfl rfl rfl rfl rfl rfl rfl rfl rfl kr_ ?_ | refine D.mapUpdate keyZ (j:=1) rfl rfl rfl rfl rfl rfl rfl rfl rfl rfl kr_ ?_
   refine Tj (bkT k 1) U8 ?_
   first | refine D.mapUpdate keyZ (j:=1) rfl rfl rfl rfl rfl rfl rfl rfl rfl rfl kr_ ?_ | refine D.mapUpdate keyZ (j:=0) rfl rfl rfl rfl rfl rfl rfl rfl rfl rfl kr_ ?_
   refine Tn [1,2,4,5,18,19] b Z<|G.perm (L':=[.obj c (aV keyZ.enc (eK ((atT t fun j=>(slf a t j).1).take (2+1)))),.obj d (aV keyZ.enc (eK ((atT t fun j=>(slf a t j).2).take (2+1))))]) (by
    rw [<- dt t (fun j=>(slf a t j).1) 2 dc_ ⟨f,g,h⟩,<- dt t (fun j=>(slf a t j).2) 2 dc_ ⟨f,g,h⟩]
    first | exact PI _ | exact List.Perm.swap _ _ _) ?_
   exact Tx 0 (Mem.le.refl _) (hn_ [1,2,4,5,18,19] Z) ⟨trivial,Z,Z⟩
  obtain ⟨_,rfl,rfl⟩:=p;refine Tl fun R b=>Tq _ Z U6<|C6 1 [1,2,4,5,18,19] b Z<|Tv (m':=0) om_ mup (hn_ [1,2,4,5,18,19] Z) ⟨3,by decide,Z,Z,Z⟩
 have U:j=3:=by
  simp only [P7] at N;omega
 subst U;refine G.freeze 0 Z fun Cm aL ak=>G.freeze 0 Z fun Cn aM am=>Th 5 [4,5,6] Z<|Tu (G.dropAll (Uk U4 ?_));exact ⟨Z,c,d,Z,Mem.get ak mup,am⟩
theorem qt (C:Mem)(v:Value)(l:List Rat)(b:Sl C 1 v (l.map ec))(t:l.length<=1000000):Jog.Fn cx.P 50 [v] C [] fun u _w e=>∃ A n c,u=.slice A n c/\e=[.arr (.slice A n c) 32 1 l.length (l.map ec).flatten]:=by
 obtain ⟨f,c0,rfl,m,x,y,o⟩:=id b;have z:maxLen<=9223372036854775807:=by simp [maxLen]
 simp only [al] at b m ⊢;refine Tr func50 8 U3 fun w0=>Th 1 [0] Z<|Ti 1 Z fun R d=>UL U9<|Tn [0,4] d Z<|G.cd (fun h4=>?_) fun h4=>?_
 ·have p:f=none:=by
   cases f with
   | none=>rfl
   | some a=>cases h4
  have s:l=[]:=by
   cases l with
   | nil=>rfl
   | cons q r =>
    obtain ⟨a,g,_⟩:=o 0 (ec q) rfl;rw [p] at g;cases g
  refine Th 1 [2] Z<|G.nilArr 32 1<|Tu (TW Z Z ?_);exact ⟨none,0,0,Z,by rw [s];rfl⟩
 refine Tl fun R d=>Uu [] U12 fl_ fun B=>Tk U6<|TR (j:=0) U11 b.m_ (by simp [ec,nk,af]) (by simp only [al,Qf,maxLen];omega) (by simp only [al,Qf];omega) fl_ fun h i k=>C6 1 [2] d Z<|Tz (L':=[.arr (.slice h i k) 32 1 l.length (l.map ec).flatten]) am<|Tu (TW Z Z ?_);exact ⟨h,i,k,Z,Z⟩
theorem G8 (C:Mem)(v:Value)(l:List Rat)(b:Sl C 1 v (l.map ec))(t:l.length<=1000000):Jog.Fn cx.P 48 [v] C [] fun u _w e=>∃ A n c,u=.slice A n c/\e=[.arr (.slice A n c) 32 1 l.length (l.map ec).flatten]:=by
 obtain ⟨f,c0,rfl,m,x,y,o⟩:=id b;have z:maxLen<=9223372036854775807:=by simp [maxLen]
 simp only [al] at b m ⊢;refine Tr func48 8 U3 fun w0=>Th 1 [0] Z<|Ti 1 Z fun R d=>UL U9<|Tn [0,4] d Z<|G.cd (fun h4=>?_) fun h4=>?_
 ·have p:f=none:=by
   cases f with
   | none=>rfl
   | some a=>cases h4
  have s:l=[]:=by
   cases l with
   | nil=>rfl
   | cons q r =>
    obtain ⟨a,g,_⟩:=o 0 (ec q) rfl;rw [p] at g;cases g
  refine Th 1 [2] Z<|G.nilArr 32 1<|Tu (TW Z Z ?_);exact ⟨none,0,0,Z,by rw [s];rfl⟩
 refine Tl fun R d=>Uu [] U12 fl_ fun B=>Tk U6<|TR (j:=0) U11 b.m_ (by simp [ec,nk,af]) (by simp only [al,Qf,maxLen];omega) (by simp only [al,Qf];omega) fl_ fun h i k=>C6 1 [2] d Z<|Tz (L':=[.arr (.slice h i k) 32 1 l.length (l.map ec).flatten]) am<|Tu (TW Z Z ?_);exact ⟨h,i,k,Z,Z⟩
def Nm (r:RowQ):Prop:=(∀ q∈r.f,QB 22 q)/\QB 22 r.b
theorem kF {a:List RowQ}{w:Value}{r:RowQ}(c:vs[i]?=some w)(d:a[i]?=some r):(aB vs a)[i]?=some [w,af (qtx r.b)]:=by
 unfold aB;rw [List.getElem?_zipWith,c,d]
theorem DG (C:Mem)(hT:Tabs C)(v:Value)(a:List RowQ)(hv:RowsIn C v a)(e:∀ r∈a,Nm r)(ac:∀ r∈a,r.f.length<=1000)(ao:a.length<=100000) :
  Gives cx.P 249 [v] C (.tuple #[v,.int .i64 0]):=by
 obtain ⟨vs,z,A⟩:=hv;obtain ⟨l,c0,rfl,ad,ap,_⟩:=id A;have aq:maxLen<=9223372036854775807:=by simp [maxLen]
 simp only [bI z.1] at A ad ⊢;refine Tr func249 32 U3 fun w0=>Th 2 [0] Z<|Th 3 [0,8,9,10] Z<|G.loop (fun fr B n o=>∃ (i:Nat),(i<=a.length)/\fr=[(0,[],.slice l a.length c0),(8,[],.slice l a.length c0),(9,[],.int .i64 a.length),(10,[],.int .i64 i)]/\n=[]/\o=a.length-i) (hn_ [0,8,9,10] Z) ⟨0,PL _,Z,Z,Z⟩ (fun fr ar au m _ p=>?_);obtain ⟨i,hi,rfl,rfl,rfl⟩:=p;refine Th 1 [0,8,9,10,11] Z<|G.cd (fun I=>?_) fun I=>?_
 ·have J:i<a.length:=by simpa using I
  obtain ⟨r,E⟩:∃ r,a[i]?=some r:=⟨a[i],aj J⟩;obtain ⟨w,K⟩:∃ w,vs[i]?=some w:=⟨vs[i]'(by rw [z.1];exact J),aj _⟩;have L:=O0 E;obtain ⟨ae,ag⟩:=e r L;have av:=ac r L;have ax:(r.f++[r.b]).length<=1001:=by simp;omega
  have x:=z.2 i w r K E;obtain ⟨Aw,cw,rfl,_⟩:=id x;refine Tl fun R c=>Ty A.m_ U10 om_ (kF K E) fl_ fun ay ah=>Tj ah U8<|TB U5 fun b5=>Ts (j:=0) U12<|Tn [0,5,8,9,10] c Z<|G.freeze 0 Z fun _ _ F=>G.cut (fun fr B n o=>∃ (g:Option Addr)(k:Nat),(Sl B 1 (.slice g (r.f++[r.b]).length k) ((r.f++[r.b]).map ec))/\fr=[(0,[],.slice l a.length c0),(8,[],.slice l a.length c0),(9,[],.int .i64 a.length),(10,[],.int .i64 i),(20,[],.slice g (r.f++[r.b]).length k),(21,[],.int .i64 (r.f++[r.b]).length),(22,[],.int .i64 0)]/\n=[]) ?_ (fun fr az aA o aB p=>?_)
  ·refine Uf (.cut [0,1,3,8] (.alt 2 (.fin [4,5,6,7]) (.alt 4 (.cut [] (.alt 2 (.fin [5,6,7]) (.alt 5 (.fin [2,6,7]) .stop))) .stop))) [(2,3)] Z Z kr_ fun R hB c M=>Tk U6<|Tj (bkT F 1) U8<|Tm 2 Z<|TV M Z ⟨?_, ?_,trivial⟩
   ·refine D.call (qt _ _ r.f x.m_ om_) Z (.inr dc_) U6 (PI _) fl_ fun N O Q _ s=>Tj (bkT F 1) U8<|TF [ec r.b] U12 (fun S T _ t=>?_);obtain ⟨U,V,cc,rfl,rfl⟩:=s;refine TR (j:=0) U11 t.m_ (by simp [ec,nk,af]) aw (by simp only [PD];omega) fl_ fun g W k=>C6 1 [0,8,9,10,20,21,22] c Z<|G.freezeArr 0 ((r.f++[r.b]).map ec) rfl am (by intro r e;obtain ⟨y,_,rfl⟩:=PK.1 e;rfl) am (fun X Y d=>?_);obtain ⟨Az,cz,u,_⟩:=id d;cases u
    simp only [al] at d ⊢;exact G.dropAll<|Tx 0 mup (hn_ [0,8,9,10,20,21,22] Z) ⟨_,_,d,Z,Z⟩
   refine Tj (bkT F 1) U8<|TV M Z ⟨?_, ?_,trivial⟩
   ·refine D.call (qt _ _ r.f x.m_ om_) Z (.inr dc_) U6 (PI _) fl_ fun N O Q _ s=>TF [ec r.b] U12 (fun S T _ t=>?_);obtain ⟨U,V,cc,rfl,rfl⟩:=s;refine TR (j:=0) U11 t.m_ (by simp [ec,nk,af]) aw (by simp only [PD];omega) fl_ fun g W k=>C6 1 [0,8,9,10,20,21,22] c Z<|G.freezeArr 0 ((r.f++[r.b]).map ec) rfl am (by intro r e;obtain ⟨y,_,rfl⟩:=PK.1 e;rfl) am (fun X Y d=>?_);obtain ⟨Az,cz,u,_⟩:=id d;cases u
    simp only [al] at d ⊢;exact G.dropAll<|Tx 0 mup (hn_ [0,8,9,10,20,21,22] Z) ⟨_,_,d,Z,Z⟩
   refine TF [ec r.b] U12 fun S T _ t=>D.call (qt _ _ r.f x.m_ om_) Z (.inr dc_) U6 (PI _) fl_ (fun N O Q _ s=>?_);obtain ⟨U,V,cc,rfl,rfl⟩:=s;refine TR (j:=0) U11 t.m_ (by simp [ec,nk,af]) aw (by simp only [PD];omega) fl_ fun g W k=>C6 1 [0,8,9,10,20,21,22] c Z<|G.freezeArr 0 ((r.f++[r.b]).map ec) rfl am (by intro r e;obtain ⟨y,_,rfl⟩:=PK.1 e;rfl) am (fun X Y d=>?_);obtain ⟨Az,cz,u,_⟩:=id d;cases u
   simp only [al] at d ⊢;exact G.dropAll<|Tx 0 mup (hn_ [0,8,9,10,20,21,22] Z) ⟨_,_,d,Z,Z⟩
  obtain ⟨g,k,ai,rfl,rfl⟩:=p;refine G.loop (fun fr B n o=>∃ (j:Nat),(j<=(r.f++[r.b]).length)/\fr=[(0,[],.slice l a.length c0),(8,[],.slice l a.length c0),(9,[],.int .i64 a.length),(10,[],.int .i64 i),(20,[],.slice g (r.f++[r.b]).length k),(21,[],.int .i64 (r.f++[r.b]).length),(22,[],.int .i64 j)]/\n=[]/\o=(r.f++[r.b]).length-j) (hn_ [0,8,9,10,20,21,22] Z) ⟨0,PL _,Z,Z,Z⟩ (fun fr aC aD m _ p=>?_);obtain ⟨j,hj,rfl,rfl,rfl⟩:=p;refine Th 1 [0,8,9,10,20,21,22,23] Z<|G.cd (fun aa=>?_) fun aa=>?_
  ·have ak:j<(r.f++[r.b]).length:=by
    have:=aY aa;omega
   obtain ⟨q,hq⟩:∃ q,(r.f++[r.b])[j]?=some q:=⟨(r.f++[r.b])[j],aj ak⟩;have ab:QB 22 q:=by
    rcases PU.1 (O0 hq) with h | h
    ·exact ae q h
    rw [PZ.1 h];exact ag
   refine Tl fun R c=>Ty ai.m_ U10 om_ (co hq) fl_ fun aE an=>Tj an U8<|C6 1 [0,7,8,9,10,20,21,22] c Z<|Ti 1 Z fun R c=>Tt (dD _ hT.m_ _ (tG ab)) U7<|C6 1 [0,8,9,10,20,21,22,28] c Z<|G.cd (fun H=>?_) fun H=>?_
   ·exfalso;rw [xr ab] at H;exact absurd H dc_
   refine Tl fun R c=>Tq _ Z U6<|C6 1 [0,8,9,10,20,21,22] c Z<|Tv (m':=(r.f++[r.b]).length-(j+1)) om_ mup (hn_ [0,8,9,10,20,21,22] Z) ⟨j+1,om_,Z,Z,Z⟩
  refine Tl fun R c=>Tq _ Z U6<|C6 1 [0,8,9,10] c Z<|Tv (m':=a.length-(i+1)) om_ mup (hn_ [0,8,9,10] Z) ⟨i+1,om_,Z,Z,Z⟩
 refine Th 3 [2,3] Z<|Tu (G.dropAll (TM U3 ?_));exact ⟨Z,Z⟩
def gJ (s p k:Nat)(fm:List (Nat × Rat))(b sg:Rat):RowQ:=⟨Ip s p k fm sg,sg*b⟩
theorem jl (C:Mem)(O:Tabs C)(s p d b g v:Nat)(c:List (Nat × Rat))(e:Rat)(a:List Rat)(I w:Value)(n:List Value)(f:List RowQ)(ak:s*p<=60)(Q:d<s)(S:C v=some (.cells ⟨[.int .i64 (s:Nat),.int .i64 (p:Nat)]⟩ 196 (0,0)))(T:C b=some (aV keyZ.enc (eK c)))(U:(c.map (·.1)).Nodup)(V:∀ x∈c,x.1<p)(W:∀ x∈c,QB 23 x.2)(X:QB 23 e)
  (y:Sl C 1 I (a.map ec)) (Y:∀ q∈a,QB 1 q) (an:a.length<=2) (aa:RowsOk C n f) (ao:f.length<=10000) :
  Jog.Fn cx.P 245 [.int .i64 d,.map (some b),af (qtx e),I,.pointer (some ⟨g,0,none⟩),.pointer (some ⟨v,0,none⟩)] C [.obj g (.cells ⟨[w]⟩ 47 (0,0)),.arr w 140 2 f.length (aB n f).flatten]
   fun u z k=>∃ J w',u=.tuple #[]/\k=[.obj g (.cells ⟨[w']⟩ 47 (0,0)),.arr w' 140 2 (f++a.map (gJ s p d c e)).length (aB J (f++a.map (gJ s p d c e))).flatten]/\RowsOk z J (f++a.map (gJ s p d c e)):=by
 obtain ⟨A0,c0,rfl,ab,ap,_⟩:=id y;have aq:maxLen<=9223372036854775807:=by simp [maxLen]
 simp only [al] at y ab ⊢;refine Tr func245 28 U3 fun w0=>Th 3 [0,1,2,4,5,12,13,14] Z<|Tz (L':=[.obj g (.cells ⟨[w]⟩ 47 (0,0)),.arr w 140 2 (f++(a.take 0).map (gJ s p d c e)).length (aB n (f++(a.take 0).map (gJ s p d c e))).flatten]) am<|G.loop (fun fr z k μ=>∃ (i:Nat)(h:List Value)(o:Value),(i<=a.length/\RowsOk z h (f++(a.take i).map (gJ s p d c e)))/\fr=[(0,[],.int .i64 d),(1,[],.map (some b)),(2,[],af (qtx e)),(4,[],.pointer (some ⟨g,0,none⟩)),(5,[],.pointer (some ⟨v,0,none⟩)),(12,[],.slice A0 a.length c0),(13,[],.int .i64 a.length),(14,[],.int .i64 i)]/\k=[.obj g (.cells ⟨[o]⟩ 47 (0,0)),.arr o 140 2 (f++(a.take i).map (gJ s p d c e)).length (aB h (f++(a.take i).map (gJ s p d c e))).flatten]/\μ=a.length-i) (hn_ [0,1,2,4,5,12,13,14] Z) ⟨0,n,w,⟨PL _,by simpa using aa⟩,Z,Z,Z⟩ (fun fr ar au m _ hI=>?_);obtain ⟨i,h,o,⟨hi,t⟩,rfl,rfl,rfl⟩:=hI;refine Th 1 [0,1,2,4,5,12,13,14,15] Z<|G.cd (fun A=>?_) fun A=>?_
 ·have B:i<a.length:=by simpa using A
  obtain ⟨sg,D⟩:∃ sg,a[i]?=some sg:=⟨a[i],aj B⟩;have ac:=Y sg (O0 D);have av:(f++(a.take i).map (gJ s p d c e)).length<=10002:=by
   rw [PM,al,PS];omega
  have K:f++(a.take (i+1)).map (gJ s p d c e)=f++(a.take i).map (gJ s p d c e)++[gJ s p d c e sg]:=by
   rw [P6,D];simp
  refine Tl fun R l=>Ty y.m_ U10 om_ (co D) fl_ fun ax ad=>Tj ad U8<|C6 1 [0,1,2,4,5,11,12,13,14] l Z<|TD [0,1,2,3,4,5,6,7,8,9] [] Z kr_ fun R hB l=>To ag U9<|Tj (bkT S 2) U8<|Tm 4 Z<|TO (NX _ O.m_ s p d b c sg e 23 dc_ dc_ om_ Q (Mem.get T mup) U V W (ac.le dc_) X) U7 fl_ (fun ay _ _ ae=>?_);obtain ⟨fv,rfl,E⟩:=ae;obtain ⟨F,H,rfl,_⟩:=id E;simp only [al] at E ⊢;refine TF [[.slice F (Ip s p d c sg).length H,af (qtx (sg*e))]] U12 fun az _ _ ah=>TR (j:=1) U11 ah.m_ Z aw (by simp only [PD];omega) fl_ fun L M N=>Ts (j:=1) U12<|Tn [0,1,2,4,5,12,13,14] l Z<|Tl fun R l=>Tq _ Z U6<|C6 1 [0,1,2,4,5,12,13,14] l Z ?_;have ai:=RowsOk.snoc (r:=gJ s p d c e sg) t.m_ E;refine Tz (L':=[.obj g (.cells ⟨[.slice L M N]⟩ 47 (0,0)),.arr (.slice L M N) 140 2 (f++(a.take (i+1)).map (gJ s p d c e)).length (aB (h++[.slice F (Ip s p d c sg).length H]) (f++(a.take (i+1)).map (gJ s p d c e))).flatten]) (by rw [K,eE t.1];simp [gJ,aE];omega)<|Tv (m':=a.length-(i+1)) om_ mup (hn_ [0,1,2,4,5,12,13,14] Z) ⟨i+1,h++[.slice F (Ip s p d c sg).length H],_,⟨by omega,by rw [K];exact ai.mono mup⟩,Z,Z,Z⟩
 have B:i=a.length:=by
  have:¬ i<a.length:=by simpa using A
  omega
 rw [B,PT] at t ⊢;exact Uz Z<|⟨h,o,Z,Z,t.mono mup⟩
noncomputable def pY (o:Obs):Rat:=-da o.nx / da o.nz
noncomputable def iS (o:Obs):Rat:=-da o.ny / da o.nz
def upN (B:Bk)(o:Obs):Nat:=(ka (isU o.upper) B.col 0).toNat
noncomputable def rowsO (B:Bk)(o:Obs)(p:Pt)(t:Tri)(z:Rat):List RowQ :=
 if o.kind=1 then (if 0<upN B o then [gJ (bs B) (bp B) (upN B o-1) (atT t (wgt B.pts t p)) (kU o z) 1] else [])++(if upN B o<bs B then [gJ (bs B) (bp B) (upN B o) (atT t (wgt B.pts t p)) (kU o z) (-1)] else [])
 else if o.kind=2 then (cD B.col o).flatMap fun k=>[1, -1].map (gJ (bs B) (bp B) k (atT t (wgt B.pts t p)) (kU o z))
 else (cD B.col o).flatMap fun k=>[1, -1].map (gJ (bs B) (bp B) k (atT t fun j=>(slf B.pts t j).1) (pY o))++[1, -1].map (gJ (bs B) (bp B) k (atT t fun j=>(slf B.pts t j).2) (iS o))
structure Fine (B:Bk)(fs:List Rat)(o:Obs)(p:Pt)(ti:Nat)(t:Tri)(z:Rat):Prop where
 place:ObsAt o p
 loc:∃ r,jL B.pts B.tris p=ti::r
 tri:B.tris[ti]?=some t
 val:vc B.pts B.tris fs p=.tuple #[af (qtx z),.int .i64 0]
 qz:QB 22 z
 qh:QB 22 (kU o z)
 w:∀ j,QB 22 (wgt B.pts t p j)
 up:0<=ka (isU o.upper) B.col 0
 sl:∀ j,QP 22 (slf B.pts t j)
 nr:o.kind≠1->o.kind≠2->(aS o.nx=true/\aS o.ny=true/\aS o.nz=true)/\QB 11 (da o.nx)/\QB 11 (da o.ny)/\QB 11 (da o.nz)/\da o.nz≠0
 rows:∀ r∈rowsO B o p t z,Nm r
theorem NO (h:Sl C 1 v [[af [49]]]):Sl C 1 v (([1]:List Rat).map ec):=by rw [<- dE] at h;exact h
theorem NP (h:Sl C 1 v [[af [45,49]]]):Sl C 1 v (([-1]:List Rat).map ec):=by rw [<- cV] at h;exact h
theorem EL (h:Sl C 1 v [[af [49]],[af [45,49]]]):Sl C 1 v (([1, -1]:List Rat).map ec):=by rw [<- cV,<- dE] at h;exact h
theorem NI:∀ q∈([1]:List Rat),QB 1 q:=by simp;exact QB_one
theorem NJ:∀ q∈([-1]:List Rat),QB 1 q:=by simp;exact mK
theorem ry:∀ q∈([1, -1]:List Rat),QB 1 q:=by
 intro q a;simp only [PQ,QF,R0] at a;rcases a with rfl | rfl
 ·exact QB_one
 exact mK
theorem gj {f:Nat->Rat}{P:Nat × Rat->Prop}(b:P (t.1,f 0))(c:P (t.2.1,f 1))(d:P (t.2.2,f 2)):∀ x∈atT t f,P x:=by
 intro x a;simp only [atT,PQ,QF,R0] at a;rcases a with rfl | rfl | rfl <;> assumption
theorem HY {a b:Int}(h:k∈vF a b n):k<n:=by
 unfold vF at h;rw [Q4,PX] at h;exact h.1
theorem jd {a b:Type}(f:a->List b){l:List a}{j:Nat}{x:a}(h:l[j]?=some x):(l.take (j+1)).flatMap f=(l.take j).flatMap f++f x:=by
 rw [P6,h,List.flatMap_append];simp
theorem fO {a b:Type}{f:a->List b}{c:Nat}(h:∀ x,(f x).length=c):∀ l:List a,(l.flatMap f).length=c*l.length
 | []=>by simp
 | x::l=>by rw [List.flatMap_cons,PM,h,fO h l,PW,Nat.mul_succ,R3]
theorem AM :∀ r∈rowsO B o p t z,r.f.length=bs B*bp B:=by
 have a:∀ k d b sg,(gJ (bs B) (bp B) k d b sg).f.length=bs B*bp B:=fun k d b sg=>jB _ _;intro r hr;unfold rowsO at hr;split at hr
 ·rcases PU.1 hr with h | h
  ·split at h
   ·rw [PZ.1 h];exact a _ _ _ _
   cases h
  split at h
  ·rw [PZ.1 h];exact a _ _ _ _
  cases h
 split at hr
 ·obtain ⟨k,_,c⟩:=List.mem_flatMap.1 hr;obtain ⟨sg,_,rfl⟩:=PK.1 c;exact a _ _ _ _
 obtain ⟨k,_,c⟩:=List.mem_flatMap.1 hr;rcases PU.1 c with h | h
 ·obtain ⟨sg,_,rfl⟩:=PK.1 h;exact a _ _ _ _
 obtain ⟨sg,_,rfl⟩:=PK.1 h;exact a _ _ _ _
theorem vU (h:(cD B.col o).length<=60):(rowsO B o p t z).length<=240:=by
 unfold rowsO;split
 ·rw [PM];have h1:∀ (c:Prop)[Decidable c] (r:RowQ),(if c then [r] else []).length<=1:=fun c _ r=>by split <;> simp
  have:=h1 (0<upN B o) (gJ (bs B) (bp B) (upN B o-1) (atT t (wgt B.pts t p)) (kU o z) 1);have:=h1 (upN B o<bs B) (gJ (bs B) (bp B) (upN B o) (atT t (wgt B.pts t p)) (kU o z) (-1));omega
 split
 ·rw [fO (c:=2) (fun k=>by simp)];omega
 rw [fO (c:=4) (fun k=>by simp)];omega
theorem LC (C:Mem)(d:Tabs C)(bv:Value)(B:Bk)(fs:List Rat)(i:Nat)(o:Obs)(p:Pt)(ti:Nat)(t:Tri)(z:Rat)(M:BookIn C bv B)(S:Good B.pts B.tris)(an:BookR B)(aN:iq B=0)(hF:Terr B fs)(V:B.obs[i]?=some o)(b:Fine B fs o p ti t z)(T:bs B*bp B<=60)(a5:ri B.col=0)(bV:bs B+1=B.col.length)(bW:B.col.length<=60) :
  Pur cx.P 183 [gu (bs B) (bp B),bv,.int .i64 i] C fun u D=>∃ v,u=.tuple #[v,.int .i64 0]/\RowsIn D v (rowsO B o p t z):=by
 have ao:=M;have hM:=S.ok;obtain ⟨r,a6⟩:=b.loc;have aO:=O0 b.tri;have l:=hM.ins t aO;have ap:=tr hM aO;have bX:=(aJ.1 V).1;have W:=b.place;obtain ⟨u,X⟩:∃ u:Nat,ka (isU o.upper) B.col 0=(u:Nat):=⟨_,(Int.toNat_of_nonneg b.up).symm⟩;have a7:upN B o=u:=by unfold upN;rw [X];rfl
 have bY:u<B.col.length:=by
  rcases rW (isU o.upper) B.col with ⟨h,_⟩ | ⟨k,x,h,h2,_⟩
  ·rw [X] at h;omega
  have:=(aJ.1 h2).1;rw [X] at h;omega
 have aq:=qD (wgt B.pts t p) ap;have ar:∀ x∈atT t (wgt B.pts t p),x.1<bp B:=gj (P:=fun x=>x.1<bp B) l.1 l.2.1 l.2.2;have au:∀ x∈atT t (wgt B.pts t p),QB 23 x.2:=gj (P:=fun x=>QB 23 x.2) ((b.w 0).le dc_) ((b.w 1).le dc_) ((b.w 2).le dc_);have av:QB 23 (kU o z):=b.qh.le dc_;have a8:(cD B.col o).length<=bs B:=by
  unfold cD vF;refine PV (Rc _ _) ?_;rw [QR];unfold bs;omega
 have aP:∀ k∈cD B.col o,k<bs B:=fun k hk=>HY hk;obtain ⟨v1,v2,tv,cv,ov,rfl,h1,h2,h3,h4,h5⟩:=id M.ex;have aQ:MeshIn C (.agg ⟨[v1,v2]⟩) B.pts B.tris:=⟨v1,v2,rfl,h1,h2⟩;obtain ⟨A5,c5,rfl,a9,bZ,_⟩:=id h5;have b0:maxLen<=9223372036854775807:=by simp [maxLen]
 simp only [al] at h5 a9 ao ⊢;refine Tr func183 172 U3 fun w0=>?_;refine Tl fun R a=>?_;refine TC U6 (fun n=>?_);refine TC U6 (fun b4=>?_);refine C6 2 [2,3,4] a Z ?_;clear a R;refine G.freeze 1 Z (fun _ _ N=>?_);refine G.freeze 0 Z (fun _ _ O=>?_);refine Ti 1 Z fun R a=>?_;refine Tj (bkT O 1) U8 ?_;refine Tk U6 ?_;refine Ty h5.m_ U10 om_ (co V) fl_ (fun b1 ba=>?_);refine Tj ba U8 ?_;refine TB U5 (fun b8=>?_);refine Ts (j:=0) U12 ?_;refine Tn [2,3,4,8] a Z ?_;clear a R;refine G.freeze 0 Z (fun C8 _ E=>?_);refine Ti 1 Z fun R a=>?_;refine Tj (bkT O 2) U8 ?_;refine Tk U6 ?_;refine Tj (bkT E 2) U8 ?_;refine TO (by have h:=DE C8 d.m_ _ B.pts B.tris p ti r t aQ.m_ S W.q W.r a6 b.tri b.w;rw [<- wx W] at h;exact h) U7 fl_ (fun b2 _ _ bb=>?_);obtain ⟨U,rfl,aw⟩:=bb;refine C6 7 [2,3,4,8,9,10,11] a Z ?_;clear a R;refine Th 2 [2,3,4,8,9,10,11,45] Z ?_;refine G.cd (fun aR=>?_) fun aR=>?_
 ·exact absurd aR dc_
 refine Tl fun R a=>?_;refine Tj (bkT O 5) U8 ?_;refine Tk U6 ?_;refine Tt (Dk _ d.m_ _ B fs i o p z ao.m_ S an aN hF V W b.val b.qz b.qh) U7 ?_;refine C6 5 [2,3,4,8,9,10,11,12] a Z ?_;clear a R;refine Th 2 [2,3,4,8,9,10,11,12,54] Z ?_;refine G.cd (fun aS=>?_) fun aS=>?_
 ·exact absurd aS dc_
 refine Tl fun R a=>?_;refine Tj (bkT O 5) U8 ?_;refine Tk U6 ?_;refine TT (vE _ d.m_ _ B i o ao.m_ S an aN V) U7 (fun b5 _ _ bc=>?_);obtain ⟨lv,rfl,ax⟩:=bc;obtain ⟨Al,cl,aT,_⟩:=id ax;rw [al] at aT;subst aT;refine C6 5 [3,4,8,9,10,11,12,13] a Z ?_;clear a R;refine Th 2 [3,4,8,9,10,11,12,13,63] Z ?_;refine G.cd (fun aU=>?_) fun aU=>?_
 ·exact absurd aU dc_
 refine Tl fun R a=>?_;refine TB U5 (fun c=>?_);refine Tn [3,4,8,9,10,12,13,14] a Z ?_;clear a R;refine G.nilArr 140 2 (G.perm (L':=[.obj c (.cells ⟨[.slice none 0 0]⟩ 47 (0,0)),.arr (.slice none 0 0) 140 2 0 []]) (List.Perm.swap _ _ _) ?_);refine Th 2 [3,4,8,9,10,12,13,14,15] Z ?_;refine Ti 1 Z fun R a=>?_;refine Tj (bkT E 1) U8 ?_;refine Tn [3,4,8,9,10,12,13,14,15,67] a Z ?_;clear a R;refine Th 2 [3,4,8,9,10,12,13,14,15,67,120] Z ?_;refine G.cut (fun fr F y H=>∃ (vs:List Value)(w:Value),(RowsOk F vs (rowsO B o p t z))/\fr=[(14,[],.pointer (some ⟨c,0,none⟩))]/\y=[.obj c (.cells ⟨[w]⟩ 47 (0,0)),.arr w 140 2 (rowsO B o p t z).length (aB vs (rowsO B o p t z)).flatten]) ?_ (fun fr _ b6 H _ I=>?_)
 ·refine G.cd (fun Y=>?_) fun Y=>?_
  ·have hk:o.kind=1:=dP Y;obtain ⟨s,Q⟩:∃ s,(if 0<u then [gJ (bs B) (bp B) (u-1) (atT t (wgt B.pts t p)) (kU o z) 1] else [])=s:=⟨_,rfl⟩;have A:rowsO B o p t z=s++(if u<bs B then [gJ (bs B) (bp B) u (atT t (wgt B.pts t p)) (kU o z) (-1)] else []):=by unfold rowsO;rw [aK hk,a7,Q]
   refine Ti 1 Z fun R a=>?_;refine Tj (bkT O 1) U8 ?_;refine Tk U6 ?_;refine Tj (bkT E 1) U8 ?_;refine Tt (zi _ d.m_ _ B.col o.upper h4.m_ an.col a5 u X) U7 ?_;refine C6 7 [3,9,12,14,15,16,18] a Z ?_;clear a R;refine Th 2 [3,9,12,14,15,16,18,132] Z ?_;refine G.cd (fun aV=>?_) fun aV=>?_
   ·exact absurd aV dc_
   refine Th 2 [3,9,12,14,15,16,135] Z ?_;refine G.cut (fun fr F y H=>∃ (vs:List Value)(w:Value),(RowsOk F vs s)/\fr=[(3,[],.pointer (some ⟨n,0,none⟩)),(9,[],.map (some U)),(12,[],af (qtx (kU o z))),(14,[],.pointer (some ⟨c,0,none⟩)),(15,[],.func (.func 245) #[] #[.pointer (some ⟨c,0,none⟩),.pointer (some ⟨n,0,none⟩)]),(16,[],.int .i64 u)]/\y=[.obj c (.cells ⟨[w]⟩ 47 (0,0)),.arr w 140 2 s.length (aB vs s).flatten]) ?_ (fun fr _ b7 H _ I=>?_)
   ·refine G.cd (fun ay=>?_) fun ay=>?_
    ·have az:0<u:=by
      have:=aY ay;omega
     rw [aK az] at Q;subst Q;refine TH [(6,3)] Z (fun R a=>?_);refine Tm 2 Z ?_;refine TS (((u-1:Nat):Int)) U4 om_ om_ om_ U2 ?_;refine Tm 2 Z ?_;refine TF [[af [49]]] U12 (fun b9 _ _ bd=>?_);refine D.call (jl _ d.m_ (bs B) (bp B) (u-1) U c n (atT t (wgt B.pts t p)) (kU o z) [1] _ (.slice none 0 0) [] [] T om_ (Mem.get N mup) (Mem.get aw mup) aq ar au av ((NO bd).mono mup) NI dc_ (RowsOk.nil _) dc_) Z (.inr dc_) U6 (PI _) fl_ (fun ca _ cb _ bf=>?_);refine Tn [3,9,12,14,15,16] a Z ?_;clear a R;obtain ⟨bg,w1,rfl,rfl,bh⟩:=bf;refine Tx 0 mup (hn_ [3,9,12,14,15,16] Z) ⟨bg,w1,bh,Z,Z⟩
    have az:¬ 0<u:=by
     have:=PJ ay;omega
    rw [aG az] at Q;subst Q;refine Tx 0 (Mem.le.refl _) (hn_ [3,9,12,14,15,16] Z) ⟨[],.slice none 0 0,RowsOk.nil _,Z,Z⟩
   obtain ⟨vs ,w,aA,rfl,rfl⟩:=I;refine Ti 2 Z fun R a=>?_;refine Tj (bkT N 1) U8 ?_;refine C6 1 [9,12,14,15,16,146] a Z ?_;clear a R;refine G.cd (fun aC=>?_) fun aC=>?_
   ·have aa:u<bs B:=by
     have:=aY aC;omega
    rw [aK aa] at A;have cc:s.length<=1:=by rw [<- Q];split <;> simp
    refine TH [(5,3)] Z (fun R a=>?_);refine Tm 4 Z ?_;refine TF [[af [45,49]]] U12 (fun ce _ _ bj=>?_);refine D.call (jl _ d.m_ (bs B) (bp B) u U c n (atT t (wgt B.pts t p)) (kU o z) [-1] _ w vs s T aa (Mem.get N mup) (Mem.get aw mup) aq ar au av ((NP bj).mono mup) NJ dc_ aA.m_ om_) Z (.inr dc_) U6 (PI _) fl_ (fun cf _ cg _ bk=>?_);refine Tn [14] a Z ?_;clear a R;obtain ⟨bl,w2,rfl,rfl,aW⟩:=bk;rw [show s++([-1]:List Rat).map (gJ (bs B) (bp B) u (atT t (wgt B.pts t p)) (kU o z))=rowsO B o p t z from A.symm] at aW ⊢;refine Tx 0 mup (hn_ [14] Z) ⟨bl,w2,aW,Z,Z⟩
   have aa:¬ u<bs B:=by
    have:=PJ aC;omega
   rw [aG aa,P3] at A;rw [<- A] at aA ⊢;refine Tx 0 mup (hn_ [14] Z) ⟨vs,w,aA.mono mup,Z,Z⟩
  have aD:¬ o.kind=1:=by
   intro e;rw [show ((o.kind == 1)=true) by rw [e];rfl] at Y;cases Y
  refine Th 2 [4,8,9,10,12,13,14,15,153] Z ?_;refine G.cd (fun ab=>?_) fun ab=>?_
  ·have ac:o.kind=2:=dP ab;obtain ⟨f,aE⟩:∃ f,(fun k=>([1, -1]:List Rat).map (gJ (bs B) (bp B) k (atT t (wgt B.pts t p)) (kU o z)))=f:=⟨_,rfl⟩;have A:rowsO B o p t z=(cD B.col o).flatMap f:=by unfold rowsO;rw [aG aD,aK ac,<- aE]
   have bm:∀ k,(f k).length=2:=fun k=>by rw [<- aE];rfl
   refine Th 3 [9,12,14,15,155,156,157] Z ?_;refine G.loop (fun fr F y H=>∃ (j:Nat)(vs:List Value)(w:Value),(j<=(cD B.col o).length/\RowsOk F vs (((cD B.col o).take j).flatMap f))/\fr=[(9,[],.map (some U)),(12,[],af (qtx (kU o z))),(14,[],.pointer (some ⟨c,0,none⟩)),(15,[],.func (.func 245) #[] #[.pointer (some ⟨c,0,none⟩),.pointer (some ⟨n,0,none⟩)]),(155,[],.slice Al (cD B.col o).length cl),(156,[],.int .i64 (cD B.col o).length),(157,[],.int .i64 j)]/\y=[.obj c (.cells ⟨[w]⟩ 47 (0,0)),.arr w 140 2 (((cD B.col o).take j).flatMap f).length (aB vs (((cD B.col o).take j).flatMap f)).flatten]/\H=(cD B.col o).length-j) (hn_ [9,12,14,15,155,156,157] Z) ⟨0,[],.slice none 0 0,⟨PL _,RowsOk.nil _⟩,Z,Z,Z⟩ (fun fr ch ci m _ I=>?_);obtain ⟨j,vs,w,⟨hj,J⟩,rfl,rfl,rfl⟩:=I;refine Th 1 [9,12,14,15,155,156,157,158] Z ?_;refine G.cd (fun aF=>?_) fun aF=>?_
   ·have K:j<(cD B.col o).length:=by
     have:=aY aF;omega
    obtain ⟨k,L⟩:∃ k,(cD B.col o)[j]?=some k:=⟨(cD B.col o)[j],aj K⟩;have ad:=aP k (O0 L);have ae:=fO bm ((cD B.col o).take j);rw [PS] at ae;have aH:=jd f L;refine Tl fun R a=>?_;refine Ty ax.m_ U10 om_ (co L) fl_ (fun cj bo=>?_);refine Tj bo U8 ?_;refine C6 1 [9,12,14,15,20,155,156,157] a Z ?_;clear a R;refine TH [(5,3)] Z (fun R a=>?_);refine Tm 4 Z ?_;refine TF [[af [49]],[af [45,49]]] U12 (fun ck _ _ bq=>?_);refine D.call (jl _ d.m_ (bs B) (bp B) k U c n (atT t (wgt B.pts t p)) (kU o z) [1, -1] _ w vs _ T ad (Mem.get N mup) (Mem.get aw mup) aq ar au av ((EL bq).mono mup) ry dc_ J.m_ om_) Z (.inr dc_) U6 (PI _) fl_ (fun cm _ cn _ br=>?_);refine Tn [9,12,14,15,155,156,157] a Z ?_;clear a R;refine Tl fun R a=>?_;refine Tq _ Z U6 ?_;refine C6 1 [9,12,14,15,155,156,157] a Z ?_;clear a R;obtain ⟨aI,w3,rfl,rfl,ah⟩:=br;rw [show ((cD B.col o).take j).flatMap f++([1, -1]:List Rat).map (gJ (bs B) (bp B) k (atT t (wgt B.pts t p)) (kU o z))=((cD B.col o).take (j+1)).flatMap f by rw [aH,<- aE]] at ah ⊢;refine Tv (m':=(cD B.col o).length-(j+1)) om_ mup (hn_ [9,12,14,15,155,156,157] Z) ⟨j+1,aI,w3,⟨by omega,ah⟩,Z,Z,Z⟩
   have K:j=(cD B.col o).length:=by
    have:=PJ aF;omega
   rw [K,PT,<- A] at J ⊢;refine Tx 0 mup (hn_ [14] Z) ⟨vs,w,J.mono mup,Z,Z⟩
  have ac:¬ o.kind=2:=by
   intro e;rw [show ((o.kind == 2)=true) by rw [e];rfl] at ab;cases ab
  obtain ⟨⟨bt,bu,bx⟩,aX,aZ,ai,ak⟩:=b.nr aD ac;obtain ⟨e1,q1⟩:=dw bt;obtain ⟨e2,q2⟩:=dw bu;obtain ⟨e3,q3⟩:=dw bx;have a0:(qtx (da o.nx)).length<=1000000:=PV (bi q1 dc_) dc_;have bz:(qtx (da o.ny)).length<=1000000:=PV (bi q2 dc_) dc_;have bA:QB 23 (pY o):=(jn (fa aX) ai ak).le dc_;have bB:QB 23 (iS o):=(jn (fa aZ) ai ak).le dc_;obtain ⟨g,aL⟩:∃ g,(fun k=>([1, -1]:List Rat).map (gJ (bs B) (bp B) k (atT t fun j=>(slf B.pts t j).1) (pY o))++([1, -1]:List Rat).map (gJ (bs B) (bp B) k (atT t fun j=>(slf B.pts t j).2) (iS o)))=g:=⟨_,rfl⟩;have A:rowsO B o p t z=(cD B.col o).flatMap g:=by unfold rowsO;rw [aG aD,aG ac,<- aL]
  have bC:∀ k,(g k).length=4:=fun k=>by rw [<- aL];rfl
  have bD:=qD (fun j=>(slf B.pts t j).1) ap;have bE:=qD (fun j=>(slf B.pts t j).2) ap;have bF:∀ x∈atT t (fun j=>(slf B.pts t j).1),x.1<bp B:=gj (P:=fun x=>x.1<bp B) l.1 l.2.1 l.2.2;have bG:∀ x∈atT t (fun j=>(slf B.pts t j).2),x.1<bp B:=gj (P:=fun x=>x.1<bp B) l.1 l.2.1 l.2.2;have bH:∀ x∈atT t (fun j=>(slf B.pts t j).1),QB 23 x.2:=gj (P:=fun x=>QB 23 x.2) ((b.sl 0).1.le dc_) ((b.sl 1).1.le dc_) ((b.sl 2).1.le dc_);have bJ:∀ x∈atT t (fun j=>(slf B.pts t j).2),QB 23 x.2:=gj (P:=fun x=>QB 23 x.2) ((b.sl 0).2.le dc_) ((b.sl 1).2.le dc_) ((b.sl 2).2.le dc_);refine Ti 1 Z fun R a=>?_;refine Tj (bkT O 2) U8 ?_;refine Tk U6 ?_;refine TT (DB _ d.m_ _ B.pts B.tris ti t aQ.m_ S b.tri b.sl) U7 (fun cp am _ bK=>?_);obtain ⟨be,bn,rfl,bL,bM⟩:=bK;refine C6 7 [8,13,14,15,21,22,23] a Z ?_;clear a R;refine Th 2 [8,13,14,15,21,22,23,77] Z ?_;refine G.cd (fun a1=>?_) fun a1=>?_
  ·exact absurd a1 dc_
  refine TD [0,1,2,3,4,5,6,7,8,9,10,11,12] [(3,1),(7,1)] Z kr_ (fun R M a=>?_);refine Tm 2 Z ?_;refine Tj (bkT E 1) U8 ?_;refine TG (fun _=>(by have h:=eF am (da o.nx) a0;rw [<- e1] at h;exact h)) U9 ?_;refine Tm 2 Z ?_;refine Tj (bkT E 1) U8 ?_;refine TG (fun _=>(by have h:=gK am d.m_ (-da o.nx) (da o.nz) 11 dc_ dc_ (fa aX) ai ak;rw [<- e3] at h;exact h)) U9 ?_;refine Tm 5 Z ?_;refine Tn [8,13,14,15,21,22,24] a Z ?_;clear a M R;refine TD [0,1,2,3,4,5,6,7,8,9,10,11,12] [(3,1),(7,1)] Z kr_ (fun R M a=>?_);refine Tm 2 Z ?_;refine Tj (bkT E 1) U8 ?_;refine TG (fun _=>(by have h:=eF am (da o.ny) bz;rw [<- e2] at h;exact h)) U9 ?_;refine Tm 2 Z ?_;refine Tj (bkT E 1) U8 ?_;refine TG (fun _=>(by have h:=gK am d.m_ (-da o.ny) (da o.nz) 11 dc_ dc_ (fa aZ) ai ak;rw [<- e3] at h;exact h)) U9 ?_;refine Tm 5 Z ?_;refine Tn [13,14,15,21,22,24,26] a Z ?_;clear a M R;refine Th 3 [14,15,21,22,24,26,101,102,103] Z ?_;refine G.loop (fun fr F y H=>∃ (j:Nat)(vs:List Value)(w:Value),(j<=(cD B.col o).length/\RowsOk F vs (((cD B.col o).take j).flatMap g))/\fr=[(14,[],.pointer (some ⟨c,0,none⟩)),(15,[],.func (.func 245) #[] #[.pointer (some ⟨c,0,none⟩),.pointer (some ⟨n,0,none⟩)]),(21,[],.map (some be)),(22,[],.map (some bn)),(24,[],af (qtx (pY o))),(26,[],af (qtx (iS o))),(101,[],.slice Al (cD B.col o).length cl),(102,[],.int .i64 (cD B.col o).length),(103,[],.int .i64 j)]/\y=[.obj c (.cells ⟨[w]⟩ 47 (0,0)),.arr w 140 2 (((cD B.col o).take j).flatMap g).length (aB vs (((cD B.col o).take j).flatMap g)).flatten]/\H=(cD B.col o).length-j) (hn_ [14,15,21,22,24,26,101,102,103] Z) ⟨0,[],.slice none 0 0,⟨PL _,RowsOk.nil _⟩,Z,Z,Z⟩ (fun fr cq cr m a0 I=>?_);obtain ⟨j,vs,w,⟨hj,J⟩,rfl,rfl,rfl⟩:=I;refine Th 1 [14,15,21,22,24,26,101,102,103,104] Z ?_;refine G.cd (fun aM=>?_) fun aM=>?_
  ·have K:j<(cD B.col o).length:=by
    have:=aY aM;omega
   obtain ⟨k,L⟩:∃ k,(cD B.col o)[j]?=some k:=⟨(cD B.col o)[j],aj K⟩;have ad:=aP k (O0 L);have ae:=fO bC ((cD B.col o).take j);rw [PS] at ae;have aH:=jd g L;refine Tl fun R a=>?_;refine Ty ax.m_ U10 om_ (co L) fl_ (fun cs bN=>?_);refine Tj bN U8 ?_;refine C6 1 [14,15,21,22,24,26,29,101,102,103] a Z ?_;clear a R;refine TH [(5,3)] Z (fun R a=>?_);refine Tm 4 Z ?_;refine TF [[af [49]],[af [45,49]]] U12 (fun ct _ _ bO=>?_);refine D.call (jl _ d.m_ (bs B) (bp B) k be c n (atT t fun j=>(slf B.pts t j).1) (pY o) [1, -1] _ w vs _ T ad (Mem.get N mup) (Mem.get bL mup) bD bF bH bA ((EL bO).mono mup) ry dc_ J.m_ om_) Z (.inr dc_) U6 (PI _) fl_ (fun cu _ cw _ bP=>?_);refine Tn [14,15,21,22,24,26,29,101,102,103] a Z ?_;clear a R;obtain ⟨aI,w3,rfl,rfl,ah⟩:=bP;refine TH [(5,3)] Z (fun R a=>?_);refine Tm 4 Z ?_;refine TF [[af [49]],[af [45,49]]] U12 (fun cy _ _ bQ=>?_);refine D.call (jl _ d.m_ (bs B) (bp B) k bn c n (atT t fun j=>(slf B.pts t j).2) (iS o) [1, -1] _ w3 aI _ T ad (Mem.get N mup) (Mem.get bM mup) bE bG bJ bB ((EL bQ).mono mup) ry dc_ ah.m_ (by rw [PM,ae];simp;omega)) Z (.inr dc_) U6 (PI _) fl_ (fun cz _ cA _ bR=>?_);refine Tn [14,15,21,22,24,26,101,102,103] a Z ?_;clear a R;refine Tl fun R a=>?_;refine Tq _ Z U6 ?_;refine C6 1 [14,15,21,22,24,26,101,102,103] a Z ?_;clear a R;obtain ⟨bS,w4,rfl,rfl,a2⟩:=bR;rw [show ((cD B.col o).take j).flatMap g++([1, -1]:List Rat).map (gJ (bs B) (bp B) k (atT t fun j=>(slf B.pts t j).1) (pY o))++([1, -1]:List Rat).map (gJ (bs B) (bp B) k (atT t fun j=>(slf B.pts t j).2) (iS o))=((cD B.col o).take (j+1)).flatMap g by rw [aH,<- aL,Qb]] at a2 ⊢;refine Tv (m':=(cD B.col o).length-(j+1)) om_ mup (hn_ [14,15,21,22,24,26,101,102,103] Z) ⟨j+1,bS,w4,⟨by omega,a2⟩,Z,Z,Z⟩
  have K:j=(cD B.col o).length:=by
   have:=PJ aM;omega
  rw [K,PT,<- A] at J ⊢;refine Tx 0 mup (hn_ [14] Z) ⟨vs,w,J.mono mup,Z,Z⟩
 obtain ⟨vs ,w,a3,rfl,rfl⟩:=I;refine G.freezeArr 1 (aB vs (rowsO B o p t z)) Z Z (bT _ _) (bI a3.1) (fun Cr cB bU=>?_);have a4:RowsIn Cr w (rowsO B o p t z):=⟨vs,a3.mono mup,bU⟩;refine Tl fun R a=>?_;refine To ag U9 ?_;refine Tw (DG _ d.m_ w (rowsO B o p t z) a4.m_ b.rows (fun r hr=>by rw [AM r hr];omega) (PV (vU (by unfold bs at a8;omega)) dc_)) U7 fl_ ?_;refine C6 4 [6,7] a Z ?_;clear a R;refine Tu (G.dropAll (TM U3 ?_));exact ⟨Z,w,Z,a4.mono mup⟩
structure Rich (B:Bk)(fs:List Rat)(RO:Nat->List RowQ):Prop where
 good:Good B.pts B.tris
 br:BookR B
 bz:iq B=0
 terr:Terr B fs
 h60:bs B*bp B<=60
 fine:∀ i o,B.obs[i]?=some o->∃ p ti t z,Fine B fs o p ti t z/\RO i=rowsO B o p t z
theorem ma (h:iq B=0):ri B.col=0:=by
 unfold iq at h;split at h
 ·rename_i h1;exact absurd h h1
 split at h
 ·rename_i h1;exact absurd h h1
 rename_i h1;exact P5 h1
theorem uH {l:List Lay}(h:ri l=0):l≠[]/\l.length<=60:=by
 unfold ri at h;split at h
 ·exact absurd h dc_
 rename_i h0;split at h
 ·exact absurd h dc_
 exact ⟨h0,by omega⟩
theorem Rich.bookz {a:Value}{d:Nat->List RowQ}(h:Rich B fs d)(e:Tabs C)(b:BookIn C a B):BookZ C a B 0 :=
 ⟨b,fun D c=>by have h2:=qw D (e.mono c) a B (b.mono c) h.good h.br;rwa [h.bz] at h2,fun _=>(uH (ma h.bz)).1,PV (uH (ma h.bz)).2 dc_,h.good.ok.lp⟩
theorem Rich.scol {a:Nat->List RowQ}(h:Rich B fs a):bs B+1=B.col.length/\B.col.length<=60:=by
 obtain ⟨h1,h2⟩:=uH (ma h.bz);have:=Qq.2 h1;unfold bs;omega
theorem Pf (C:Mem)(f:Tabs C)(b:Value)(B:Bk)(c:List Rat)(d:Nat->List RowQ)(i:Nat)(g:BookIn C b B)(a:Rich B c d)(j:i<B.obs.length) :
  Pur cx.P 183 [gu (bs B) (bp B),b,.int .i64 i] C fun u D=>∃ v,u=.tuple #[v,.int .i64 0]/\RowsIn D v (d i):=by
 have e:B.obs[i]?=some B.obs[i]:=aj j;obtain ⟨p,k,t,z,l,m⟩:=a.fine i _ e;have h:=LC C f b B c i _ p k t z g a.good a.br a.bz a.terr e l a.h60 (ma a.bz) a.scol.1 a.scol.2
 rwa [<- m] at h
theorem oS {a:Nat->List RowQ}(b:Rich B fs a)(c:i<B.obs.length):(a i).length<=240/\∀ r∈a i,r.f.length=bs B*bp B:=by
 have d:B.obs[i]?=some B.obs[i]:=aj c;obtain ⟨p,h,t,z,j,e⟩:=b.fine i _ d;have g:(cD B.col B.obs[i]).length<=60:=by
  unfold cD vF;refine PV (Rc _ _) ?_;rw [QR];have:=b.scol.2;omega
 rw [e];exact ⟨vU g,AM⟩
def bH (B:Bk):List RowQ:=ba (bs B) (bp B) B.col (B.col.length-2)
theorem Ct {b:Nat->List RowQ}(a:Rich B fs b):(bH B).length<=120:=by
 have h:=jt (bs B) (bp B) B.col (B.col.length-2);have h1:=a.scol.1;have h2:(B.col.length-2)*bp B<=bs B*bp B:=Qt _ om_;have h3:=a.h60;unfold bH;omega
structure SrcQ where
 n:Int
 r:RowQ
def bV (vs:List Value)(l:List SrcQ):List (List Value):=List.zipWith (fun w (s:SrcQ)=>[.int .i64 s.n,w,af (qtx s.r.b)]) vs l
def SrcsOk (C:Mem)(vs:List Value)(l:List SrcQ):Prop:=RowsOk C vs (l.map SrcQ.r)
def B7 (C:Mem)(v:Value)(l:List SrcQ):Prop:=∃ vs,SrcsOk C vs l/\Sl C 3 v (bV vs l)
theorem SrcsOk.mono {C D:Mem}{a:List Value}{l:List SrcQ}(h:SrcsOk C a l)(b:C.le D):SrcsOk D a l:=RowsOk.mono h b
theorem SrcsOk.m_ {D:Mem}{l:List SrcQ}(h:SrcsOk C vs l)(a:C.le D:=by exact mup):SrcsOk D vs l:=SrcsOk.mono h a
theorem SrcsOk.snoc {C:Mem}{a:List Value}{l:List SrcQ}{v:Value}{s:SrcQ}(h:SrcsOk C a l)(b:Sl C 1 v (s.r.f.map ec)):SrcsOk C (a++[v]) (l++[s]):=by
 unfold SrcsOk at h ⊢;rw [Qg];exact RowsOk.snoc h b
theorem jv {l:List SrcQ}(h:SrcsOk C vs l):vs.length=l.length:=by have:=h.1;simpa using this
theorem lk {l:List SrcQ}(h:vs.length=l.length)(v:Value)(s:SrcQ):bV (vs++[v]) (l++[s])=bV vs l++[[.int .i64 s.n,v,af (qtx s.r.b)]]:=by
 unfold bV;rw [List.zipWith_append h];rfl
theorem mZ {l:List SrcQ}(h:vs.length=l.length):(bV vs l).length=l.length:=by simp [bV,h]
theorem qQ (b:List Value)(l:List SrcQ):∀ r∈bV b l,r.length=3:=by
 intro r hr;unfold bV at hr;obtain ⟨i,a⟩:=Rw hr;rw [List.getElem?_zipWith] at a;cases h1:b[i]? <;> cases h2:l[i]? <;> rw [h1,h2] at a <;> simp at a
 subst a;rfl
def kB (n:Int)(l:List RowQ):List SrcQ:=l.map fun r=>⟨n,r⟩
def bS (T:List RowQ)(RO:Nat->List RowQ)(l:List Nat):List SrcQ:=kB (-1) T++l.flatMap fun i=>kB (i:Nat) (RO i)
theorem lj {n:Int}{l:List RowQ}{r:RowQ}(h:l[i]?=some r):kB n (l.take (i+1))=kB n (l.take i)++[⟨n,r⟩]:=by
 unfold kB;rw [P6,h,Qg];rfl
theorem xp {T:List RowQ}{RO:Nat->List RowQ}:∀ {l:List Nat},(∀ i∈l,(RO i).length<=240)->l.length<=100->T.length<=120->(bS T RO l).length<=120+240*l.length:=by
 intro l h e hT;unfold bS;rw [PM];have b:∀ l:List Nat,(∀ i∈l,(RO i).length<=240)->(l.flatMap fun i=>kB (i:Nat) (RO i)).length<=240*l.length:=by
  intro l;induction l with
  | nil=>intro _;simp
  | cons a l c =>
   intro h;have h1:=h a PG;have h2:=c fun i d=>h i (PP _ d);rw [List.flatMap_cons,PM,PW];have:(kB (a:Nat) (RO a)).length=(RO a).length:=by simp [kB]
   omega
 have h1:=b l h;have:(kB (-1) T).length=T.length:=by simp [kB]
 omega
theorem Hb (C:Mem)(hT:Tabs C)(bv lv:Value)(B:Bk)(fs:List Rat)(c:Nat->List RowQ)(l:List Nat)(hB:BookIn C bv B)(o:Rich B fs c)(M:Sl C 1 lv (l.map aT))(ad:∀ i∈l,i<B.obs.length)(aO:l.length<=100)(aP:(bS (bH B) c l).length<=300) :
  Pur cx.P 114 [gu (bs B) (bp B),bv,lv] C fun u D=>∃ v,u=.tuple #[v,.int .i64 0]/\B7 D v (bS (bH B) c l):=by
 have ax:=hB;have ay:=Ct o;obtain ⟨v1,v2,tv,cv,ov,rfl,h1,h2,h3,h4,h5⟩:=id hB.ex;obtain ⟨N,O,rfl,az,aQ,_⟩:=id M;have aR:maxLen<=9223372036854775807:=by simp [maxLen]
 simp only [al] at M az ⊢;have aA:=fun m:List Nat=>fun hm:∀ i∈m,i<B.obs.length=>fun aB:m.length<=100=>xp (T:=bH B) (RO:=c) (l:=m) (fun i F=>(oS o (hm i F)).1) aB ay;refine Tr func114 66 U3 fun w0=>Tl fun R d=>TC U6 fun Q=>TC U6 fun S=>C6 2 [2,3,4] d Z<|G.freeze 1 Z fun _ _ ae=>G.freeze 0 Z fun _ _ ah=>Th 1 [2,3,4,8] Z<|Tl fun R d=>Tj (bkT ae 2) U8<|Tk U6<|Tj (bkT ah 1) U8<|TT (vC _ hT.m_ _ (bs B) (bp B) B.col h4.m_ o.scol.1 o.h60 o.br.col) U7 (fun aS _ _ aC=>?_);obtain ⟨ai,U,H⟩:=aC;rw [show ba (bs B) (bp B) B.col (B.col.length-2)=bH B from rfl] at U H;have ak:=U.1;obtain ⟨At,ct,rfl,aD,aU,_⟩:=id H;simp only [bI ak] at H aD ⊢;refine C6 2 [2,3,4,8,20,21,22] d Z<|G.nilArr 142 3<|G.loop (fun fr x e y=>∃ (i:Nat)(vs:List Value)(w:Value),(i<=(bH B).length/\SrcsOk x vs (kB (-1) ((bH B).take i)))/\fr=[(2,[],.slice N l.length O),(3,[],.pointer (some ⟨Q,0,none⟩)),(4,[],.pointer (some ⟨S,0,none⟩)),(8,[],w),(20,[],.slice At (bH B).length ct),(21,[],.int .i64 (bH B).length),(22,[],.int .i64 i)]/\e=[.arr w 142 3 (kB (-1) ((bH B).take i)).length (bV vs (kB (-1) ((bH B).take i))).flatten]/\y=(bH B).length-i) (hn_ [2,3,4,8,20,21,22] Z) ⟨0,[],_,⟨PL _,RowsOk.nil _⟩,Z,Z,Z⟩ (fun fr aV aW m _ z=>?_);obtain ⟨i,vs,w,⟨F,I⟩,rfl,rfl,rfl⟩:=z;refine Th 1 [2,3,4,8,20,21,22,23] Z<|G.cd (fun V=>?_) fun V=>?_
 ·have J:i<(bH B).length:=by
   have:=aY V;omega
  obtain ⟨r,g⟩:∃ r,(bH B)[i]?=some r:=⟨(bH B)[i],aj J⟩;obtain ⟨p,q⟩:∃ p,ai[i]?=some p:=⟨ai[i]'(by rw [ak];exact J),aj _⟩;have t:=U.2 i p r q g;obtain ⟨h,n,rfl,_⟩:=id t;simp only [al] at t q;have aE:(kB (-1) ((bH B).take i)).length=i:=by simp [kB];omega
  refine Tl fun R d=>Ty H.m_ U10 om_ (kF q g) fl_ fun aX aF=>Tj aF U8<|TB U5 fun aZ=>Ts (j:=0) U12<|Tn [2,3,4,8,10,20,21,22] d Z<|Ti 1 Z fun R d=>To ag U9<|TA [.int .i64 (-1),.slice h r.f.length n,af (qtx r.b)] U8<|TF [[.int .i64 (-1),.slice h r.f.length n,af (qtx r.b)]] U12 fun a0 _ _ aG=>D.append (j:=1) U11 aG Z aw (by simp only [PD];omega) fl_ fun am=>C6 1 [2,3,4,8,20,21,22] d Z<|Tl fun R d=>Tq _ Z U6<|C6 1 [2,3,4,8,20,21,22] d Z ?_;have A:=SrcsOk.snoc (s:=⟨-1,r⟩) I.m_ t.m_;rw [<- lj g] at A;refine Ua 1 Z<|Tz (L':=[.arr am 142 3 (kB (-1) ((bH B).take (i+1))).length (bV (vs++[.slice h r.f.length n]) (kB (-1) ((bH B).take (i+1)))).flatten]) (by rw [lj g,lk (jv I)];simp)<|Tv (m':=(bH B).length-(i+1)) om_ mup (hn_ [2,3,4,8,20,21,22] Z) ⟨i+1,vs++[.slice h r.f.length n],am,⟨by omega,A.mono mup⟩,Z,Z,Z⟩
 have J:i=(bH B).length:=by
  have:=PJ V;omega
 rw [J,PT] at I ⊢;refine Th 3 [3,4,8,32,33,34] Z<|Tz (L':=[.arr w 142 3 (bS (bH B) c (l.take 0)).length (bV vs (bS (bH B) c (l.take 0))).flatten]) (by simp [bS])<|G.loop (fun fr x e y=>∃ (j:Nat)(vs:List Value)(w:Value),(j<=l.length/\SrcsOk x vs (bS (bH B) c (l.take j)))/\fr=[(3,[],.pointer (some ⟨Q,0,none⟩)),(4,[],.pointer (some ⟨S,0,none⟩)),(8,[],w),(32,[],.slice N l.length O),(33,[],.int .i64 l.length),(34,[],.int .i64 j)]/\e=[.arr w 142 3 (bS (bH B) c (l.take j)).length (bV vs (bS (bH B) c (l.take j))).flatten]/\y=l.length-j) (hn_ [3,4,8,32,33,34] Z) ⟨0,vs,w,⟨PL _,by simpa [bS] using I⟩,Z,Z,Z⟩ (fun fr a1 a2 m _ z=>?_);obtain ⟨j,vs,w,⟨hj,E⟩,rfl,rfl,rfl⟩:=z;refine Th 1 [3,4,8,32,33,34,35] Z<|G.cd (fun W=>?_) fun W=>?_
 ·have X:j<l.length:=by
   have:=aY W;omega
  obtain ⟨a,Y⟩:∃ a,l[j]?=some a:=⟨l[j],aj X⟩;have an:=ad a (O0 Y);have aH:=aA (l.take j) (fun i F=>ad i (QX F)) (by rw [PS];omega);rw [PS] at aH;have aI:bS (bH B) c (l.take (j+1))=bS (bH B) c (l.take j)++kB (a:Nat) (c a):=by
   unfold bS;rw [jd _ Y,Qb]
  have a3:=(oS o an).1;refine Tl fun R d=>Ty M.m_ U10 om_ (co Y) fl_ fun a4 aJ=>Tj aJ U8<|C6 1 [3,4,8,12,32,33,34] d Z<|Tl fun R d=>Tj (bkT ae 2) U8<|Tj (bkT ah 5) U8<|Tk U6<|TT (Pf _ hT.m_ _ B fs c a ax.m_ o an) U7 (fun a5 _ _ aK=>?_);obtain ⟨rv,rfl,ao,ap,aa⟩:=aK;have aq:=ap.1;obtain ⟨Ar,cr,rfl,aL,a6,_⟩:=id aa;simp only [bI aq] at aa aL ⊢;refine C6 5 [3,4,8,12,13,14,32,33,34] d Z<|Th 2 [3,4,8,12,13,14,32,33,34,46] Z<|G.cd (fun ar=>?_) fun ar=>?_
  ·exact absurd ar dc_
  refine Th 3 [3,4,8,12,32,33,34,48,49,50] Z<|Tz (L':=[.arr w 142 3 (bS (bH B) c (l.take j)++kB (a:Nat) ((c a).take 0)).length (bV vs (bS (bH B) c (l.take j)++kB (a:Nat) ((c a).take 0))).flatten]) (by simp [kB])<|G.loop (fun fr x e y=>∃ (k:Nat)(vs:List Value)(w:Value),(k<=(c a).length/\SrcsOk x vs (bS (bH B) c (l.take j)++kB (a:Nat) ((c a).take k)))/\fr=[(3,[],.pointer (some ⟨Q,0,none⟩)),(4,[],.pointer (some ⟨S,0,none⟩)),(8,[],w),(12,[],.int .i64 a),(32,[],.slice N l.length O),(33,[],.int .i64 l.length),(34,[],.int .i64 j),(48,[],.slice Ar (c a).length cr),(49,[],.int .i64 (c a).length),(50,[],.int .i64 k)]/\e=[.arr w 142 3 (bS (bH B) c (l.take j)++kB (a:Nat) ((c a).take k)).length (bV vs (bS (bH B) c (l.take j)++kB (a:Nat) ((c a).take k))).flatten]/\y=(c a).length-k) (hn_ [3,4,8,12,32,33,34,48,49,50] Z) ⟨0,vs,w,⟨PL _,by rw [show kB (a:Nat) ((c a).take 0)=[] from Z,P3];exact E.mono mup⟩,Z,Z,Z⟩ (fun fr a7 a8 m _ z=>?_);obtain ⟨k,vs,w,⟨hk,K⟩,rfl,rfl,rfl⟩:=z;refine Th 1 [3,4,8,12,32,33,34,48,49,50,51] Z<|G.cd (fun ab=>?_) fun ab=>?_
  ·have L:k<(c a).length:=by
    have:=aY ab;omega
   obtain ⟨r,g⟩:∃ r,(c a)[k]?=some r:=⟨(c a)[k],aj L⟩;obtain ⟨p,q⟩:∃ p,ao[k]?=some p:=⟨ao[k]'(by rw [aq];exact L),aj _⟩;have t:=ap.2 k p r q g;obtain ⟨h,n,rfl,_⟩:=id t;simp only [al] at t q;have aE:(kB (a:Nat) ((c a).take k)).length<=240:=by simp [kB];omega
   have a9:(bS (bH B) c (l.take j)++kB (a:Nat) ((c a).take k)).length<=100000:=by rw [PM];omega
   refine Tl fun R d=>Ty aa.m_ U10 om_ (kF q g) fl_ fun bb aM=>Tj aM U8<|TB U5 fun bc=>Ts (j:=0) U12<|Tn [3,4,8,12,16,32,33,34,48,49,50] d Z<|Ti 2 Z fun R d=>To ag U9<|TA [.int .i64 (a:Nat),.slice h r.f.length n,af (qtx r.b)] U8<|TF [[.int .i64 (a:Nat),.slice h r.f.length n,af (qtx r.b)]] U12 fun bd _ _ aN=>D.append (j:=1) U11 aN Z aw (by simp only [PD];omega) fl_ fun au=>C6 1 [3,4,8,12,32,33,34,48,49,50] d Z<|Tl fun R d=>Tq _ Z U6<|C6 1 [3,4,8,12,32,33,34,48,49,50] d Z ?_;have A:=SrcsOk.snoc (s:=⟨(a:Nat),r⟩) K.m_ t.m_;rw [Qb,<- lj g] at A;refine Ua 1 Z<|Tz (L':=[.arr au 142 3 (bS (bH B) c (l.take j)++kB (a:Nat) ((c a).take (k+1))).length (bV (vs++[.slice h r.f.length n]) (bS (bH B) c (l.take j)++kB (a:Nat) ((c a).take (k+1)))).flatten]) (by rw [lj g,<- Qb,lk (jv K)];simp;omega)<|Tv (m':=(c a).length-(k+1)) om_ mup (hn_ [3,4,8,12,32,33,34,48,49,50] Z) ⟨k+1,vs++[.slice h r.f.length n],au,⟨by omega,A.mono mup⟩,Z,Z,Z⟩
  have L:k=(c a).length:=by
   have:=PJ ab;omega
  rw [L,PT,<- aI] at K ⊢;refine Tl fun R d=>Tq _ Z U6<|C6 1 [3,4,8,32,33,34] d Z<|Tv (m':=l.length-(j+1)) om_ mup (hn_ [3,4,8,32,33,34] Z) ⟨j+1,vs,w,⟨by omega,K⟩,Z,Z,Z⟩
 have X:j=l.length:=by
  have:=PJ W;omega
 rw [X,PT] at E ⊢;refine G.freezeArr 0 (bV vs (bS (bH B) c l)) Z Z (qQ _ _) (mZ (jv E)) (fun Cg hg ac=>?_);obtain ⟨Ag,cg,rfl,_⟩:=id ac;rw [mZ (jv E)] at ac ⊢;refine Th 3 [8,64] Z<|G.cd (fun av=>?_) fun av=>?_
 ·exfalso;have:=aY av;omega
 refine Th 3 [6,7] Z<|Tu (G.dropAll (TM U3 ?_));exact ⟨Z,_,Z,vs,E.mono mup,ac.mono mup⟩
theorem KZ (C:Mem)(g:Tabs C)(h:Value)(B:Bk)(k:List Rat)(b:Nat->List RowQ)(c:BookIn C h B)(d:Rich B k b)(x:B.obs.length<=100)(z:(bS (bH B) b (List.range B.obs.length)).length<=300) :
  Pur cx.P 54 [h] C fun u D=>∃ v,u=.tuple #[v,.int .i64 0]/\B7 D v (bS (bH B) b (List.range B.obs.length)):=by
 have l:=c;have n:=d.bookz g c;obtain ⟨Q,S,T,U,V,rfl,h1,h2,h3,h4,h5⟩:=id c.ex;obtain ⟨W,X,rfl,A,Y,_⟩:=id h5;have aa:maxLen<=9223372036854775807:=by simp [maxLen]
 simp only [al] at h5 A l n ⊢;refine Tr func54 33 U3 fun w0=>Tl fun R a=>TC U6 fun E=>C6 2 [1] a Z<|G.freeze 0 Z fun _ _ e=>Tl fun R a=>Tj (bkT e 5) U8<|Tt (Oh _ _ B n.m_ d.h60) U7<|Tm 3 Z<|TB U5 fun F=>Ts (j:=0) U12<|C6 1 [1,4,5] a Z<|Th 2 [1,4,5,14] Z<|G.cd (fun o=>?_) fun o=>?_
 ·exact absurd o dc_
 refine Th 1 [1,4,6] Z<|Ti 1 Z fun R a=>Tj (bkT e 1) U8<|C6 2 [1,4,6,18,19] a Z<|G.freeze 0 Z fun _ _ H=>G.nilArr 3 1<|G.loop (fun fr C' p I=>∃ (i:Nat)(w:Value),(i<=B.obs.length)/\fr=[(1,[],.pointer (some ⟨E,0,none⟩)),(4,[],.pointer (some ⟨F,0,none⟩)),(6,[],w),(18,[],.int .i64 B.obs.length),(19,[],.int .i64 i)]/\p=[.arr w 3 1 (List.range i).length ((List.range i).map aT).flatten]/\I=B.obs.length-i) (hn_ [1,4,6,18,19] Z) ⟨0,_,PL _,Z,Z,Z⟩ (fun fr ab ac m _ J=>?_);obtain ⟨i,w,q,rfl,rfl,rfl⟩:=J;refine Th 1 [1,4,6,18,19,20] Z<|G.cd (fun f=>?_) fun f=>?_
 ·have s:i<B.obs.length:=by
   have:=aY f;omega
  have ad:(List.range i).length<=100:=by simp;omega
  refine Th 2 [1,4,6,7,18,19] Z<|Ti 2 Z fun R a=>TF [aT i] U12 fun ae _ _ K=>D.append (j:=0) U11 K Z aw (by simp only [PD];omega) fl_ fun t=>C6 1 [1,4,6,18,19] a Z<|Tl fun R a=>Tq _ Z U6<|C6 1 [1,4,6,18,19] a Z<|Tz (L':=[.arr t 3 1 (List.range (i+1)).length ((List.range (i+1)).map aT).flatten]) (by rw [QO];simp [aT])<|Tv (m':=B.obs.length-(i+1)) om_ mup (hn_ [1,4,6,18,19] Z) ⟨i+1,t,om_,Z,Z,Z⟩
 have s:i=B.obs.length:=by
  have:=PJ f;omega
 subst s;refine G.freezeArr 0 ((List.range B.obs.length).map aT) rfl rfl (by intro r hr;obtain ⟨y,_,rfl⟩:=PK.1 hr;rfl) am fun Cg hg L=>Tl fun R a=>Tj (bkT H 2) U8<|Tj (bkT e 5) U8<|Tk U6<|TO (Hb _ g.m_ _ _ B k b (List.range B.obs.length) l.m_ d L.m_ (fun i q=>PX.1 q) (by simpa using x) z) U7 fl_ (fun af _ _ M=>?_);obtain ⟨N,rfl,O⟩:=M;refine C6 4 [2,3] a Z<|Tu (G.dropAll (TM U3 ?_));exact ⟨Z,N,Z,O⟩
end Go.Proofs.YtfjcldheldflbaaGreatDoor
