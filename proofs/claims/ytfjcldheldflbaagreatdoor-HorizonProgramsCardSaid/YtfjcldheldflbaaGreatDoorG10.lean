/- Laws that the proofs of this seat share, part 10. -/
import Derived.Test.YtfjcldheldflbaaGreatDoorG9
import Derived.Test.YtfjcldheldflbaaGreatDoorShelf
set_option maxHeartbeats 4000000
namespace Go.Proofs.YtfjcldheldflbaaGreatDoor
open Go.Proofs.Tryz
open Go Go.Jog
set_option maxRecDepth 100000
variable {B:Bk}{C:Mem}{a b:Nat}{fs:List Rat}{i k n:Nat}{o:Obs}{p:Pt}{t:Tri}{v:Value}{vs:List Value}{z:Rat}
structure RowQ where
 f:List Rat
 b:Rat
def ay (vs:List Value)(rows:List RowQ):List (List Value):=List.zipWith (fun w (r:RowQ)=>[w,af (qtx r.b)]) vs rows
def RowsOk (C:Mem)(vs:List Value)(rows:List RowQ):Prop:=vs.length=rows.length/\∀ (i:Nat)(w:Value)(r:RowQ),vs[i]?=some w->rows[i]?=some r->Sl C 1 w (r.f.map eD)
theorem RowsOk.mono {C D:Mem}{a:List Value}{b:List RowQ}(h:RowsOk C a b)(c:C.le D):RowsOk D a b:=⟨h.1,fun i w r h1 h2=>(h.2 i w r h1 h2).mono c⟩
theorem RowsOk.m_ {D:Mem}{a:List RowQ}(h:RowsOk C vs a)(b:C.le D:=by exact mup):RowsOk D vs a:=RowsOk.mono h b
theorem RowsOk.nil (C:Mem):RowsOk C [] []:=⟨rfl,fun i w r h1 _=>by simp at h1⟩
theorem RowsOk.snoc {a:List RowQ}{r:RowQ}(h:RowsOk C vs a)(c:Sl C 1 v (r.f.map eD)):RowsOk C (vs++[v]) (a++[r]):=by
 have h0:=h.1;refine ⟨by simp [h0],fun j w r' h1 h2=>?_⟩;rcases PQ j vs.length with d | e
 ·rw [P0 d] at h1;rw [P0 om_] at h2;exact h.2 j w r' h1 h2
 rw [PJ e] at h1;rw [PJ om_,<- h0] at h2;cases b:j-vs.length with
 | zero=>rw [b] at h1 h2;simp at h1 h2;subst h1;subst h2;exact c
 | succ q=>rw [b] at h1;simp at h1
theorem bY {a:List RowQ}(h:vs.length=a.length)(v:Value)(r:RowQ):ay (vs++[v]) (a++[r])=ay vs a++[[v,af (qtx r.b)]]:=by
 unfold ay;rw [List.zipWith_append h];rfl
theorem bA {a:List RowQ}(h:vs.length=a.length):(ay vs a).length=a.length:=by simp [ay,h]
theorem bP (b:List Value)(c:List RowQ):∀ r∈ay b c,r.length=2:=by
 intro r hr;unfold ay at hr;obtain ⟨i,a⟩:=Q6 hr;rw [List.getElem?_zipWith] at a;cases h1:b[i]? <;> cases h2:c[i]? <;> rw [h1,h2] at a <;> simp at a
 subst a;rfl
def RowsIn (C:Mem)(v:Value)(rows:List RowQ):Prop:=∃ vs:List Value,RowsOk C vs rows/\Sl C 2 v (ay vs rows)
theorem RowsIn.mono {C D:Mem}{v:Value}{a:List RowQ}(h:RowsIn C v a)(b:C.le D):RowsIn D v a:=by
 obtain ⟨vs,h1,h2⟩:=h;exact ⟨vs,h1.mono b,h2.mono b⟩
theorem RowsIn.m_ {D:Mem}{a:List RowQ}(h:RowsIn C v a)(b:C.le D:=by exact mup):RowsIn D v a:=RowsIn.mono h b
def rL (s p:Nat)(x:Lay)(i k:Nat):RowQ:=⟨ru (s*p) [(i*p+k, -1),((i-1)*p+k,1)], -x.min⟩
def F7 (s p:Nat)(m:Rat)(i k:Nat):RowQ:=⟨ru (s*p) [(i*p+k,1),((i-1)*p+k, -1)],m⟩
def jX (s p:Nat)(x:Lay)(i k:Nat):List RowQ :=
 rL s p x i k::(match x.max with
  | none=>[]
  | some m=>[F7 s p m i k])
def bl (s p:Nat)(x:Lay)(i:Nat):Nat->List RowQ
 | 0=>[]
 | k+1=>bl s p x i k++jX s p x i k
def ba (s p:Nat)(col:List Lay):Nat->List RowQ
 | 0=>[]
 | n+1=>ba s p col n++bl s p (col.getD (n+1) ⟨[],0,none⟩) (n+1) p
theorem mm (s p:Nat)(x:Lay)(i:Nat):∀ k,(bl s p x i k).length<=2*k
 | 0=>Pf _
 | k+1=>by
  have:=mm s p x i k;have h2:(jX s p x i k).length<=2:=by unfold jX;split <;> simp
  simp only [bl,Po];omega
theorem jp (s p:Nat)(a:List Lay):∀ n,(ba s p a n).length<=2*(n*p)
 | 0=>by simp [ba]
 | n+1=>by
  have:=jp s p a n;have h2:=mm s p (a.getD (n+1) ⟨[],0,none⟩) (n+1) p;simp only [ba,Po,Nat.succ_mul];omega
theorem cV:qtx (-1)=[45,49]:=by
 rw [eQ (q:=1) dc_ dc_,dB]
theorem st2 (c d:Rat)(e:a<n)(f:b<n):aE (aE (List.replicate n (af [48])) [af (qtx c)] a) [af (qtx d)] b=kR n [(b,d),(a,c)]:=by
 rw [lN,fw _ _ e,fw _ _ f]
theorem Ow (c d:Rat)(e:a<n)(f:b<n)(g:a≠b):aE (aE (List.replicate n (af [48])) [af (qtx d)] b) [af (qtx c)] a=kR n [(b,d),(a,c)]:=by
 rw [st2 d c f e];unfold kR;rw [vR (List.Perm.swap _ _ _) (by simp;exact g)]
theorem jd (n:Nat)(d:List (Nat × Rat)):kR n d=((ru n d).map eD).flatten:=(ek (fun q=>af (qtx q)) _).symm
theorem jx (n:Nat)(d:List (Nat × Rat)):(ru n d).length=n:=by simp [ru]
theorem vo (C:Mem)(_aN:Tabs C)(v:Value)(s p:Nat)(c:List Lay)(K:Sl C 3 v (c.map uV))(hs:s+1=c.length)(aO:s*p<=60)(ao:∀ x∈c,M7 x) :
  Pur cx.P 182 [gk s p,v] C fun u D=>RowsIn D u (ba s p c (c.length-2)):=by
 obtain ⟨H,c0,rfl,ap,aP,_⟩:=id K;have aQ:maxLen<=9223372036854775807:=by simp [maxLen]
 simp only [al] at K ap ⊢;refine S4 func182 81 U3 fun w0=>SX fun R d=>Tf U6 fun I=>C6 1 [1,2] d Z<|G.freeze 0 Z fun _ _ L=>SR 1 [1,2,5] Z<|SR 1 [1,2,5,6] Z<|G.nilArr 140 2<|G.loop (fun fr F f t=>∃ (i:Nat)(vs:List Value)(w:Value),(1<=i/\(i+1<=c.length∨i=1)/\RowsOk F vs (ba s p c (i-1)))/\fr=[(1,[],.slice H c.length c0),(2,[],.pointer (some ⟨I,0,none⟩)),(5,[],w),(6,[],.int .i64 i)]/\f=[.arr w 140 2 (ba s p c (i-1)).length (ay vs (ba s p c (i-1))).flatten]/\t=c.length-i) (hn_ [1,2,5,6] Z) ⟨1,[],_,⟨Pf _,.inr Z,RowsOk.nil _⟩,Z,Z,Z⟩ (fun fr aR aS m _ z=>?_);obtain ⟨i,vs,w,⟨aT,aU,Q⟩,rfl,rfl,rfl⟩:=z;refine SS 1 Z fun R d=>S2 _ Z U6<|C6 3 [1,2,5,6,15] d Z<|G.cd (fun X=>?_) fun X=>?_
 ·have ad:i+1<c.length:=by
   have:=OD X;omega
  obtain ⟨x,M⟩:∃ x,c[i]?=some x:=⟨c[i]'om_,ak om_⟩;obtain ⟨N,aV,aW⟩:=ao x (Pe M);have aX:=jp s p c (i-1);refine SS 1 Z fun R d=>SU (bkT L 1) U8<|C6 1 [1,2,5,6,19,20] d Z<|Tc (L':=[.arr w 140 2 (ba s p c (i-1)++bl s p x i 0).length (ay vs (ba s p c (i-1)++bl s p x i 0)).flatten]) (by simp [bl])<|G.loop (fun fr F f t=>∃ (k:Nat)(g:List Value)(o:Value),(k<=p/\RowsOk F g (ba s p c (i-1)++bl s p x i k))/\fr=[(1,[],.slice H c.length c0),(2,[],.pointer (some ⟨I,0,none⟩)),(5,[],o),(6,[],.int .i64 i),(19,[],.int .i64 p),(20,[],.int .i64 k)]/\f=[.arr o 140 2 (ba s p c (i-1)++bl s p x i k).length (ay g (ba s p c (i-1)++bl s p x i k)).flatten]/\t=p-k) (hn_ [1,2,5,6,19,20] Z) ⟨0,vs,w,⟨Pm _,by simpa [bl] using Q⟩,Z,Z,Z⟩ (fun fr aZ a0 m _ z=>?_);obtain ⟨k,g,o,⟨hk,Y⟩,rfl,rfl,rfl⟩:=z;refine SR 1 [1,2,5,6,19,20,21] Z<|G.cd (fun aa=>?_) fun aa=>?_
  ·have ah:k<p:=by simpa using aa
   have a1:i*p+p<=s*p:=by
    rw [<- Nat.succ_mul];exact P7 _ om_
   have a2:(i-1)*p+p=i*p:=by
    rw [<- Nat.succ_mul,show (i-1).succ=i by omega]
   have a3:=mm s p x i k;have a4:(i-1)*p<=60:=by omega
   have ai:(ba s p c (i-1)++bl s p x i k).length<=400:=by
    rw [Po];omega
   refine SR 2 [1,2,5,6,7,19,20] Z<|Tg [0,1,2,3,4,5,6,7,8,9,10] [(4,1),(8,1)] Z kr_ fun R S d=>SU (bkT L 2) U8<|SV U6<|Ts (((i-1:Nat):Int)) U4 om_ om_ om_ U2<|SV U6<|Tj (fun _=>(ye _ s p (i-1) k om_)) U9<|SU (bkT L 2) U8<|SZ 2 Z<|Tj (fun _=>(ye _ s p i k om_)) U9<|C6 2 [1,2,5,6,8,9,19,20] d Z<|G.cut (fun fr F f t=>∃ (bz e:Nat),(True)/\fr=[(1,[],.slice H c.length c0),(2,[],.pointer (some ⟨I,0,none⟩)),(5,[],o),(6,[],.int .i64 i),(8,[],.int .i64 ((((i-1)*p+k:Nat)):Int)),(9,[],.int .i64 (((i*p+k:Nat)):Int)),(10,[],.pointer (some ⟨e,0,none⟩)),(19,[],.int .i64 p),(20,[],.int .i64 k)]/\f=[.arr (.slice (some ⟨bz,0,none⟩) (s*p) (s*p)) 32 1 (s*p) (List.replicate (s*p) (af [48])),.obj e (.cells ⟨[.slice (some ⟨bz,0,none⟩) (s*p) (s*p),af (qtx (-x.min))]⟩ 140 (0,0)),.arr o 140 2 (ba s p c (i-1)++bl s p x i k).length (ay g (ba s p c (i-1)++bl s p x i k)).flatten]) ?_ (fun fr a5 a6 t a7 z=>?_)
   ·refine TG (.cut [0,2,3,4,5] (.alt 1 (.fin [6,7,8,9,10]) (.alt 6 (.cut [] (.alt 1 (.fin [7,8,9,10]) (.alt 9 (.fin [1,7,8,10]) .stop))) (.alt 9 (.cut [] (.alt 1 (.fin [6,7,8,10]) (.alt 6 (.fin [1,7,8,10]) .stop))) .stop)))) [(7,1),(1,3)] Z Z kr_ fun R S d B=>SU (bkT L 2) U8<|SZ 2 Z<|Ta K.m_ U10 om_ (cq M) fl_ fun a8 aq=>Ug aq U10 fl_ fun a9 T=>Tw B Z ⟨?_, ?_, ?_,trivial⟩
    ·refine D.call (fO _ s p om_) Z (.inr dc_) U6 (Pk _) fl_ fun U V W _ E=>SU T.m_ U8<|Tu (fun _=>(eA _ x.min (CE N))) U9 ?_;obtain ⟨bz,rfl,rfl⟩:=E;refine Td [.slice (some ⟨bz,0,none⟩) (s*p:Nat) (s*p:Nat),af (qtx (-x.min))] U8<|Te U5 (fun e=>?_)
     first | refine TL (j:=0) U12 ?_ | refine TL (j:=1) U12 ?_
     exact SY [1,2,5,6,8,9,10,19,20] d Z<|G.perm (L':=[.arr (.slice (some ⟨bz,0,none⟩) (s*p) (s*p)) 32 1 (s*p) (List.replicate (s*p) (af [48])),.obj e (.cells ⟨[.slice (some ⟨bz,0,none⟩) (s*p) (s*p),af (qtx (-x.min))]⟩ 140 (0,0)),.arr o 140 2 (ba s p c (i-1)++bl s p x i k).length (ay g (ba s p c (i-1)++bl s p x i k)).flatten]) (by first | exact Pk _ | exact List.Perm.swap _ _ _)<|S9 0 mup (hn_ [1,2,5,6,8,9,10,19,20] Z) ⟨bz,e,trivial,Z,Z⟩
    ·refine SU T.m_ U8<|Tw B Z ⟨?_, ?_,trivial⟩
     ·refine D.call (fO _ s p om_) Z (.inr dc_) U6 (Pk _) fl_ fun U V W _ E=>Tu (fun _=>(eA _ x.min (CE N))) U9 ?_;obtain ⟨bz,rfl,rfl⟩:=E;refine Td [.slice (some ⟨bz,0,none⟩) (s*p:Nat) (s*p:Nat),af (qtx (-x.min))] U8<|Te U5 (fun e=>?_)
      first | refine TL (j:=0) U12 ?_ | refine TL (j:=1) U12 ?_
      exact SY [1,2,5,6,8,9,10,19,20] d Z<|G.perm (L':=[.arr (.slice (some ⟨bz,0,none⟩) (s*p) (s*p)) 32 1 (s*p) (List.replicate (s*p) (af [48])),.obj e (.cells ⟨[.slice (some ⟨bz,0,none⟩) (s*p) (s*p),af (qtx (-x.min))]⟩ 140 (0,0)),.arr o 140 2 (ba s p c (i-1)++bl s p x i k).length (ay g (ba s p c (i-1)++bl s p x i k)).flatten]) (by first | exact Pk _ | exact List.Perm.swap _ _ _)<|S9 0 mup (hn_ [1,2,5,6,8,9,10,19,20] Z) ⟨bz,e,trivial,Z,Z⟩
     refine Te U5 fun e=>D.call (fO _ s p om_) Z (.inr dc_) U6 (Pk _) fl_ fun U V W _ E=>Tu (fun _=>(eA _ x.min (CE N))) U9 ?_;obtain ⟨bz,rfl,rfl⟩:=E;refine Td [.slice (some ⟨bz,0,none⟩) (s*p:Nat) (s*p:Nat),af (qtx (-x.min))] U8 ?_
     first | refine TL (j:=0) U12 ?_ | refine TL (j:=1) U12 ?_
     exact SY [1,2,5,6,8,9,10,19,20] d Z<|G.perm (L':=[.arr (.slice (some ⟨bz,0,none⟩) (s*p) (s*p)) 32 1 (s*p) (List.replicate (s*p) (af [48])),.obj e (.cells ⟨[.slice (some ⟨bz,0,none⟩) (s*p) (s*p),af (qtx (-x.min))]⟩ 140 (0,0)),.arr o 140 2 (ba s p c (i-1)++bl s p x i k).length (ay g (ba s p c (i-1)++bl s p x i k)).flatten]) (by first | exact Pk _ | exact List.Perm.swap _ _ _)<|S9 0 mup (hn_ [1,2,5,6,8,9,10,19,20] Z) ⟨bz,e,trivial,Z,Z⟩
    refine Te U5 fun e=>Tw B Z ⟨?_, ?_,trivial⟩
    ·refine D.call (fO _ s p om_) Z (.inr dc_) U6 (Pk _) fl_ fun U V W _ E=>SU T.m_ U8<|Tu (fun _=>(eA _ x.min (CE N))) U9 ?_;obtain ⟨bz,rfl,rfl⟩:=E;refine Td [.slice (some ⟨bz,0,none⟩) (s*p:Nat) (s*p:Nat),af (qtx (-x.min))] U8 ?_
     first | refine TL (j:=0) U12 ?_ | refine TL (j:=1) U12 ?_
     exact SY [1,2,5,6,8,9,10,19,20] d Z<|G.perm (L':=[.arr (.slice (some ⟨bz,0,none⟩) (s*p) (s*p)) 32 1 (s*p) (List.replicate (s*p) (af [48])),.obj e (.cells ⟨[.slice (some ⟨bz,0,none⟩) (s*p) (s*p),af (qtx (-x.min))]⟩ 140 (0,0)),.arr o 140 2 (ba s p c (i-1)++bl s p x i k).length (ay g (ba s p c (i-1)++bl s p x i k)).flatten]) (by first | exact Pk _ | exact List.Perm.swap _ _ _)<|S9 0 mup (hn_ [1,2,5,6,8,9,10,19,20] Z) ⟨bz,e,trivial,Z,Z⟩
    refine SU T.m_ U8<|D.call (fO _ s p om_) Z (.inr dc_) U6 (Pk _) fl_ fun U V W _ E=>Tu (fun _=>(eA _ x.min (CE N))) U9 ?_;obtain ⟨bz,rfl,rfl⟩:=E;refine Td [.slice (some ⟨bz,0,none⟩) (s*p:Nat) (s*p:Nat),af (qtx (-x.min))] U8 ?_
    first | refine TL (j:=0) U12 ?_ | refine TL (j:=1) U12 ?_
    exact SY [1,2,5,6,8,9,10,19,20] d Z<|G.perm (L':=[.arr (.slice (some ⟨bz,0,none⟩) (s*p) (s*p)) 32 1 (s*p) (List.replicate (s*p) (af [48])),.obj e (.cells ⟨[.slice (some ⟨bz,0,none⟩) (s*p) (s*p),af (qtx (-x.min))]⟩ 140 (0,0)),.arr o 140 2 (ba s p c (i-1)++bl s p x i k).length (ay g (ba s p c (i-1)++bl s p x i k)).flatten]) (by first | exact Pk _ | exact List.Perm.swap _ _ _)<|S9 0 mup (hn_ [1,2,5,6,8,9,10,19,20] Z) ⟨bz,e,trivial,Z,Z⟩
   obtain ⟨bz,e,_,rfl,rfl⟩:=z;refine G.cut (fun fr F f t=>(True)/\fr=[(1,[],.slice H c.length c0),(2,[],.pointer (some ⟨I,0,none⟩)),(5,[],o),(6,[],.int .i64 i),(8,[],.int .i64 ((((i-1)*p+k:Nat)):Int)),(9,[],.int .i64 (((i*p+k:Nat)):Int)),(10,[],.pointer (some ⟨e,0,none⟩)),(19,[],.int .i64 p),(20,[],.int .i64 k)]/\f=[.arr (.slice (some ⟨bz,0,none⟩) (s*p) (s*p)) 32 1 (s*p) (kR (s*p) [(i*p+k, -1),((i-1)*p+k,1)]),.obj e (.cells ⟨[.slice (some ⟨bz,0,none⟩) (s*p) (s*p),af (qtx (-x.min))]⟩ 140 (0,0)),.arr o 140 2 (ba s p c (i-1)++bl s p x i k).length (ay g (ba s p c (i-1)++bl s p x i k)).flatten]) ?_ (fun fr bb bc t bd z=>?_)
   ·refine TG (.cut [0,1,2,3,5,6] (.alt 4 (.fin [7,8,9]) (.alt 7 (.fin [4,8,9]) .stop))) [] Z Z kr_ fun R S d B=>SV U6<|S1 ae U9<|SZ 3 Z<|Tm (((i-1)*p+k)) U10 (fun _=>⟨by omega,by omega,(Ql _).symm⟩) U2<|Tw B Z ⟨?_, ?_,trivial⟩
    ·refine S1 ae U9<|Tr (j:=0) U11 (by simp [];omega)<|Tm ((i*p+k)) U10 (fun _=>⟨by omega,by omega,(Ql _).symm⟩) U2<|Tr (j:=0) U11 (by simp [aE];omega)<|SY [1,2,5,6,8,9,10,19,20] d Z<|Tc (L':=[.arr (.slice (some ⟨bz,0,none⟩) (s*p) (s*p)) 32 1 (s*p) (kR (s*p) [(i*p+k, -1),((i-1)*p+k,1)]),.obj e (.cells ⟨[.slice (some ⟨bz,0,none⟩) (s*p) (s*p),af (qtx (-x.min))]⟩ 140 (0,0)),.arr o 140 2 (ba s p c (i-1)++bl s p x i k).length (ay g (ba s p c (i-1)++bl s p x i k)).flatten]) (by
      first
      | (rw [<- st2 (n:=s*p) 1 (-1) om_ om_,dB,cV];rfl)
      | (rw [<- Ow (n:=s*p) 1 (-1) om_ om_ om_,dB,cV];rfl)) ?_
     exact S9 0 (Mem.le.refl _) (hn_ [1,2,5,6,8,9,10,19,20] Z) ⟨trivial,Z,Z⟩
    refine Tr (j:=0) U11 (by simp [];omega)<|S1 ae U9<|Tm ((i*p+k)) U10 (fun _=>⟨by omega,by omega,(Ql _).symm⟩) U2<|Tr (j:=0) U11 (by simp [aE];omega)<|SY [1,2,5,6,8,9,10,19,20] d Z<|Tc (L':=[.arr (.slice (some ⟨bz,0,none⟩) (s*p) (s*p)) 32 1 (s*p) (kR (s*p) [(i*p+k, -1),((i-1)*p+k,1)]),.obj e (.cells ⟨[.slice (some ⟨bz,0,none⟩) (s*p) (s*p),af (qtx (-x.min))]⟩ 140 (0,0)),.arr o 140 2 (ba s p c (i-1)++bl s p x i k).length (ay g (ba s p c (i-1)++bl s p x i k)).flatten]) (by
     first
     | (rw [<- st2 (n:=s*p) 1 (-1) om_ om_,dB,cV];rfl)
     | (rw [<- Ow (n:=s*p) 1 (-1) om_ om_ om_,dB,cV];rfl)) ?_
    exact S9 0 (Mem.le.refl _) (hn_ [1,2,5,6,8,9,10,19,20] Z) ⟨trivial,Z,Z⟩
   obtain ⟨_,rfl,rfl⟩:=z;refine G.freezeArr 0 ((ru (s*p) [(i*p+k, -1),((i-1)*p+k,1)]).map eD) ⟨rfl,(jd _ _)⟩ (by intro r hr;obtain ⟨y,_,rfl⟩:=Pn.1 hr;rfl) (by simp [jx]) (fun Cz hz ar=>?_);have au:=Y.1;have ab:=RowsOk.snoc (r:=rL s p x i k) Y.m_ ar;have av:=bY au (.slice (some ⟨bz,0,none⟩) (s*p) (s*p)) (rL s p x i k);refine SS 1 Z fun R d=>S1 ag U9<|Th [[.slice (some ⟨bz,0,none⟩) (s*p:Nat) (s*p:Nat),af (qtx (-x.min))]] U12 fun be _ _ ax=>D.append (j:=1) U11 ax Z aw (by simp only [aY];omega) fl_ fun A=>C6 1 [1,2,5,6,8,9,10,19,20] d Z<|Tc (L':=[.arr A 140 2 (ba s p c (i-1)++bl s p x i k++[rL s p x i k]).length (ay (g++[.slice (some ⟨bz,0,none⟩) (s*p) (s*p)]) (ba s p c (i-1)++bl s p x i k++[rL s p x i k])).flatten,.obj e (.cells ⟨[.slice (some ⟨bz,0,none⟩) (s*p) (s*p),af (qtx (-x.min))]⟩ 140 (0,0))]) (by rw [av];simp [rL];omega)<|SS 2 Z fun R d=>Ta K.m_ U10 om_ (cq M) fl_ fun bf az=>Ug az U10 fl_ fun bg aA=>SU aA U8<|C6 1 [1,2,5,6,8,9,10,19,20,58] d Z<|G.cd (fun J=>?_) fun J=>?_
   ·obtain ⟨m,hm⟩:∃ m,x.max=some m:=by
     rw [pk] at J;exact Se.1 J
    have O:jX s p x i k=[rL s p x i k,F7 s p m i k]:=by unfold jX;rw [hm]
    have aB:uS x.max=qtx m:=by rw [hm];rfl
    refine G.cut (fun fr F f t=>∃ (h:Nat),(True)/\fr=[(1,[],.slice H c.length c0),(2,[],.pointer (some ⟨I,0,none⟩)),(5,[],A),(6,[],.int .i64 i),(8,[],.int .i64 ((((i-1)*p+k:Nat)):Int)),(9,[],.int .i64 (((i*p+k:Nat)):Int)),(10,[],.pointer (some ⟨e,0,none⟩)),(19,[],.int .i64 p),(20,[],.int .i64 k)]/\f=[.arr (.slice (some ⟨h,0,none⟩) (s*p) (s*p)) 32 1 (s*p) (List.replicate (s*p) (af [48])),.obj e (.cells ⟨[.slice (some ⟨h,0,none⟩) (s*p) (s*p),af (uS x.max)]⟩ 140 (0,0)),.arr A 140 2 (ba s p c (i-1)++bl s p x i k++[rL s p x i k]).length (ay (g++[.slice (some ⟨bz,0,none⟩) (s*p) (s*p)]) (ba s p c (i-1)++bl s p x i k++[rL s p x i k])).flatten]) ?_ (fun fr bh bi t bj z=>?_)
    ·refine TG (.cut [0,2,3,4,5] (.alt 1 (.fin [6,7,8]) (.alt 6 (.fin [1,7,8]) .stop))) [(1,3)] Z Z kr_ fun R S d B=>SU (bkT L 2) U8<|SZ 2 Z<|Ta K.m_ U10 om_ (cq M) fl_ fun bk aC=>Ug aC U10 fl_ fun bm aj=>Tw B Z ⟨?_, ?_,trivial⟩
     ·refine D.call (fO _ s p om_) Z (.inr dc_) U6 (Pk _) fl_ fun aD aF aG _ ac=>SU aj.m_ U8 ?_;obtain ⟨h,rfl,rfl⟩:=ac;refine Td [.slice (some ⟨h,0,none⟩) (s*p:Nat) (s*p:Nat),af (uS x.max)] U8 ?_
      first | refine TL (j:=2) U12 ?_ | refine TL (j:=1) U12 ?_
      exact SY [1,2,5,6,8,9,10,19,20] d Z<|G.perm (L':=[.arr (.slice (some ⟨h,0,none⟩) (s*p) (s*p)) 32 1 (s*p) (List.replicate (s*p) (af [48])),.obj e (.cells ⟨[.slice (some ⟨h,0,none⟩) (s*p) (s*p),af (uS x.max)]⟩ 140 (0,0)),.arr A 140 2 (ba s p c (i-1)++bl s p x i k++[rL s p x i k]).length (ay (g++[.slice (some ⟨bz,0,none⟩) (s*p) (s*p)]) (ba s p c (i-1)++bl s p x i k++[rL s p x i k])).flatten]) (by first | exact Pk _ | exact List.Perm.swap _ _ _)<|S9 0 mup (hn_ [1,2,5,6,8,9,10,19,20] Z) ⟨h,trivial,Z,Z⟩
     refine SU aj.m_ U8<|D.call (fO _ s p om_) Z (.inr dc_) U6 (Pk _) fl_ (fun aD aF aG _ ac=>?_);obtain ⟨h,rfl,rfl⟩:=ac;refine Td [.slice (some ⟨h,0,none⟩) (s*p:Nat) (s*p:Nat),af (uS x.max)] U8 ?_
     first | refine TL (j:=2) U12 ?_ | refine TL (j:=1) U12 ?_
     exact SY [1,2,5,6,8,9,10,19,20] d Z<|G.perm (L':=[.arr (.slice (some ⟨h,0,none⟩) (s*p) (s*p)) 32 1 (s*p) (List.replicate (s*p) (af [48])),.obj e (.cells ⟨[.slice (some ⟨h,0,none⟩) (s*p) (s*p),af (uS x.max)]⟩ 140 (0,0)),.arr A 140 2 (ba s p c (i-1)++bl s p x i k++[rL s p x i k]).length (ay (g++[.slice (some ⟨bz,0,none⟩) (s*p) (s*p)]) (ba s p c (i-1)++bl s p x i k++[rL s p x i k])).flatten]) (by first | exact Pk _ | exact List.Perm.swap _ _ _)<|S9 0 mup (hn_ [1,2,5,6,8,9,10,19,20] Z) ⟨h,trivial,Z,Z⟩
    obtain ⟨h,_,rfl,rfl⟩:=z;refine G.cut (fun fr F f t=>(True)/\fr=[(1,[],.slice H c.length c0),(2,[],.pointer (some ⟨I,0,none⟩)),(5,[],A),(6,[],.int .i64 i),(10,[],.pointer (some ⟨e,0,none⟩)),(19,[],.int .i64 p),(20,[],.int .i64 k)]/\f=[.arr (.slice (some ⟨h,0,none⟩) (s*p) (s*p)) 32 1 (s*p) (kR (s*p) [(i*p+k,1),((i-1)*p+k, -1)]),.obj e (.cells ⟨[.slice (some ⟨h,0,none⟩) (s*p) (s*p),af (uS x.max)]⟩ 140 (0,0)),.arr A 140 2 (ba s p c (i-1)++bl s p x i k++[rL s p x i k]).length (ay (g++[.slice (some ⟨bz,0,none⟩) (s*p) (s*p)]) (ba s p c (i-1)++bl s p x i k++[rL s p x i k])).flatten]) ?_ (fun fr bn bo t bp z=>?_)
    ·refine TG (.cut [0,1,2,3,5,6] (.alt 4 (.fin [7,8,9]) (.alt 7 (.fin [4,8,9]) .stop))) [] Z Z kr_ fun R S d B=>SV U6<|S1 ae U9<|SZ 3 Z<|Tm (((i-1)*p+k)) U10 (fun _=>⟨by omega,by omega,(Ql _).symm⟩) U2<|Tw B Z ⟨?_, ?_,trivial⟩
     ·refine S1 ae U9<|Tr (j:=0) U11 (by simp [];omega)<|Tm ((i*p+k)) U10 (fun _=>⟨by omega,by omega,(Ql _).symm⟩) U2<|Tr (j:=0) U11 (by simp [aE];omega)<|SY [1,2,5,6,10,19,20] d Z<|Tc (L':=[.arr (.slice (some ⟨h,0,none⟩) (s*p) (s*p)) 32 1 (s*p) (kR (s*p) [(i*p+k,1),((i-1)*p+k, -1)]),.obj e (.cells ⟨[.slice (some ⟨h,0,none⟩) (s*p) (s*p),af (uS x.max)]⟩ 140 (0,0)),.arr A 140 2 (ba s p c (i-1)++bl s p x i k++[rL s p x i k]).length (ay (g++[.slice (some ⟨bz,0,none⟩) (s*p) (s*p)]) (ba s p c (i-1)++bl s p x i k++[rL s p x i k])).flatten]) (by
       first
       | (rw [<- st2 (n:=s*p) (-1) 1 om_ om_,dB,cV];rfl)
       | (rw [<- Ow (n:=s*p) (-1) 1 om_ om_ om_,dB,cV];rfl)) ?_
      exact S9 0 (Mem.le.refl _) (hn_ [1,2,5,6,10,19,20] Z) ⟨trivial,Z,Z⟩
     refine Tr (j:=0) U11 (by simp [];omega)<|S1 ae U9<|Tm ((i*p+k)) U10 (fun _=>⟨by omega,by omega,(Ql _).symm⟩) U2<|Tr (j:=0) U11 (by simp [aE];omega)<|SY [1,2,5,6,10,19,20] d Z<|Tc (L':=[.arr (.slice (some ⟨h,0,none⟩) (s*p) (s*p)) 32 1 (s*p) (kR (s*p) [(i*p+k,1),((i-1)*p+k, -1)]),.obj e (.cells ⟨[.slice (some ⟨h,0,none⟩) (s*p) (s*p),af (uS x.max)]⟩ 140 (0,0)),.arr A 140 2 (ba s p c (i-1)++bl s p x i k++[rL s p x i k]).length (ay (g++[.slice (some ⟨bz,0,none⟩) (s*p) (s*p)]) (ba s p c (i-1)++bl s p x i k++[rL s p x i k])).flatten]) (by
      first
      | (rw [<- st2 (n:=s*p) (-1) 1 om_ om_,dB,cV];rfl)
      | (rw [<- Ow (n:=s*p) (-1) 1 om_ om_ om_,dB,cV];rfl)) ?_
     exact S9 0 (Mem.le.refl _) (hn_ [1,2,5,6,10,19,20] Z) ⟨trivial,Z,Z⟩
    obtain ⟨_,rfl,rfl⟩:=z;refine G.freezeArr 0 ((ru (s*p) [(i*p+k,1),((i-1)*p+k, -1)]).map eD) ⟨rfl,(jd _ _)⟩ (by intro r hr;obtain ⟨y,_,rfl⟩:=Pn.1 hr;rfl) (by simp [jx]) (fun bq br aH=>?_);have aI:=RowsOk.snoc (r:=F7 s p m i k) ab.m_ aH;have aJ:=bY ab.1 (.slice (some ⟨h,0,none⟩) (s*p) (s*p)) (F7 s p m i k);refine SS 1 Z fun R d=>S1 ag U9<|Th [[.slice (some ⟨h,0,none⟩) (s*p:Nat) (s*p:Nat),af (uS x.max)]] U12 fun bs _ _ aK=>D.append (j:=1) U11 aK Z (by simp only [Po,aY,maxLen] at ai ⊢;omega) (by simp only [Po,aY] at ai ⊢;omega) fl_ fun am=>C6 1 [1,2,5,6,19,20] d Z<|SX fun R d=>S2 _ Z U6<|C6 1 [1,2,5,6,19,20] d Z<|TC 1 Z<|Tc (L':=[.arr am 140 2 (ba s p c (i-1)++bl s p x i (k+1)).length (ay (g++[.slice (some ⟨bz,0,none⟩) (s*p) (s*p)]++[.slice (some ⟨h,0,none⟩) (s*p) (s*p)]) (ba s p c (i-1)++bl s p x i (k+1))).flatten]) (by
     rw [bl,O,<- PR,show ∀ (l:List RowQ)(a b:RowQ),l++[a,b]=l++[a]++[b] from fun l a b=>by simp,aJ,aB];simp [F7];omega) ?_
    refine S6 (m':=p-(k+1)) om_ mup (hn_ [1,2,5,6,19,20] Z) ⟨k+1,_,am,⟨by omega,by
     rw [bl,O,<- PR,show ∀ (l:List RowQ)(a b:RowQ),l++[a,b]=l++[a]++[b] from fun l a b=>by simp];exact aI.mono mup⟩,Z,Z,Z⟩
   have hm:x.max=none:=by
    rw [pk] at J;cases aL:x.max with
    | none=>rfl
    | some q=>rw [aL] at J;cases J
   have O:jX s p x i k=[rL s p x i k]:=by unfold jX;rw [hm]
   refine SX fun R d=>S2 _ Z U6<|C6 1 [1,2,5,6,19,20] d Z<|TC 1 Z<|Tc (L':=[.arr A 140 2 (ba s p c (i-1)++bl s p x i (k+1)).length (ay (g++[.slice (some ⟨bz,0,none⟩) (s*p) (s*p)]) (ba s p c (i-1)++bl s p x i (k+1))).flatten]) (by rw [bl,O,<- PR];rfl)<|S6 (m':=p-(k+1)) om_ mup (hn_ [1,2,5,6,19,20] Z) ⟨k+1,_,A,⟨by omega,by
    rw [bl,O,<- PR];exact ab.mono mup⟩,Z,Z,Z⟩
  have ah:k=p:=by
   have:¬ k<p:=by simpa using aa
   omega
  have an:ba s p c (i-1)++bl s p x i k=ba s p c i:=by
   obtain ⟨j,rfl⟩:∃ j,i=j+1:=⟨i-1,by omega⟩;rw [ah,Rq,ba,Ks M]
  refine SS 1 Z fun R d=>S2 _ Z U6<|C6 1 [1,2,5,6] d Z<|Tc (L':=[.arr o 140 2 (ba s p c (i+1-1)).length (ay g (ba s p c (i+1-1))).flatten]) (by rw [an];rfl)<|S6 (m':=c.length-(i+1)) om_ mup (hn_ [1,2,5,6] Z) ⟨i+1,g,o,⟨by omega,.inl om_,by rw [Rq,<- an];exact Y⟩,Z,Z,Z⟩
 have ad:i-1=c.length-2:=by
  have:=Pj X;omega
 refine SR 2 [4] Z ?_;rw [ad] at Q ⊢;exact G.freezeArr 0 (ay vs (ba s p c (c.length-2))) U2 (bP _ _) (bA Q.1) fun Cg hg aM=>S3 U2<|⟨Z,vs,Q.mono mup,aM⟩
theorem jI {l:List (Nat × Rat)}(q:Rat)(h:k ∉ l.map (·.1)):iv (eH l) ((k:Nat):Int) (af (qtx q))=eH (l++[(k,q)]):=by
 rw [jD (by
  rw [cA];unfold eH;rw [Qe];intro hm;obtain ⟨x,a,b⟩:=Pn.1 hm;have:x.1=k:=by
   have h2:((x.1:Nat):Int)=(k:Int):=b;omega
  exact h (this ▸ Rm (f:=(·.1)) a))]
 simp [eH]
theorem qB (a c:Pt):dH a a c=0/\dH c a a=0/\dH a c a=0:=by
 unfold dH;refine ⟨?_, ?_, ?_⟩ <;> grind
theorem sU {a:List Pt}{b:List Tri}(c:MeshOk a b)(d:t∈b):t.1≠t.2.1/\t.1≠t.2.2/\t.2.1≠t.2.2:=by
 have h:=jG c d;refine ⟨fun e=>h ?_,fun e=>h ?_,fun e=>h ?_⟩
 ·have:cor a t 1=cor a t 0:=by show a.getD t.2.1 _=a.getD t.1 _;rw [e]
  rw [this];exact (qB _ _).1
 ·have:cor a t 2=cor a t 0:=by show a.getD t.2.2 _=a.getD t.1 _;rw [e]
  rw [this];exact (qB _ _).2.2
 have:cor a t 2=cor a t 1:=by show a.getD t.2.2 _=a.getD t.2.1 _;rw [e]
 rw [this];exact (qB _ _).2.1
def atT (t:Tri)(f:Nat->Rat):List (Nat × Rat):=[(t.1,f 0),(t.2.1,f 1),(t.2.2,f 2)]
theorem qu (f:Nat->Rat)(h:t.1≠t.2.1/\t.1≠t.2.2/\t.2.1≠t.2.2):((atT t f).map (·.1)).Nodup:=by
 simp [atT,h.1,h.2.1,h.2.2]
theorem Do (C:Mem)(w:Tabs C)(x:Value)(c:List Pt)(e:List Tri)(p:Pt)(i:Nat)(r:List Nat)(t:Tri)(y:MeshIn C x c e)(k:Good c e)(z:QP 23 p)(A:PtR p)(K:kF c e p=i::r)(g:e[i]?=some t)(L:∀ j,QB 22 (wgt c t p j)) :
  Pur cx.P 242 [x,ptV p] C fun u D=>∃ b,u=.tuple #[.map (some b),.int .i64 (i:Nat),.int .i64 0]/\D b=some (aU keyZ.enc (eH (atT t (wgt c t p)))):=by
 have M:=k.ok;have n:=y;have ad:=(aJ.1 g).1;obtain ⟨N,O,Q⟩:=sU M (Pe g);obtain ⟨v1,v2,rfl,h1,h2⟩:=id y.ex;obtain ⟨A2,c2,rfl,S,ae,_⟩:=id h2;have af:maxLen<=9223372036854775807:=by simp [maxLen]
 simp only [al] at h2 n S ⊢;refine S4 func242 54 U3 fun w0=>SX fun R a=>Tf U6 fun b2=>Tf U6 fun b3=>C6 3 [2,3] a Z<|G.freeze 1 Z fun _ _ o=>G.freeze 0 Z fun _ _ B=>SX fun R a=>SU (bkT o 2) U8<|SU (bkT B 2) U8<|Tv (lF _ w.m_ _ c e p n.m_ k z A) U7 (fun ag _ _ T=>?_);obtain ⟨wv,rfl,f⟩:=T;rw [K] at f;obtain ⟨U,V,E,_⟩:=id f;rw [al] at E;subst E;refine C6 5 [2,3,6,7] a Z<|SR 2 [2,3,6,7,18] Z<|G.cd (fun F=>?_) fun F=>?_
 ·exact absurd F dc_
 refine Tg [0,1,2,3,4,5,6,7,8,9,10,11] [(5,1)] Z kr_ fun R H a=>SU (bkT o 2) U8<|SV U6<|Ta f.m_ U10 om_ (rfl:(List.map aT (i::r))[0]?=some (aT i)) fl_ fun ai W=>SU W U8<|SU (bkT B 2) U8<|Tu (fun _=>(vH _ w.m_ _ c e p i t n.m_ k z A g L)) U9<|SZ 3 Z<|Te U5 fun X=>S5 (j:=0) U12<|C6 1 [2,6,7,8] a Z<|SR 2 [2,6,7,8,30] Z<|G.cd (fun I=>?_) fun I=>?_
 ·exact absurd I dc_
 refine G.freeze 0 Z fun _ _ q=>SX fun R a=>D.makeMap keyZ Z Z Z Z fl_ fun d=>C6 1 [2,4,7,8] a Z<|Tg [0,1,2,3,4,5,6,7] [] Z kr_ fun R H a=>SV U6<|SU (bkT o 1) U8<|SV U6<|Ta f.m_ U10 om_ (rfl:(List.map aT (i::r))[0]?=some (aT i)) fl_ fun aj Y=>SU Y U8<|Ta h2.m_ U10 om_ (cq g) fl_ fun ak aa=>SU aa U8<|C6 1 [4,7,8,39,40] a Z<|G.loop (fun fr C' h μ=>∃ (j:Nat),(j<=3)/\fr=[(4,[],.map (some d)),(7,[],.slice U (i::r).length V),(8,[],.pointer (some ⟨X,0,none⟩)),(39,[],.agg ⟨ic t⟩),(40,[],.int .i64 j)]/\h=[.obj d (aU keyZ.enc (eH ((atT t (wgt c t p)).take j)))]/\μ=3-j) (hn_ [4,7,8,39,40] Z) ⟨0,Pm _,Z,Z,Z⟩ (fun fr an ao m s hI=>?_);obtain ⟨j,hj,rfl,rfl,rfl⟩:=hI;refine SR 1 [4,7,8,39,40,41] Z<|G.cd (fun v=>?_) fun v=>?_
 ·have J:j<3:=by
   simp only [Pp] at v;omega
  rcases (by omega:j=0∨j=1∨j=2) with rfl | rfl | rfl
  ·refine SS 1 Z fun R a=>TN U11 ah U2<|C6 2 [4,7,8,9,10,39,40] a Z<|SS 3 Z fun R a=>Ti (_) U9 ah U2<|SU (bkT q 1) U8<|D.mapUpdate keyZ (j:=0) Z Z Z Z Z Z Z Z Z Z kr_<|SY [4,7,8,39,40] a Z<|SX fun R a=>S2 _ Z U6<|C6 1 [4,7,8,39,40] a Z<|Tc (L':=[.obj d (aU keyZ.enc (eH ((atT t (wgt c t p)).take 1)))]) (congrArg (fun m=>[Ent.obj d (aU keyZ.enc m)]) (jI (l:=[]) _ am))<|S6 (m':=2) om_ s (hn_ [4,7,8,39,40] Z) ⟨1,by decide,Z,Z,Z⟩
  ·refine SS 1 Z fun R a=>TN U11 ah U2<|C6 2 [4,7,8,9,10,39,40] a Z<|SS 3 Z fun R a=>Ti (_) U9 ah U2<|SU (bkT q 1) U8<|D.mapUpdate keyZ (j:=0) Z Z Z Z Z Z Z Z Z Z kr_<|SY [4,7,8,39,40] a Z<|SX fun R a=>S2 _ Z U6<|C6 1 [4,7,8,39,40] a Z<|Tc (L':=[.obj d (aU keyZ.enc (eH ((atT t (wgt c t p)).take 2)))]) (congrArg (fun m=>[Ent.obj d (aU keyZ.enc m)]) (jI (l:=[(t.1,wgt c t p 0)]) _ (by simpa using N.symm)))<|S6 (m':=1) om_ s (hn_ [4,7,8,39,40] Z) ⟨2,by decide,Z,Z,Z⟩
  refine SS 1 Z fun R a=>TN U11 ah U2<|C6 2 [4,7,8,9,10,39,40] a Z<|SS 3 Z fun R a=>Ti (_) U9 ah U2<|SU (bkT q 1) U8<|D.mapUpdate keyZ (j:=0) Z Z Z Z Z Z Z Z Z Z kr_<|SY [4,7,8,39,40] a Z<|SX fun R a=>S2 _ Z U6<|C6 1 [4,7,8,39,40] a Z<|Tc (L':=[.obj d (aU keyZ.enc (eH ((atT t (wgt c t p)).take 3)))]) (congrArg (fun m=>[Ent.obj d (aU keyZ.enc m)]) (jI (l:=[(t.1,wgt c t p 0),(t.2.1,wgt c t p 1)]) _ (by simp [O.symm,Q.symm])))<|S6 (m':=0) om_ s (hn_ [4,7,8,39,40] Z) ⟨3,by decide,Z,Z,Z⟩
 have J:j=3:=by
  simp only [PP] at v;omega
 subst J;refine G.freeze 0 Z fun Cm ap ab=>Tg [0,1,2,3,4,5,6] [] Z kr_ fun R H a=>SZ 2 Z<|Ta f.m_ U10 om_ (rfl:(List.map aT (i::r))[0]?=some (aT i)) fl_ fun aq ac=>SU ac U8<|C6 3 [4,5,6] a Z<|S7 (G.dropAll (TR U4 ?_));exact ⟨Z,d,Z,ab⟩
theorem dq (t:Tri)(f:Nat->Rat)(j:Nat)(a:j<3)(h:t.1≠t.2.1/\t.1≠t.2.2/\t.2.1≠t.2.2):iv (eH ((atT t f).take j)) ((gD t j:Nat):Int) (af (qtx (f j)))=eH ((atT t f).take (j+1)):=by
 rcases (by omega:j=0∨j=1∨j=2) with rfl | rfl | rfl
 ·exact jI (l:=[]) _ am
 ·exact jI (l:=[(t.1,f 0)]) (k:=t.2.1) _ (by simpa using h.1.symm)
 exact jI (l:=[(t.1,f 0),(t.2.1,f 1)]) (k:=t.2.2) _ (by simp [h.2.1.symm,h.2.2.symm])
def nq (n k:Nat):List Rat:=ru n [(k,1)]
def slf (pts:List Pt)(t:Tri)(j:Nat):Pt:=dM pts (nq pts.length (gD t j)) t
theorem gd (n k:Nat):(nq n k).length=n:=jx n _
theorem zH :∀ q∈nq n k,q=0∨q=1:=by
 intro q a;unfold nq ru at a;obtain ⟨j,_,rfl⟩:=Pn.1 a;simp only [dQ];split
 ·exact .inr Z
 exact .inl Z
theorem jo :∀ q∈nq n k,QB 1 q:=by
 intro q a;rcases zH q a with rfl | rfl
 ·exact QB_zero
 exact QB_one
theorem Dl (C:Mem)(J:Tabs C)(O:Value)(a:List Pt)(s:List Tri)(i:Nat)(t:Tri)(Q:MeshIn C O a s)(E:Good a s)(l:s[i]?=some t)(K:∀ j,QP 22 (slf a t j)) :
  Pur cx.P 248 [O,.int .i64 i] C fun u D=>∃ S T,u=.tuple #[.map (some S),.map (some T),.int .i64 0]/\D S=some (aU keyZ.enc (eH (atT t fun j=>(slf a t j).1)))/\D T=some (aU keyZ.enc (eH (atT t fun j=>(slf a t j).2))):=by
 have L:=E.ok;have F:=Q;have an:=L.lp;have H:=L.ins t (Pe l);obtain ⟨ao,ap,aq⟩:=id H;have ar:=(aJ.1 l).1;obtain ⟨f,g,h⟩:=sU L (Pe l);obtain ⟨v1,v2,rfl,h1,h2⟩:=id Q.ex;obtain ⟨A1,c1,rfl,au,av,_⟩:=id h1;obtain ⟨A2,c2,rfl,ai,aw,_⟩:=id h2;have ax:maxLen<=9223372036854775807:=by simp [maxLen]
 simp only [al] at h1 h2 F ai ⊢;refine S4 func248 51 U3 fun w0=>SX fun R b=>Tf U6 fun I=>C6 3 [1,2] b Z<|G.freeze 0 Z fun _ _ n=>SX fun R b=>D.makeMap keyZ Z Z Z Z fl_ fun c=>D.makeMap keyZ Z Z Z Z fl_ fun d=>C6 2 [1,2,4,5] b Z<|SS 1 Z fun R b=>SU (bkT n 1) U8<|SV U6<|Ta h2.m_ U10 om_ (cq l) fl_ fun ay aj=>SU aj U8<|C6 1 [1,2,4,5,18,19] b Z<|G.perm (L':=[.obj c (aU keyZ.enc (eH [])),.obj d (aU keyZ.enc (eH []))]) (List.Perm.swap _ _ _)<|G.loop (fun fr M e o=>∃ (j:Nat),(j<=3)/\fr=[(1,[],.int .i64 i),(2,[],.pointer (some ⟨I,0,none⟩)),(4,[],.map (some c)),(5,[],.map (some d)),(18,[],.agg ⟨ic t⟩),(19,[],.int .i64 j)]/\e=[.obj c (aU keyZ.enc (eH ((atT t fun j=>(slf a t j).1).take j))),.obj d (aU keyZ.enc (eH ((atT t fun j=>(slf a t j).2).take j)))]/\o=3-j) (hn_ [1,2,4,5,18,19] Z) ⟨0,Pm _,Z,Z,Z⟩ (fun fr az aA m _ p=>?_);obtain ⟨j,hj,rfl,rfl,rfl⟩:=p;refine SR 1 [1,2,4,5,18,19,20] Z<|G.cd (fun N=>?_) fun N=>?_
 ·have U:j<3:=by
   simp only [Pp] at N;omega
  rcases (by omega:j=0∨j=1∨j=2) with rfl | rfl | rfl
  ·refine SX fun R b=>TN U11 ah U2<|C6 1 [1,2,4,5,8,18,19] b Z<|Tk [(4,3)] Z fun R b=>Th [[af [48]]] U12 fun V W _ v=>SV U6<|SU (bkT n 1) U8<|SV U6<|D.call (mA _ _ a.length [48] v.m_ om_) Z (.inr dc_) U6 (Pk _) fl_ fun X Y aa _ w=>C6 1 [1,2,4,5,8,9,18,19] b Z ?_;obtain ⟨bz,rfl,rfl⟩:=w;have x:gD t 0<a.length:=eI H 0;refine Tc (L':=[.arr (.slice (some ⟨bz,0,none⟩) a.length a.length) 32 1 a.length (kR a.length []),.obj c (aU keyZ.enc (eH ((atT t fun j=>(slf a t j).1).take 0))),.obj d (aU keyZ.enc (eH ((atT t fun j=>(slf a t j).2).take 0)))]) (by rw [lN];rfl)<|SS 2 Z fun R b=>Tm ((gD t 0)) U10 (fun _=>⟨by omega,by omega,(Ql _).symm⟩) U2<|Tr (j:=0) U11 (by rw [lO];simp;omega)<|SY [1,2,4,5,8,9,18,19] b Z<|Tc (L':=[.arr (.slice (some ⟨bz,0,none⟩) a.length a.length) 32 1 a.length (kR a.length [(gD t 0,1)]),.obj c (aU keyZ.enc (eH ((atT t fun j=>(slf a t j).1).take 0))),.obj d (aU keyZ.enc (eH ((atT t fun j=>(slf a t j).2).take 0)))]) (by rw [<- fw [] 1 x,dB];rfl)<|G.freezeArr 0 ((nq a.length (gD t 0)).map eD) ⟨rfl,(jd _ _)⟩ (by intro r hr;obtain ⟨y,_,rfl⟩:=Pn.1 hr;rfl) (by rw [al,gd]) fun Cz hz z=>SX fun R b=>SU (bkT n 2) U8<|SZ 2 Z<|Tb (sY _ J.m_ _ _ a s (nq a.length (gD t 0)) 1 dc_ dc_ F.m_ E z.m_ (gd _ _) jo (fun q A=>bC ((jo q A).le dc_)) i t l (K 0)) U7 fl_<|SZ 3 Z<|Te U5 fun ab=>S5 (j:=0) U12<|C6 1 [1,2,4,5,8,10,11,18,19] b Z<|SR 2 [1,2,4,5,8,10,11,18,19,38] Z<|G.cd (fun ac=>?_) fun ac=>?_
   ·exact absurd ac dc_
   refine G.freeze 0 Z fun ad _ k=>G.cut (fun fr M e o=>(True)/\fr=[(1,[],.int .i64 i),(2,[],.pointer (some ⟨I,0,none⟩)),(4,[],.map (some c)),(5,[],.map (some d)),(18,[],.agg ⟨ic t⟩),(19,[],.int .i64 ((0:Nat):Int))]/\e=[.obj c (aU keyZ.enc (eH ((atT t fun j=>(slf a t j).1).take (0+1)))),.obj d (aU keyZ.enc (eH ((atT t fun j=>(slf a t j).2).take (0+1))))]) ?_ (fun fr aB aC o aD p=>?_)
   ·refine TG (.cut [0,1,2,3,4,5,6] (.alt 7 (.fin [8,9]) (.alt 8 (.fin [7,9]) .stop))) [] Z Z kr_ fun R hB b B=>SZ 5 Z<|SU (bkT k 1) U8<|SV U6<|Tw B Z ⟨?_, ?_,trivial⟩
    ·refine SU (bkT k 1) U8 ?_
     first | refine D.mapUpdate keyZ (j:=0) rfl rfl rfl rfl rfl rfl rfl rfl rfl rfl kr_ ?_ | refine D.mapUpdate keyZ (j:=1) rfl rfl rfl rfl rfl rfl rfl rfl rfl rfl kr_ ?_
     first | refine D.mapUpdate keyZ (j:=1) rfl rfl rfl rfl rfl rfl rfl rfl rfl rfl kr_ ?_ | refine D.mapUpdate keyZ (j:=0) rfl rfl rfl rfl rfl rfl rfl rfl rfl rfl kr_ ?_
     refine SY [1,2,4,5,18,19] b Z<|G.perm (L':=[.obj c (aU keyZ.enc (eH ((atT t fun j=>(slf a t j).1).take (0+1)))),.obj d (aU keyZ.enc (eH ((atT t fun j=>(slf a t j).2).take (0+1))))]) (by
      rw [<- dq t (fun j=>(slf a t j).1) 0 dc_ ⟨f,g,h⟩,<- dq t (fun j=>(slf a t j).2) 0 dc_ ⟨f,g,h⟩]
      first | exact Pk _ | exact List.Perm.swap _ _ _) ?_
     exact S9 0 (Mem.le.refl _) (hn_ [1,2,4,5,18,19] Z) ⟨trivial,Z,Z⟩
    first | refine D.mapUpdate keyZ (j:=0) rfl rfl rfl rfl rfl rfl rfl rfl rfl rfl kr_ ?_ | refine D.mapUpdate keyZ (j:=1) rfl rfl rfl rfl rfl rfl rfl rfl rfl rfl kr_ ?_
    refine SU (bkT k 1) U8 ?_
    first | refine D.mapUpdate keyZ (j:=1) rfl rfl rfl rfl rfl rfl rfl rfl rfl rfl kr_ ?_ | refine D.mapUpdate keyZ (j:=0) rfl rfl rfl rfl rfl rfl rfl rfl rfl rfl kr_ ?_
    refine SY [1,2,4,5,18,19] b Z<|G.perm (L':=[.obj c (aU keyZ.enc (eH ((atT t fun j=>(slf a t j).1).take (0+1)))),.obj d (aU keyZ.enc (eH ((atT t fun j=>(slf a t j).2).take (0+1))))]) (by
     rw [<- dq t (fun j=>(slf a t j).1) 0 dc_ ⟨f,g,h⟩,<- dq t (fun j=>(slf a t j).2) 0 dc_ ⟨f,g,h⟩]
     first | exact Pk _ | exact List.Perm.swap _ _ _) ?_
    exact S9 0 (Mem.le.refl _) (hn_ [1,2,4,5,18,19] Z) ⟨trivial,Z,Z⟩
   obtain ⟨_,rfl,rfl⟩:=p;refine SX fun R b=>S2 _ Z U6<|C6 1 [1,2,4,5,18,19] b Z<|S6 (m':=2) om_ mup (hn_ [1,2,4,5,18,19] Z) ⟨1,by decide,Z,Z,Z⟩
  ·refine SX fun R b=>TN U11 ah U2<|C6 1 [1,2,4,5,8,18,19] b Z<|Tk [(4,3)] Z fun R b=>Th [[af [48]]] U12 fun V W _ v=>SV U6<|SU (bkT n 1) U8<|SV U6<|D.call (mA _ _ a.length [48] v.m_ om_) Z (.inr dc_) U6 (Pk _) fl_ fun X Y aa _ w=>C6 1 [1,2,4,5,8,9,18,19] b Z ?_;obtain ⟨bz,rfl,rfl⟩:=w;have x:gD t 1<a.length:=eI H 1;refine Tc (L':=[.arr (.slice (some ⟨bz,0,none⟩) a.length a.length) 32 1 a.length (kR a.length []),.obj c (aU keyZ.enc (eH ((atT t fun j=>(slf a t j).1).take 1))),.obj d (aU keyZ.enc (eH ((atT t fun j=>(slf a t j).2).take 1)))]) (by rw [lN];rfl)<|SS 2 Z fun R b=>Tm ((gD t 1)) U10 (fun _=>⟨by omega,by omega,(Ql _).symm⟩) U2<|Tr (j:=0) U11 (by rw [lO];simp;omega)<|SY [1,2,4,5,8,9,18,19] b Z<|Tc (L':=[.arr (.slice (some ⟨bz,0,none⟩) a.length a.length) 32 1 a.length (kR a.length [(gD t 1,1)]),.obj c (aU keyZ.enc (eH ((atT t fun j=>(slf a t j).1).take 1))),.obj d (aU keyZ.enc (eH ((atT t fun j=>(slf a t j).2).take 1)))]) (by rw [<- fw [] 1 x,dB];rfl)<|G.freezeArr 0 ((nq a.length (gD t 1)).map eD) ⟨rfl,(jd _ _)⟩ (by intro r hr;obtain ⟨y,_,rfl⟩:=Pn.1 hr;rfl) (by rw [al,gd]) fun Cz hz z=>SX fun R b=>SU (bkT n 2) U8<|SZ 2 Z<|Tb (sY _ J.m_ _ _ a s (nq a.length (gD t 1)) 1 dc_ dc_ F.m_ E z.m_ (gd _ _) jo (fun q A=>bC ((jo q A).le dc_)) i t l (K 1)) U7 fl_<|SZ 3 Z<|Te U5 fun ab=>S5 (j:=0) U12<|C6 1 [1,2,4,5,8,10,11,18,19] b Z<|SR 2 [1,2,4,5,8,10,11,18,19,38] Z<|G.cd (fun ae=>?_) fun ae=>?_
   ·exact absurd ae dc_
   refine G.freeze 0 Z fun ad _ k=>G.cut (fun fr M e o=>(True)/\fr=[(1,[],.int .i64 i),(2,[],.pointer (some ⟨I,0,none⟩)),(4,[],.map (some c)),(5,[],.map (some d)),(18,[],.agg ⟨ic t⟩),(19,[],.int .i64 ((1:Nat):Int))]/\e=[.obj c (aU keyZ.enc (eH ((atT t fun j=>(slf a t j).1).take (1+1)))),.obj d (aU keyZ.enc (eH ((atT t fun j=>(slf a t j).2).take (1+1))))]) ?_ (fun fr aE aF o aG p=>?_)
   ·refine TG (.cut [0,1,2,3,4,5,6] (.alt 7 (.fin [8,9]) (.alt 8 (.fin [7,9]) .stop))) [] Z Z kr_ fun R hB b B=>SZ 5 Z<|SU (bkT k 1) U8<|SV U6<|Tw B Z ⟨?_, ?_,trivial⟩
    ·refine SU (bkT k 1) U8 ?_
     first | refine D.mapUpdate keyZ (j:=0) rfl rfl rfl rfl rfl rfl rfl rfl rfl rfl kr_ ?_ | refine D.mapUpdate keyZ (j:=1) rfl rfl rfl rfl rfl rfl rfl rfl rfl rfl kr_ ?_
     first | refine D.mapUpdate keyZ (j:=1) rfl rfl rfl rfl rfl rfl rfl rfl rfl rfl kr_ ?_ | refine D.mapUpdate keyZ (j:=0) rfl rfl rfl rfl rfl rfl rfl rfl rfl rfl kr_ ?_
     refine SY [1,2,4,5,18,19] b Z<|G.perm (L':=[.obj c (aU keyZ.enc (eH ((atT t fun j=>(slf a t j).1).take (1+1)))),.obj d (aU keyZ.enc (eH ((atT t fun j=>(slf a t j).2).take (1+1))))]) (by
      rw [<- dq t (fun j=>(slf a t j).1) 1 dc_ ⟨f,g,h⟩,<- dq t (fun j=>(slf a t j).2) 1 dc_ ⟨f,g,h⟩]
      first | exact Pk _ | exact List.Perm.swap _ _ _) ?_
     exact S9 0 (Mem.le.refl _) (hn_ [1,2,4,5,18,19] Z) ⟨trivial,Z,Z⟩
    first | refine D.mapUpdate keyZ (j:=0) rfl rfl rfl rfl rfl rfl rfl rfl rfl rfl kr_ ?_ | refine D.mapUpdate keyZ (j:=1) rfl rfl rfl rfl rfl rfl rfl rfl rfl rfl kr_ ?_
    refine SU (bkT k 1) U8 ?_
    first | refine D.mapUpdate keyZ (j:=1) rfl rfl rfl rfl rfl rfl rfl rfl rfl rfl kr_ ?_ | refine D.mapUpdate keyZ (j:=0) rfl rfl rfl rfl rfl rfl rfl rfl rfl rfl kr_ ?_
    refine SY [1,2,4,5,18,19] b Z<|G.perm (L':=[.obj c (aU keyZ.enc (eH ((atT t fun j=>(slf a t j).1).take (1+1)))),.obj d (aU keyZ.enc (eH ((atT t fun j=>(slf a t j).2).take (1+1))))]) (by
     rw [<- dq t (fun j=>(slf a t j).1) 1 dc_ ⟨f,g,h⟩,<- dq t (fun j=>(slf a t j).2) 1 dc_ ⟨f,g,h⟩]
     first | exact Pk _ | exact List.Perm.swap _ _ _) ?_
    exact S9 0 (Mem.le.refl _) (hn_ [1,2,4,5,18,19] Z) ⟨trivial,Z,Z⟩
   obtain ⟨_,rfl,rfl⟩:=p;refine SX fun R b=>S2 _ Z U6<|C6 1 [1,2,4,5,18,19] b Z<|S6 (m':=1) om_ mup (hn_ [1,2,4,5,18,19] Z) ⟨2,by decide,Z,Z,Z⟩
  refine SX fun R b=>TN U11 ah U2<|C6 1 [1,2,4,5,8,18,19] b Z<|Tk [(4,3)] Z fun R b=>Th [[af [48]]] U12 fun V W _ v=>SV U6<|SU (bkT n 1) U8<|SV U6<|D.call (mA _ _ a.length [48] v.m_ om_) Z (.inr dc_) U6 (Pk _) fl_ fun X Y aa _ w=>C6 1 [1,2,4,5,8,9,18,19] b Z ?_;obtain ⟨bz,rfl,rfl⟩:=w;have x:gD t 2<a.length:=eI H 2;refine Tc (L':=[.arr (.slice (some ⟨bz,0,none⟩) a.length a.length) 32 1 a.length (kR a.length []),.obj c (aU keyZ.enc (eH ((atT t fun j=>(slf a t j).1).take 2))),.obj d (aU keyZ.enc (eH ((atT t fun j=>(slf a t j).2).take 2)))]) (by rw [lN];rfl)<|SS 2 Z fun R b=>Tm ((gD t 2)) U10 (fun _=>⟨by omega,by omega,(Ql _).symm⟩) U2<|Tr (j:=0) U11 (by rw [lO];simp;omega)<|SY [1,2,4,5,8,9,18,19] b Z<|Tc (L':=[.arr (.slice (some ⟨bz,0,none⟩) a.length a.length) 32 1 a.length (kR a.length [(gD t 2,1)]),.obj c (aU keyZ.enc (eH ((atT t fun j=>(slf a t j).1).take 2))),.obj d (aU keyZ.enc (eH ((atT t fun j=>(slf a t j).2).take 2)))]) (by rw [<- fw [] 1 x,dB];rfl)<|G.freezeArr 0 ((nq a.length (gD t 2)).map eD) ⟨rfl,(jd _ _)⟩ (by intro r hr;obtain ⟨y,_,rfl⟩:=Pn.1 hr;rfl) (by rw [al,gd]) fun Cz hz z=>SX fun R b=>SU (bkT n 2) U8<|SZ 2 Z<|Tb (sY _ J.m_ _ _ a s (nq a.length (gD t 2)) 1 dc_ dc_ F.m_ E z.m_ (gd _ _) jo (fun q A=>bC ((jo q A).le dc_)) i t l (K 2)) U7 fl_<|SZ 3 Z<|Te U5 fun ab=>S5 (j:=0) U12<|C6 1 [1,2,4,5,8,10,11,18,19] b Z<|SR 2 [1,2,4,5,8,10,11,18,19,38] Z<|G.cd (fun ag=>?_) fun ag=>?_
  ·exact absurd ag dc_
  refine G.freeze 0 Z fun ad _ k=>G.cut (fun fr M e o=>(True)/\fr=[(1,[],.int .i64 i),(2,[],.pointer (some ⟨I,0,none⟩)),(4,[],.map (some c)),(5,[],.map (some d)),(18,[],.agg ⟨ic t⟩),(19,[],.int .i64 ((2:Nat):Int))]/\e=[.obj c (aU keyZ.enc (eH ((atT t fun j=>(slf a t j).1).take (2+1)))),.obj d (aU keyZ.enc (eH ((atT t fun j=>(slf a t j).2).take (2+1))))]) ?_ (fun fr aH aI o aK p=>?_)
  ·refine TG (.cut [0,1,2,3,4,5,6] (.alt 7 (.fin [8,9]) (.alt 8 (.fin [7,9]) .stop))) [] Z Z kr_ fun R hB b B=>SZ 5 Z<|SU (bkT k 1) U8<|SV U6<|Tw B Z ⟨?_, ?_,trivial⟩
   ·refine SU (bkT k 1) U8 ?_
    first | refine D.mapUpdate keyZ (j:=0) rfl rfl rfl rfl rfl rfl rfl rfl rfl rfl kr_ ?_ | refine D.mapUpdate keyZ (j:=1) rfl rfl rfl rfl rfl rfl rfl rfl rfl rfl kr_ ?_
    first | refine D.mapUpdate keyZ (j:=1) rfl rfl rfl rfl rfl rfl rfl rfl rfl rfl kr_ ?_ | refine D.mapUpdate keyZ (j:=0) rfl rfl rfl rfl rfl rfl rfl rfl rfl rfl kr_ ?_
    refine SY [1,2,4,5,18,19] b Z<|G.perm (L':=[.obj c (aU keyZ.enc (eH ((atT t fun j=>(slf a t j).1).take (2+1)))),.obj d (aU keyZ.enc (eH ((atT t fun j=>(slf a t j).2).take (2+1))))]) (by
     rw [<- dq t (fun j=>(slf a t j).1) 2 dc_ ⟨f,g,h⟩,<- dq t (fun j=>(slf a t j).2) 2 dc_ ⟨f,g,h⟩]
     first | exact Pk _ | exact List.Perm.swap _ _ _) ?_
    exact S9 0 (Mem.le.refl _) (hn_ [1,2,4,5,18,19] Z) ⟨trivial,Z,Z⟩
   first | refine D.mapUpdate keyZ (j:=0) rfl rfl rfl rfl rfl rfl rfl rfl rfl rfl kr_ ?_ | refine D.mapUpdate keyZ (j:=1) rfl rfl rfl rfl rfl rfl rfl rfl rfl rfl kr_ ?_
   refine SU (bkT k 1) U8 ?_
   first | refine D.mapUpdate keyZ (j:=1) rfl rfl rfl rfl rfl rfl rfl rfl rfl rfl kr_ ?_ | refine D.mapUpdate keyZ (j:=0) rfl rfl rfl rfl rfl rfl rfl rfl rfl rfl kr_ ?_
   refine SY [1,2,4,5,18,19] b Z<|G.perm (L':=[.obj c (aU keyZ.enc (eH ((atT t fun j=>(slf a t j).1).take (2+1)))),.obj d (aU keyZ.enc (eH ((atT t fun j=>(slf a t j).2).take (2+1))))]) (by
    rw [<- dq t (fun j=>(slf a t j).1) 2 dc_ ⟨f,g,h⟩,<- dq t (fun j=>(slf a t j).2) 2 dc_ ⟨f,g,h⟩]
    first | exact Pk _ | exact List.Perm.swap _ _ _) ?_
   exact S9 0 (Mem.le.refl _) (hn_ [1,2,4,5,18,19] Z) ⟨trivial,Z,Z⟩
  obtain ⟨_,rfl,rfl⟩:=p;refine SX fun R b=>S2 _ Z U6<|C6 1 [1,2,4,5,18,19] b Z<|S6 (m':=0) om_ mup (hn_ [1,2,4,5,18,19] Z) ⟨3,by decide,Z,Z,Z⟩
 have U:j=3:=by
  simp only [PP] at N;omega
 subst U;refine G.freeze 0 Z fun Cm aL ak=>G.freeze 0 Z fun Cn aM am=>SR 5 [4,5,6] Z<|S7 (G.dropAll (TR U4 ?_));exact ⟨Z,c,d,Z,Mem.get ak mup,am⟩
theorem qj (C:Mem)(v:Value)(l:List Rat)(b:Sl C 1 v (l.map eD))(t:l.length<=1000000):Jog.Fn cx.P 50 [v] C [] fun u _w e=>∃ A n c,u=.slice A n c/\e=[.arr (.slice A n c) 32 1 l.length (l.map eD).flatten]:=by
 obtain ⟨f,c0,rfl,m,x,y,o⟩:=id b;have z:maxLen<=9223372036854775807:=by simp [maxLen]
 simp only [al] at b m ⊢;refine S4 func50 8 U3 fun w0=>SR 1 [0] Z<|SS 1 Z fun R d=>Uo U9<|SY [0,4] d Z<|G.cd (fun h4=>?_) fun h4=>?_
 ·have p:f=none:=by
   cases f with
   | none=>rfl
   | some a=>cases h4
  have s:l=[]:=by
   cases l with
   | nil=>rfl
   | cons q r =>
    obtain ⟨a,g,_⟩:=o 0 (eD q) rfl;rw [p] at g;cases g
  refine SR 1 [2] Z<|G.nilArr 32 1<|S7 (Tx Z Z ?_);exact ⟨none,0,0,Z,by rw [s];rfl⟩
 refine SX fun R d=>TY [] U12 fl_ fun B=>SV U6<|Tq (j:=0) U11 b.m_ (by simp [eD,na,af]) (by simp only [al,PV,maxLen];omega) (by simp only [al,PV];omega) fl_ fun h i k=>C6 1 [2] d Z<|Tc (L':=[.arr (.slice h i k) 32 1 l.length (l.map eD).flatten]) am<|S7 (Tx Z Z ?_);exact ⟨h,i,k,Z,Z⟩
theorem GW (C:Mem)(v:Value)(l:List Rat)(b:Sl C 1 v (l.map eD))(t:l.length<=1000000):Jog.Fn cx.P 48 [v] C [] fun u _w e=>∃ A n c,u=.slice A n c/\e=[.arr (.slice A n c) 32 1 l.length (l.map eD).flatten]:=by
 obtain ⟨f,c0,rfl,m,x,y,o⟩:=id b;have z:maxLen<=9223372036854775807:=by simp [maxLen]
 simp only [al] at b m ⊢;refine S4 func48 8 U3 fun w0=>SR 1 [0] Z<|SS 1 Z fun R d=>Uo U9<|SY [0,4] d Z<|G.cd (fun h4=>?_) fun h4=>?_
 ·have p:f=none:=by
   cases f with
   | none=>rfl
   | some a=>cases h4
  have s:l=[]:=by
   cases l with
   | nil=>rfl
   | cons q r =>
    obtain ⟨a,g,_⟩:=o 0 (eD q) rfl;rw [p] at g;cases g
  refine SR 1 [2] Z<|G.nilArr 32 1<|S7 (Tx Z Z ?_);exact ⟨none,0,0,Z,by rw [s];rfl⟩
 refine SX fun R d=>TY [] U12 fl_ fun B=>SV U6<|Tq (j:=0) U11 b.m_ (by simp [eD,na,af]) (by simp only [al,PV,maxLen];omega) (by simp only [al,PV];omega) fl_ fun h i k=>C6 1 [2] d Z<|Tc (L':=[.arr (.slice h i k) 32 1 l.length (l.map eD).flatten]) am<|S7 (Tx Z Z ?_);exact ⟨h,i,k,Z,Z⟩
def M5 (r:RowQ):Prop:=(∀ q∈r.f,QB 22 q)/\QB 22 r.b
theorem kw {a:List RowQ}{w:Value}{r:RowQ}(c:vs[i]?=some w)(d:a[i]?=some r):(ay vs a)[i]?=some [w,af (qtx r.b)]:=by
 unfold ay;rw [List.getElem?_zipWith,c,d]
theorem Dq (C:Mem)(hT:Tabs C)(v:Value)(a:List RowQ)(hv:RowsIn C v a)(e:∀ r∈a,M5 r)(ac:∀ r∈a,r.f.length<=1000)(ao:a.length<=100000) :
  Gives cx.P 249 [v] C (.tuple #[v,.int .i64 0]):=by
 obtain ⟨vs,z,A⟩:=hv;obtain ⟨l,c0,rfl,ad,ap,_⟩:=id A;have aq:maxLen<=9223372036854775807:=by simp [maxLen]
 simp only [bA z.1] at A ad ⊢;refine S4 func249 32 U3 fun w0=>SR 2 [0] Z<|SR 3 [0,8,9,10] Z<|G.loop (fun fr B n o=>∃ (i:Nat),(i<=a.length)/\fr=[(0,[],.slice l a.length c0),(8,[],.slice l a.length c0),(9,[],.int .i64 a.length),(10,[],.int .i64 i)]/\n=[]/\o=a.length-i) (hn_ [0,8,9,10] Z) ⟨0,Pm _,Z,Z,Z⟩ (fun fr ar au m _ p=>?_);obtain ⟨i,hi,rfl,rfl,rfl⟩:=p;refine SR 1 [0,8,9,10,11] Z<|G.cd (fun I=>?_) fun I=>?_
 ·have J:i<a.length:=by simpa using I
  obtain ⟨r,E⟩:∃ r,a[i]?=some r:=⟨a[i],ak J⟩;obtain ⟨w,K⟩:∃ w,vs[i]?=some w:=⟨vs[i]'(by rw [z.1];exact J),ak _⟩;have L:=Pe E;obtain ⟨ae,ag⟩:=e r L;have av:=ac r L;have ax:(r.f++[r.b]).length<=1001:=by simp;omega
  have x:=z.2 i w r K E;obtain ⟨Aw,cw,rfl,_⟩:=id x;refine SX fun R c=>Ta A.m_ U10 om_ (kw K E) fl_ fun ay ah=>SU ah U8<|Te U5 fun b5=>S5 (j:=0) U12<|SY [0,5,8,9,10] c Z<|G.freeze 0 Z fun _ _ F=>G.cut (fun fr B n o=>∃ (g:Option Addr)(k:Nat),(Sl B 1 (.slice g (r.f++[r.b]).length k) ((r.f++[r.b]).map eD))/\fr=[(0,[],.slice l a.length c0),(8,[],.slice l a.length c0),(9,[],.int .i64 a.length),(10,[],.int .i64 i),(20,[],.slice g (r.f++[r.b]).length k),(21,[],.int .i64 (r.f++[r.b]).length),(22,[],.int .i64 0)]/\n=[]) ?_ (fun fr az aA o aB p=>?_)
  ·refine TG (.cut [0,1,3,8] (.alt 2 (.fin [4,5,6,7]) (.alt 4 (.cut [] (.alt 2 (.fin [5,6,7]) (.alt 5 (.fin [2,6,7]) .stop))) .stop))) [(2,3)] Z Z kr_ fun R hB c M=>SV U6<|SU (bkT F 1) U8<|SZ 2 Z<|Tw M Z ⟨?_, ?_,trivial⟩
   ·refine D.call (qj _ _ r.f x.m_ om_) Z (.inr dc_) U6 (Pk _) fl_ fun N O Q _ s=>SU (bkT F 1) U8<|Th [eD r.b] U12 (fun S T _ t=>?_);obtain ⟨U,V,cc,rfl,rfl⟩:=s;refine Tq (j:=0) U11 t.m_ (by simp [eD,na,af]) aw (by simp only [aY];omega) fl_ fun g W k=>C6 1 [0,8,9,10,20,21,22] c Z<|G.freezeArr 0 ((r.f++[r.b]).map eD) ⟨rfl,am⟩ (by intro r e;obtain ⟨y,_,rfl⟩:=Pn.1 e;rfl) am (fun X Y d=>?_);obtain ⟨Az,cz,u,_⟩:=id d;cases u
    simp only [al] at d ⊢;exact G.dropAll<|S9 0 mup (hn_ [0,8,9,10,20,21,22] Z) ⟨_,_,d,Z,Z⟩
   refine SU (bkT F 1) U8<|Tw M Z ⟨?_, ?_,trivial⟩
   ·refine D.call (qj _ _ r.f x.m_ om_) Z (.inr dc_) U6 (Pk _) fl_ fun N O Q _ s=>Th [eD r.b] U12 (fun S T _ t=>?_);obtain ⟨U,V,cc,rfl,rfl⟩:=s;refine Tq (j:=0) U11 t.m_ (by simp [eD,na,af]) aw (by simp only [aY];omega) fl_ fun g W k=>C6 1 [0,8,9,10,20,21,22] c Z<|G.freezeArr 0 ((r.f++[r.b]).map eD) ⟨rfl,am⟩ (by intro r e;obtain ⟨y,_,rfl⟩:=Pn.1 e;rfl) am (fun X Y d=>?_);obtain ⟨Az,cz,u,_⟩:=id d;cases u
    simp only [al] at d ⊢;exact G.dropAll<|S9 0 mup (hn_ [0,8,9,10,20,21,22] Z) ⟨_,_,d,Z,Z⟩
   refine Th [eD r.b] U12 fun S T _ t=>D.call (qj _ _ r.f x.m_ om_) Z (.inr dc_) U6 (Pk _) fl_ (fun N O Q _ s=>?_);obtain ⟨U,V,cc,rfl,rfl⟩:=s;refine Tq (j:=0) U11 t.m_ (by simp [eD,na,af]) aw (by simp only [aY];omega) fl_ fun g W k=>C6 1 [0,8,9,10,20,21,22] c Z<|G.freezeArr 0 ((r.f++[r.b]).map eD) ⟨rfl,am⟩ (by intro r e;obtain ⟨y,_,rfl⟩:=Pn.1 e;rfl) am (fun X Y d=>?_);obtain ⟨Az,cz,u,_⟩:=id d;cases u
   simp only [al] at d ⊢;exact G.dropAll<|S9 0 mup (hn_ [0,8,9,10,20,21,22] Z) ⟨_,_,d,Z,Z⟩
  obtain ⟨g,k,ai,rfl,rfl⟩:=p;refine G.loop (fun fr B n o=>∃ (j:Nat),(j<=(r.f++[r.b]).length)/\fr=[(0,[],.slice l a.length c0),(8,[],.slice l a.length c0),(9,[],.int .i64 a.length),(10,[],.int .i64 i),(20,[],.slice g (r.f++[r.b]).length k),(21,[],.int .i64 (r.f++[r.b]).length),(22,[],.int .i64 j)]/\n=[]/\o=(r.f++[r.b]).length-j) (hn_ [0,8,9,10,20,21,22] Z) ⟨0,Pm _,Z,Z,Z⟩ (fun fr aC aD m _ p=>?_);obtain ⟨j,hj,rfl,rfl,rfl⟩:=p;refine SR 1 [0,8,9,10,20,21,22,23] Z<|G.cd (fun aa=>?_) fun aa=>?_
  ·have aj:j<(r.f++[r.b]).length:=by
    have:=OD aa;omega
   obtain ⟨q,hq⟩:∃ q,(r.f++[r.b])[j]?=some q:=⟨(r.f++[r.b])[j],ak aj⟩;have ab:QB 22 q:=by
    rcases Px.1 (Pe hq) with h | h
    ·exact ae q h
    rw [PE.1 h];exact ag
   refine SX fun R c=>Ta ai.m_ U10 om_ (cq hq) fl_ fun aE an=>SU an U8<|C6 1 [0,7,8,9,10,20,21,22] c Z<|SS 1 Z fun R c=>S8 (dA _ hT.m_ _ (tx ab)) U7<|C6 1 [0,8,9,10,20,21,22,28] c Z<|G.cd (fun H=>?_) fun H=>?_
   ·exfalso;rw [xg ab] at H;exact absurd H dc_
   refine SX fun R c=>S2 _ Z U6<|C6 1 [0,8,9,10,20,21,22] c Z<|S6 (m':=(r.f++[r.b]).length-(j+1)) om_ mup (hn_ [0,8,9,10,20,21,22] Z) ⟨j+1,om_,Z,Z,Z⟩
  refine SX fun R c=>S2 _ Z U6<|C6 1 [0,8,9,10] c Z<|S6 (m':=a.length-(i+1)) om_ mup (hn_ [0,8,9,10] Z) ⟨i+1,om_,Z,Z,Z⟩
 refine SR 3 [2,3] Z<|S7 (G.dropAll (Tp U3 ?_));exact ⟨Z,Z⟩
def gE (s p k:Nat)(fm:List (Nat × Rat))(b sg:Rat):RowQ:=⟨Ic s p k fm sg,sg*b⟩
theorem jg (C:Mem)(O:Tabs C)(s p d b g v:Nat)(c:List (Nat × Rat))(e:Rat)(a:List Rat)(I w:Value)(n:List Value)(f:List RowQ)(aj:s*p<=60)(Q:d<s)(S:C v=some (.cells ⟨[.int .i64 (s:Nat),.int .i64 (p:Nat)]⟩ 196 (0,0)))(T:C b=some (aU keyZ.enc (eH c)))(U:(c.map (·.1)).Nodup)(V:∀ x∈c,x.1<p)(W:∀ x∈c,QB 23 x.2)(X:QB 23 e)
  (y:Sl C 1 I (a.map eD)) (Y:∀ q∈a,QB 1 q) (an:a.length<=2) (aa:RowsOk C n f) (ao:f.length<=10000) :
  Jog.Fn cx.P 245 [.int .i64 d,.map (some b),af (qtx e),I,.pointer (some ⟨g,0,none⟩),.pointer (some ⟨v,0,none⟩)] C [.obj g (.cells ⟨[w]⟩ 47 (0,0)),.arr w 140 2 f.length (ay n f).flatten]
   fun u z k=>∃ J w',u=.tuple #[]/\k=[.obj g (.cells ⟨[w']⟩ 47 (0,0)),.arr w' 140 2 (f++a.map (gE s p d c e)).length (ay J (f++a.map (gE s p d c e))).flatten]/\RowsOk z J (f++a.map (gE s p d c e)):=by
 obtain ⟨A0,c0,rfl,ab,ap,_⟩:=id y;have aq:maxLen<=9223372036854775807:=by simp [maxLen]
 simp only [al] at y ab ⊢;refine S4 func245 28 U3 fun w0=>SR 3 [0,1,2,4,5,12,13,14] Z<|Tc (L':=[.obj g (.cells ⟨[w]⟩ 47 (0,0)),.arr w 140 2 (f++(a.take 0).map (gE s p d c e)).length (ay n (f++(a.take 0).map (gE s p d c e))).flatten]) am<|G.loop (fun fr z k μ=>∃ (i:Nat)(h:List Value)(o:Value),(i<=a.length/\RowsOk z h (f++(a.take i).map (gE s p d c e)))/\fr=[(0,[],.int .i64 d),(1,[],.map (some b)),(2,[],af (qtx e)),(4,[],.pointer (some ⟨g,0,none⟩)),(5,[],.pointer (some ⟨v,0,none⟩)),(12,[],.slice A0 a.length c0),(13,[],.int .i64 a.length),(14,[],.int .i64 i)]/\k=[.obj g (.cells ⟨[o]⟩ 47 (0,0)),.arr o 140 2 (f++(a.take i).map (gE s p d c e)).length (ay h (f++(a.take i).map (gE s p d c e))).flatten]/\μ=a.length-i) (hn_ [0,1,2,4,5,12,13,14] Z) ⟨0,n,w,⟨Pm _,by simpa using aa⟩,Z,Z,Z⟩ (fun fr ar au m _ hI=>?_);obtain ⟨i,h,o,⟨hi,t⟩,rfl,rfl,rfl⟩:=hI;refine SR 1 [0,1,2,4,5,12,13,14,15] Z<|G.cd (fun A=>?_) fun A=>?_
 ·have B:i<a.length:=by simpa using A
  obtain ⟨sg,D⟩:∃ sg,a[i]?=some sg:=⟨a[i],ak B⟩;have ac:=Y sg (Pe D);have av:(f++(a.take i).map (gE s p d c e)).length<=10002:=by
   rw [Po,al,Pw];omega
  have K:f++(a.take (i+1)).map (gE s p d c e)=f++(a.take i).map (gE s p d c e)++[gE s p d c e sg]:=by
   rw [PN,D];simp
  refine SX fun R l=>Ta y.m_ U10 om_ (cq D) fl_ fun ax ad=>SU ad U8<|C6 1 [0,1,2,4,5,11,12,13,14] l Z<|Tg [0,1,2,3,4,5,6,7,8,9] [] Z kr_ fun R hB l=>S1 ag U9<|SU (bkT S 2) U8<|SZ 4 Z<|To (NH _ O.m_ s p d b c sg e 23 dc_ dc_ om_ Q (Mem.get T mup) U V W (ac.le dc_) X) U7 fl_ (fun az _ _ ae=>?_);obtain ⟨fv,rfl,E⟩:=ae;obtain ⟨F,H,rfl,_⟩:=id E;simp only [al] at E ⊢;refine Th [[.slice F (Ic s p d c sg).length H,af (qtx (sg*e))]] U12 fun aA _ _ ah=>Tq (j:=1) U11 ah.m_ Z aw (by simp only [aY];omega) fl_ fun L M N=>S5 (j:=1) U12<|SY [0,1,2,4,5,12,13,14] l Z<|SX fun R l=>S2 _ Z U6<|C6 1 [0,1,2,4,5,12,13,14] l Z ?_;have ai:=RowsOk.snoc (r:=gE s p d c e sg) t.m_ E;refine Tc (L':=[.obj g (.cells ⟨[.slice L M N]⟩ 47 (0,0)),.arr (.slice L M N) 140 2 (f++(a.take (i+1)).map (gE s p d c e)).length (ay (h++[.slice F (Ic s p d c sg).length H]) (f++(a.take (i+1)).map (gE s p d c e))).flatten]) (by rw [K,bY t.1];simp [gE,aE];omega)<|S6 (m':=a.length-(i+1)) om_ mup (hn_ [0,1,2,4,5,12,13,14] Z) ⟨i+1,h++[.slice F (Ic s p d c sg).length H],_,⟨by omega,by rw [K];exact ai.mono mup⟩,Z,Z,Z⟩
 have B:i=a.length:=by
  have:¬ i<a.length:=by simpa using A
  omega
 rw [B,Pv] at t ⊢;exact Uc Z<|⟨h,o,Z,Z,t.mono mup⟩
noncomputable def pV (o:Obs):Rat:=-da o.nx / da o.nz
noncomputable def iR (o:Obs):Rat:=-da o.ny / da o.nz
def upN (B:Bk)(o:Obs):Nat:=(jT (isU o.upper) B.col 0).toNat
noncomputable def rowsO (B:Bk)(o:Obs)(p:Pt)(t:Tri)(z:Rat):List RowQ :=
 if o.kind=1 then (if 0<upN B o then [gE (bs B) (bp B) (upN B o-1) (atT t (wgt B.pts t p)) (kQ o z) 1] else [])++(if upN B o<bs B then [gE (bs B) (bp B) (upN B o) (atT t (wgt B.pts t p)) (kQ o z) (-1)] else [])
 else if o.kind=2 then (cD B.col o).flatMap fun k=>[1, -1].map (gE (bs B) (bp B) k (atT t (wgt B.pts t p)) (kQ o z))
 else (cD B.col o).flatMap fun k=>[1, -1].map (gE (bs B) (bp B) k (atT t fun j=>(slf B.pts t j).1) (pV o))++[1, -1].map (gE (bs B) (bp B) k (atT t fun j=>(slf B.pts t j).2) (iR o))
structure Fine (B:Bk)(fs:List Rat)(o:Obs)(p:Pt)(ti:Nat)(t:Tri)(z:Rat):Prop where
 place:ObsAt o p
 loc:∃ r,kF B.pts B.tris p=ti::r
 tri:B.tris[ti]?=some t
 val:DI B.pts B.tris fs p=.tuple #[af (qtx z),.int .i64 0]
 qz:QB 22 z
 qh:QB 22 (kQ o z)
 w:∀ j,QB 22 (wgt B.pts t p j)
 up:0<=jT (isU o.upper) B.col 0
 sl:∀ j,QP 22 (slf B.pts t j)
 nr:o.kind≠1->o.kind≠2->(aW o.nx=true/\aW o.ny=true/\aW o.nz=true)/\QB 11 (da o.nx)/\QB 11 (da o.ny)/\QB 11 (da o.nz)/\da o.nz≠0
 rows:∀ r∈rowsO B o p t z,M5 r
theorem Nx (h:Sl C 1 v [[af [49]]]):Sl C 1 v (([1]:List Rat).map eD):=by rw [<- dB] at h;exact h
theorem Ny (h:Sl C 1 v [[af [45,49]]]):Sl C 1 v (([-1]:List Rat).map eD):=by rw [<- cV] at h;exact h
theorem Et (h:Sl C 1 v [[af [49]],[af [45,49]]]):Sl C 1 v (([1, -1]:List Rat).map eD):=by rw [<- cV,<- dB] at h;exact h
theorem Nr:∀ q∈([1]:List Rat),QB 1 q:=by simp;exact QB_one
theorem Ns:∀ q∈([-1]:List Rat),QB 1 q:=by simp;exact mE
theorem rk:∀ q∈([1, -1]:List Rat),QB 1 q:=by
 intro q a;simp only [Ps,Qh,Rz] at a;rcases a with rfl | rfl
 ·exact QB_one
 exact mE
theorem ga {f:Nat->Rat}{P:Nat × Rat->Prop}(b:P (t.1,f 0))(c:P (t.2.1,f 1))(d:P (t.2.2,f 2)):∀ x∈atT t f,P x:=by
 intro x a;simp only [atT,Ps,Qh,Rz] at a;rcases a with rfl | rfl | rfl <;> assumption
theorem HN {a b:Int}(h:k∈vx a b n):k<n:=by
 unfold vx at h;rw [QG,PC] at h;exact h.1
theorem jb {a b:Type}(f:a->List b){l:List a}{j:Nat}{x:a}(h:l[j]?=some x):(l.take (j+1)).flatMap f=(l.take j).flatMap f++f x:=by
 rw [PN,h,List.flatMap_append];simp
theorem fI {a b:Type}{f:a->List b}{c:Nat}(h:∀ x,(f x).length=c):∀ l:List a,(l.flatMap f).length=c*l.length
 | []=>by simp
 | x::l=>by rw [List.flatMap_cons,Po,h,fI h l,Pz,Nat.mul_succ,RD]
theorem Am :∀ r∈rowsO B o p t z,r.f.length=bs B*bp B:=by
 have a:∀ k d b sg,(gE (bs B) (bp B) k d b sg).f.length=bs B*bp B:=fun k d b sg=>jx _ _;intro r hr;unfold rowsO at hr;split at hr
 ·rcases Px.1 hr with h | h
  ·split at h
   ·rw [PE.1 h];exact a _ _ _ _
   cases h
  split at h
  ·rw [PE.1 h];exact a _ _ _ _
  cases h
 split at hr
 ·obtain ⟨k,_,c⟩:=List.mem_flatMap.1 hr;obtain ⟨sg,_,rfl⟩:=Pn.1 c;exact a _ _ _ _
 obtain ⟨k,_,c⟩:=List.mem_flatMap.1 hr;rcases Px.1 c with h | h
 ·obtain ⟨sg,_,rfl⟩:=Pn.1 h;exact a _ _ _ _
 obtain ⟨sg,_,rfl⟩:=Pn.1 h;exact a _ _ _ _
theorem vO (h:(cD B.col o).length<=60):(rowsO B o p t z).length<=240:=by
 unfold rowsO;split
 ·rw [Po];have h1:∀ (c:Prop)[Decidable c] (r:RowQ),(if c then [r] else []).length<=1:=fun c _ r=>by split <;> simp
  have:=h1 (0<upN B o) (gE (bs B) (bp B) (upN B o-1) (atT t (wgt B.pts t p)) (kQ o z) 1);have:=h1 (upN B o<bs B) (gE (bs B) (bp B) (upN B o) (atT t (wgt B.pts t p)) (kQ o z) (-1));omega
 split
 ·rw [fI (c:=2) (fun k=>by simp)];omega
 rw [fI (c:=4) (fun k=>by simp)];omega
theorem Lj (C:Mem)(d:Tabs C)(bv:Value)(B:Bk)(fs:List Rat)(i:Nat)(o:Obs)(p:Pt)(ti:Nat)(t:Tri)(z:Rat)(M:BookIn C bv B)(S:Good B.pts B.tris)(an:BookR B)(aN:ip B=0)(hF:Terr B fs)(V:B.obs[i]?=some o)(b:Fine B fs o p ti t z)(T:bs B*bp B<=60)(a5:qX B.col=0)(bV:bs B+1=B.col.length)(bW:B.col.length<=60) :
  Pur cx.P 183 [gk (bs B) (bp B),bv,.int .i64 i] C fun u D=>∃ v,u=.tuple #[v,.int .i64 0]/\RowsIn D v (rowsO B o p t z):=by
 have ao:=M;have hM:=S.ok;obtain ⟨r,a6⟩:=b.loc;have aO:=Pe b.tri;have l:=hM.ins t aO;have ap:=sU hM aO;have bX:=(aJ.1 V).1;have W:=b.place;obtain ⟨u,X⟩:∃ u:Nat,jT (isU o.upper) B.col 0=(u:Nat):=⟨_,(Int.toNat_of_nonneg b.up).symm⟩;have a7:upN B o=u:=by unfold upN;rw [X];rfl
 have bY:u<B.col.length:=by
  rcases rP (isU o.upper) B.col with ⟨h,_⟩ | ⟨k,x,h,h2,_⟩
  ·rw [X] at h;omega
  have:=(aJ.1 h2).1;rw [X] at h;omega
 have aq:=qu (wgt B.pts t p) ap;have ar:∀ x∈atT t (wgt B.pts t p),x.1<bp B:=ga (P:=fun x=>x.1<bp B) l.1 l.2.1 l.2.2;have au:∀ x∈atT t (wgt B.pts t p),QB 23 x.2:=ga (P:=fun x=>QB 23 x.2) ((b.w 0).le dc_) ((b.w 1).le dc_) ((b.w 2).le dc_);have av:QB 23 (kQ o z):=b.qh.le dc_;have a8:(cD B.col o).length<=bs B:=by
  unfold cD vx;refine Py (QQ _ _) ?_;rw [Qr];unfold bs;omega
 have aP:∀ k∈cD B.col o,k<bs B:=fun k hk=>HN hk;obtain ⟨v1,v2,tv,cv,ov,rfl,h1,h2,h3,h4,h5⟩:=id M.ex;have aQ:MeshIn C (.agg ⟨[v1,v2]⟩) B.pts B.tris:=⟨v1,v2,rfl,h1,h2⟩;obtain ⟨A5,c5,rfl,a9,bZ,_⟩:=id h5;have b0:maxLen<=9223372036854775807:=by simp [maxLen]
 simp only [al] at h5 a9 ao ⊢;refine S4 func183 172 U3 fun w0=>?_;refine SX fun R a=>?_;refine Tf U6 (fun n=>?_);refine Tf U6 (fun b4=>?_);refine C6 2 [2,3,4] a Z ?_;clear a R;refine G.freeze 1 Z (fun _ _ N=>?_);refine G.freeze 0 Z (fun _ _ O=>?_);refine SS 1 Z fun R a=>?_;refine SU (bkT O 1) U8 ?_;refine SV U6 ?_;refine Ta h5.m_ U10 om_ (cq V) fl_ (fun b1 ba=>?_);refine SU ba U8 ?_;refine Te U5 (fun b8=>?_);refine S5 (j:=0) U12 ?_;refine SY [2,3,4,8] a Z ?_;clear a R;refine G.freeze 0 Z (fun C8 _ E=>?_);refine SS 1 Z fun R a=>?_;refine SU (bkT O 2) U8 ?_;refine SV U6 ?_;refine SU (bkT E 2) U8 ?_;refine To (by have h:=Do C8 d.m_ _ B.pts B.tris p ti r t aQ.m_ S W.q W.r a6 b.tri b.w;rw [<- wm W] at h;exact h) U7 fl_ (fun b2 _ _ bb=>?_);obtain ⟨U,rfl,aw⟩:=bb;refine C6 7 [2,3,4,8,9,10,11] a Z ?_;clear a R;refine SR 2 [2,3,4,8,9,10,11,45] Z ?_;refine G.cd (fun aR=>?_) fun aR=>?_
 ·exact absurd aR dc_
 refine SX fun R a=>?_;refine SU (bkT O 5) U8 ?_;refine SV U6 ?_;refine S8 (CW _ d.m_ _ B fs i o p z ao.m_ S an aN hF V W b.val b.qz b.qh) U7 ?_;refine C6 5 [2,3,4,8,9,10,11,12] a Z ?_;clear a R;refine SR 2 [2,3,4,8,9,10,11,12,54] Z ?_;refine G.cd (fun aS=>?_) fun aS=>?_
 ·exact absurd aS dc_
 refine SX fun R a=>?_;refine SU (bkT O 5) U8 ?_;refine SV U6 ?_;refine Tv (vw _ d.m_ _ B i o ao.m_ S an aN V) U7 (fun b5 _ _ bc=>?_);obtain ⟨lv,rfl,ax⟩:=bc;obtain ⟨Al,cl,aT,_⟩:=id ax;rw [al] at aT;subst aT;refine C6 5 [3,4,8,9,10,11,12,13] a Z ?_;clear a R;refine SR 2 [3,4,8,9,10,11,12,13,63] Z ?_;refine G.cd (fun aU=>?_) fun aU=>?_
 ·exact absurd aU dc_
 refine SX fun R a=>?_;refine Te U5 (fun c=>?_);refine SY [3,4,8,9,10,12,13,14] a Z ?_;clear a R;refine G.nilArr 140 2 (G.perm (L':=[.obj c (.cells ⟨[.slice none 0 0]⟩ 47 (0,0)),.arr (.slice none 0 0) 140 2 0 []]) (List.Perm.swap _ _ _) ?_);refine SR 2 [3,4,8,9,10,12,13,14,15] Z ?_;refine SS 1 Z fun R a=>?_;refine SU (bkT E 1) U8 ?_;refine SY [3,4,8,9,10,12,13,14,15,67] a Z ?_;clear a R;refine SR 2 [3,4,8,9,10,12,13,14,15,67,120] Z ?_;refine G.cut (fun fr F y H=>∃ (vs:List Value)(w:Value),(RowsOk F vs (rowsO B o p t z))/\fr=[(14,[],.pointer (some ⟨c,0,none⟩))]/\y=[.obj c (.cells ⟨[w]⟩ 47 (0,0)),.arr w 140 2 (rowsO B o p t z).length (ay vs (rowsO B o p t z)).flatten]) ?_ (fun fr _ b6 H _ I=>?_)
 ·refine G.cd (fun Y=>?_) fun Y=>?_
  ·have hk:o.kind=1:=dN Y;obtain ⟨s,Q⟩:∃ s,(if 0<u then [gE (bs B) (bp B) (u-1) (atT t (wgt B.pts t p)) (kQ o z) 1] else [])=s:=⟨_,rfl⟩;have A:rowsO B o p t z=s++(if u<bs B then [gE (bs B) (bp B) u (atT t (wgt B.pts t p)) (kQ o z) (-1)] else []):=by unfold rowsO;rw [aL hk,a7,Q]
   refine SS 1 Z fun R a=>?_;refine SU (bkT O 1) U8 ?_;refine SV U6 ?_;refine SU (bkT E 1) U8 ?_;refine S8 (yT _ d.m_ _ B.col o.upper h4.m_ an.col a5 u X) U7 ?_;refine C6 7 [3,9,12,14,15,16,18] a Z ?_;clear a R;refine SR 2 [3,9,12,14,15,16,18,132] Z ?_;refine G.cd (fun aV=>?_) fun aV=>?_
   ·exact absurd aV dc_
   refine SR 2 [3,9,12,14,15,16,135] Z ?_;refine G.cut (fun fr F y H=>∃ (vs:List Value)(w:Value),(RowsOk F vs s)/\fr=[(3,[],.pointer (some ⟨n,0,none⟩)),(9,[],.map (some U)),(12,[],af (qtx (kQ o z))),(14,[],.pointer (some ⟨c,0,none⟩)),(15,[],.func (.func 245) #[] #[.pointer (some ⟨c,0,none⟩),.pointer (some ⟨n,0,none⟩)]),(16,[],.int .i64 u)]/\y=[.obj c (.cells ⟨[w]⟩ 47 (0,0)),.arr w 140 2 s.length (ay vs s).flatten]) ?_ (fun fr _ b7 H _ I=>?_)
   ·refine G.cd (fun az=>?_) fun az=>?_
    ·have aA:0<u:=by
      have:=OD az;omega
     rw [aL aA] at Q;subst Q;refine Tk [(6,3)] Z (fun R a=>?_);refine SZ 2 Z ?_;refine Ts (((u-1:Nat):Int)) U4 om_ om_ om_ U2 ?_;refine SZ 2 Z ?_;refine Th [[af [49]]] U12 (fun b9 _ _ bd=>?_);refine D.call (jg _ d.m_ (bs B) (bp B) (u-1) U c n (atT t (wgt B.pts t p)) (kQ o z) [1] _ (.slice none 0 0) [] [] T om_ (Mem.get N mup) (Mem.get aw mup) aq ar au av ((Nx bd).mono mup) Nr dc_ (RowsOk.nil _) dc_) Z (.inr dc_) U6 (Pk _) fl_ (fun ca _ cb _ bf=>?_);refine SY [3,9,12,14,15,16] a Z ?_;clear a R;obtain ⟨bg,w1,rfl,rfl,bh⟩:=bf;refine S9 0 mup (hn_ [3,9,12,14,15,16] Z) ⟨bg,w1,bh,Z,Z⟩
    have aA:¬ 0<u:=by
     have:=Pj az;omega
    rw [aF aA] at Q;subst Q;refine S9 0 (Mem.le.refl _) (hn_ [3,9,12,14,15,16] Z) ⟨[],.slice none 0 0,RowsOk.nil _,Z,Z⟩
   obtain ⟨vs ,w,aB,rfl,rfl⟩:=I;refine SS 2 Z fun R a=>?_;refine SU (bkT N 1) U8 ?_;refine C6 1 [9,12,14,15,16,146] a Z ?_;clear a R;refine G.cd (fun aC=>?_) fun aC=>?_
   ·have aa:u<bs B:=by
     have:=OD aC;omega
    rw [aL aa] at A;have cc:s.length<=1:=by rw [<- Q];split <;> simp
    refine Tk [(5,3)] Z (fun R a=>?_);refine SZ 4 Z ?_;refine Th [[af [45,49]]] U12 (fun ce _ _ bi=>?_);refine D.call (jg _ d.m_ (bs B) (bp B) u U c n (atT t (wgt B.pts t p)) (kQ o z) [-1] _ w vs s T aa (Mem.get N mup) (Mem.get aw mup) aq ar au av ((Ny bi).mono mup) Ns dc_ aB.m_ om_) Z (.inr dc_) U6 (Pk _) fl_ (fun cf _ cg _ bj=>?_);refine SY [14] a Z ?_;clear a R;obtain ⟨bk,w2,rfl,rfl,aW⟩:=bj;rw [show s++([-1]:List Rat).map (gE (bs B) (bp B) u (atT t (wgt B.pts t p)) (kQ o z))=rowsO B o p t z from A.symm] at aW ⊢;refine S9 0 mup (hn_ [14] Z) ⟨bk,w2,aW,Z,Z⟩
   have aa:¬ u<bs B:=by
    have:=Pj aC;omega
   rw [aF aa,PF] at A;rw [<- A] at aB ⊢;refine S9 0 mup (hn_ [14] Z) ⟨vs,w,aB.mono mup,Z,Z⟩
  have aD:¬ o.kind=1:=by
   intro e;rw [show ((o.kind == 1)=true) by rw [e];rfl] at Y;cases Y
  refine SR 2 [4,8,9,10,12,13,14,15,153] Z ?_;refine G.cd (fun ab=>?_) fun ab=>?_
  ·have ac:o.kind=2:=dN ab;obtain ⟨f,aE⟩:∃ f,(fun k=>([1, -1]:List Rat).map (gE (bs B) (bp B) k (atT t (wgt B.pts t p)) (kQ o z)))=f:=⟨_,rfl⟩;have A:rowsO B o p t z=(cD B.col o).flatMap f:=by unfold rowsO;rw [aF aD,aL ac,<- aE]
   have bl:∀ k,(f k).length=2:=fun k=>by rw [<- aE];rfl
   refine SR 3 [9,12,14,15,155,156,157] Z ?_;refine G.loop (fun fr F y H=>∃ (j:Nat)(vs:List Value)(w:Value),(j<=(cD B.col o).length/\RowsOk F vs (((cD B.col o).take j).flatMap f))/\fr=[(9,[],.map (some U)),(12,[],af (qtx (kQ o z))),(14,[],.pointer (some ⟨c,0,none⟩)),(15,[],.func (.func 245) #[] #[.pointer (some ⟨c,0,none⟩),.pointer (some ⟨n,0,none⟩)]),(155,[],.slice Al (cD B.col o).length cl),(156,[],.int .i64 (cD B.col o).length),(157,[],.int .i64 j)]/\y=[.obj c (.cells ⟨[w]⟩ 47 (0,0)),.arr w 140 2 (((cD B.col o).take j).flatMap f).length (ay vs (((cD B.col o).take j).flatMap f)).flatten]/\H=(cD B.col o).length-j) (hn_ [9,12,14,15,155,156,157] Z) ⟨0,[],.slice none 0 0,⟨Pm _,RowsOk.nil _⟩,Z,Z,Z⟩ (fun fr ch ci m _ I=>?_);obtain ⟨j,vs,w,⟨hj,J⟩,rfl,rfl,rfl⟩:=I;refine SR 1 [9,12,14,15,155,156,157,158] Z ?_;refine G.cd (fun aG=>?_) fun aG=>?_
   ·have K:j<(cD B.col o).length:=by
     have:=OD aG;omega
    obtain ⟨k,L⟩:∃ k,(cD B.col o)[j]?=some k:=⟨(cD B.col o)[j],ak K⟩;have ad:=aP k (Pe L);have ae:=fI bl ((cD B.col o).take j);rw [Pw] at ae;have aH:=jb f L;refine SX fun R a=>?_;refine Ta ax.m_ U10 om_ (cq L) fl_ (fun cj bm=>?_);refine SU bm U8 ?_;refine C6 1 [9,12,14,15,20,155,156,157] a Z ?_;clear a R;refine Tk [(5,3)] Z (fun R a=>?_);refine SZ 4 Z ?_;refine Th [[af [49]],[af [45,49]]] U12 (fun ck _ _ bo=>?_);refine D.call (jg _ d.m_ (bs B) (bp B) k U c n (atT t (wgt B.pts t p)) (kQ o z) [1, -1] _ w vs _ T ad (Mem.get N mup) (Mem.get aw mup) aq ar au av ((Et bo).mono mup) rk dc_ J.m_ om_) Z (.inr dc_) U6 (Pk _) fl_ (fun cm _ cn _ bq=>?_);refine SY [9,12,14,15,155,156,157] a Z ?_;clear a R;refine SX fun R a=>?_;refine S2 _ Z U6 ?_;refine C6 1 [9,12,14,15,155,156,157] a Z ?_;clear a R;obtain ⟨aI,w3,rfl,rfl,ah⟩:=bq;rw [show ((cD B.col o).take j).flatMap f++([1, -1]:List Rat).map (gE (bs B) (bp B) k (atT t (wgt B.pts t p)) (kQ o z))=((cD B.col o).take (j+1)).flatMap f by rw [aH,<- aE]] at ah ⊢;refine S6 (m':=(cD B.col o).length-(j+1)) om_ mup (hn_ [9,12,14,15,155,156,157] Z) ⟨j+1,aI,w3,⟨by omega,ah⟩,Z,Z,Z⟩
   have K:j=(cD B.col o).length:=by
    have:=Pj aG;omega
   rw [K,Pv,<- A] at J ⊢;refine S9 0 mup (hn_ [14] Z) ⟨vs,w,J.mono mup,Z,Z⟩
  have ac:¬ o.kind=2:=by
   intro e;rw [show ((o.kind == 2)=true) by rw [e];rfl] at ab;cases ab
  obtain ⟨⟨br,bt,bu⟩,aX,aZ,ai,aj⟩:=b.nr aD ac;obtain ⟨e1,q1⟩:=dt br;obtain ⟨e2,q2⟩:=dt bt;obtain ⟨e3,q3⟩:=dt bu;have a0:(qtx (da o.nx)).length<=1000000:=Py (bx q1 dc_) dc_;have bz:(qtx (da o.ny)).length<=1000000:=Py (bx q2 dc_) dc_;have bB:QB 23 (pV o):=(ji (eX aX) ai aj).le dc_;have bC:QB 23 (iR o):=(ji (eX aZ) ai aj).le dc_;obtain ⟨g,aK⟩:∃ g,(fun k=>([1, -1]:List Rat).map (gE (bs B) (bp B) k (atT t fun j=>(slf B.pts t j).1) (pV o))++([1, -1]:List Rat).map (gE (bs B) (bp B) k (atT t fun j=>(slf B.pts t j).2) (iR o)))=g:=⟨_,rfl⟩;have A:rowsO B o p t z=(cD B.col o).flatMap g:=by unfold rowsO;rw [aF aD,aF ac,<- aK]
  have bD:∀ k,(g k).length=4:=fun k=>by rw [<- aK];rfl
  have bE:=qu (fun j=>(slf B.pts t j).1) ap;have bF:=qu (fun j=>(slf B.pts t j).2) ap;have bG:∀ x∈atT t (fun j=>(slf B.pts t j).1),x.1<bp B:=ga (P:=fun x=>x.1<bp B) l.1 l.2.1 l.2.2;have bH:∀ x∈atT t (fun j=>(slf B.pts t j).2),x.1<bp B:=ga (P:=fun x=>x.1<bp B) l.1 l.2.1 l.2.2;have bI:∀ x∈atT t (fun j=>(slf B.pts t j).1),QB 23 x.2:=ga (P:=fun x=>QB 23 x.2) ((b.sl 0).1.le dc_) ((b.sl 1).1.le dc_) ((b.sl 2).1.le dc_);have bJ:∀ x∈atT t (fun j=>(slf B.pts t j).2),QB 23 x.2:=ga (P:=fun x=>QB 23 x.2) ((b.sl 0).2.le dc_) ((b.sl 1).2.le dc_) ((b.sl 2).2.le dc_);refine SS 1 Z fun R a=>?_;refine SU (bkT O 2) U8 ?_;refine SV U6 ?_;refine Tv (Dl _ d.m_ _ B.pts B.tris ti t aQ.m_ S b.tri b.sl) U7 (fun co am _ bK=>?_);obtain ⟨be,bn,rfl,bL,bM⟩:=bK;refine C6 7 [8,13,14,15,21,22,23] a Z ?_;clear a R;refine SR 2 [8,13,14,15,21,22,23,77] Z ?_;refine G.cd (fun a1=>?_) fun a1=>?_
  ·exact absurd a1 dc_
  refine Tg [0,1,2,3,4,5,6,7,8,9,10,11,12] [(3,1),(7,1)] Z kr_ (fun R M a=>?_);refine SZ 2 Z ?_;refine SU (bkT E 1) U8 ?_;refine Tj (fun _=>(by have h:=eA am (da o.nx) a0;rw [<- e1] at h;exact h)) U9 ?_;refine SZ 2 Z ?_;refine SU (bkT E 1) U8 ?_;refine Tj (fun _=>(by have h:=gG am d.m_ (-da o.nx) (da o.nz) 11 dc_ dc_ (eX aX) ai aj;rw [<- e3] at h;exact h)) U9 ?_;refine SZ 5 Z ?_;refine SY [8,13,14,15,21,22,24] a Z ?_;clear a M R;refine Tg [0,1,2,3,4,5,6,7,8,9,10,11,12] [(3,1),(7,1)] Z kr_ (fun R M a=>?_);refine SZ 2 Z ?_;refine SU (bkT E 1) U8 ?_;refine Tj (fun _=>(by have h:=eA am (da o.ny) bz;rw [<- e2] at h;exact h)) U9 ?_;refine SZ 2 Z ?_;refine SU (bkT E 1) U8 ?_;refine Tj (fun _=>(by have h:=gG am d.m_ (-da o.ny) (da o.nz) 11 dc_ dc_ (eX aZ) ai aj;rw [<- e3] at h;exact h)) U9 ?_;refine SZ 5 Z ?_;refine SY [13,14,15,21,22,24,26] a Z ?_;clear a M R;refine SR 3 [14,15,21,22,24,26,101,102,103] Z ?_;refine G.loop (fun fr F y H=>∃ (j:Nat)(vs:List Value)(w:Value),(j<=(cD B.col o).length/\RowsOk F vs (((cD B.col o).take j).flatMap g))/\fr=[(14,[],.pointer (some ⟨c,0,none⟩)),(15,[],.func (.func 245) #[] #[.pointer (some ⟨c,0,none⟩),.pointer (some ⟨n,0,none⟩)]),(21,[],.map (some be)),(22,[],.map (some bn)),(24,[],af (qtx (pV o))),(26,[],af (qtx (iR o))),(101,[],.slice Al (cD B.col o).length cl),(102,[],.int .i64 (cD B.col o).length),(103,[],.int .i64 j)]/\y=[.obj c (.cells ⟨[w]⟩ 47 (0,0)),.arr w 140 2 (((cD B.col o).take j).flatMap g).length (ay vs (((cD B.col o).take j).flatMap g)).flatten]/\H=(cD B.col o).length-j) (hn_ [14,15,21,22,24,26,101,102,103] Z) ⟨0,[],.slice none 0 0,⟨Pm _,RowsOk.nil _⟩,Z,Z,Z⟩ (fun fr cp cr m a0 I=>?_);obtain ⟨j,vs,w,⟨hj,J⟩,rfl,rfl,rfl⟩:=I;refine SR 1 [14,15,21,22,24,26,101,102,103,104] Z ?_;refine G.cd (fun aM=>?_) fun aM=>?_
  ·have K:j<(cD B.col o).length:=by
    have:=OD aM;omega
   obtain ⟨k,L⟩:∃ k,(cD B.col o)[j]?=some k:=⟨(cD B.col o)[j],ak K⟩;have ad:=aP k (Pe L);have ae:=fI bD ((cD B.col o).take j);rw [Pw] at ae;have aH:=jb g L;refine SX fun R a=>?_;refine Ta ax.m_ U10 om_ (cq L) fl_ (fun cs bN=>?_);refine SU bN U8 ?_;refine C6 1 [14,15,21,22,24,26,29,101,102,103] a Z ?_;clear a R;refine Tk [(5,3)] Z (fun R a=>?_);refine SZ 4 Z ?_;refine Th [[af [49]],[af [45,49]]] U12 (fun ct _ _ bO=>?_);refine D.call (jg _ d.m_ (bs B) (bp B) k be c n (atT t fun j=>(slf B.pts t j).1) (pV o) [1, -1] _ w vs _ T ad (Mem.get N mup) (Mem.get bL mup) bE bG bI bB ((Et bO).mono mup) rk dc_ J.m_ om_) Z (.inr dc_) U6 (Pk _) fl_ (fun cu _ cw _ bQ=>?_);refine SY [14,15,21,22,24,26,29,101,102,103] a Z ?_;clear a R;obtain ⟨aI,w3,rfl,rfl,ah⟩:=bQ;refine Tk [(5,3)] Z (fun R a=>?_);refine SZ 4 Z ?_;refine Th [[af [49]],[af [45,49]]] U12 (fun cy _ _ bR=>?_);refine D.call (jg _ d.m_ (bs B) (bp B) k bn c n (atT t fun j=>(slf B.pts t j).2) (iR o) [1, -1] _ w3 aI _ T ad (Mem.get N mup) (Mem.get bM mup) bF bH bJ bC ((Et bR).mono mup) rk dc_ ah.m_ (by rw [Po,ae];simp;omega)) Z (.inr dc_) U6 (Pk _) fl_ (fun cz _ cA _ bS=>?_);refine SY [14,15,21,22,24,26,101,102,103] a Z ?_;clear a R;refine SX fun R a=>?_;refine S2 _ Z U6 ?_;refine C6 1 [14,15,21,22,24,26,101,102,103] a Z ?_;clear a R;obtain ⟨bT,w4,rfl,rfl,a2⟩:=bS;rw [show ((cD B.col o).take j).flatMap g++([1, -1]:List Rat).map (gE (bs B) (bp B) k (atT t fun j=>(slf B.pts t j).1) (pV o))++([1, -1]:List Rat).map (gE (bs B) (bp B) k (atT t fun j=>(slf B.pts t j).2) (iR o))=((cD B.col o).take (j+1)).flatMap g by rw [aH,<- aK,PR]] at a2 ⊢;refine S6 (m':=(cD B.col o).length-(j+1)) om_ mup (hn_ [14,15,21,22,24,26,101,102,103] Z) ⟨j+1,bT,w4,⟨by omega,a2⟩,Z,Z,Z⟩
  have K:j=(cD B.col o).length:=by
   have:=Pj aM;omega
  rw [K,Pv,<- A] at J ⊢;refine S9 0 mup (hn_ [14] Z) ⟨vs,w,J.mono mup,Z,Z⟩
 obtain ⟨vs ,w,a3,rfl,rfl⟩:=I;refine G.freezeArr 1 (ay vs (rowsO B o p t z)) U2 (bP _ _) (bA a3.1) (fun Cr cB bU=>?_);have a4:RowsIn Cr w (rowsO B o p t z):=⟨vs,a3.mono mup,bU⟩;refine SX fun R a=>?_;refine S1 ag U9 ?_;refine Tb (Dq _ d.m_ w (rowsO B o p t z) a4.m_ b.rows (fun r hr=>by rw [Am r hr];omega) (Py (vO (by unfold bs at a8;omega)) dc_)) U7 fl_ ?_;refine C6 4 [6,7] a Z ?_;clear a R;refine S7 (G.dropAll (Tp U3 ?_));exact ⟨Z,w,Z,a4.mono mup⟩
structure Rich (B:Bk)(fs:List Rat)(RO:Nat->List RowQ):Prop where
 good:Good B.pts B.tris
 br:BookR B
 bz:ip B=0
 terr:Terr B fs
 h60:bs B*bp B<=60
 fine:∀ i o,B.obs[i]?=some o->∃ p ti t z,Fine B fs o p ti t z/\RO i=rowsO B o p t z
theorem lV (h:ip B=0):qX B.col=0:=by
 unfold ip at h;split at h
 ·rename_i h1;exact absurd h h1
 split at h
 ·rename_i h1;exact absurd h h1
 rename_i h1;exact PO h1
theorem uy {l:List Lay}(h:qX l=0):l≠[]/\l.length<=60:=by
 unfold qX at h;split at h
 ·exact absurd h dc_
 rename_i h0;split at h
 ·exact absurd h dc_
 exact ⟨h0,by omega⟩
theorem Rich.bookz {a:Value}{d:Nat->List RowQ}(h:Rich B fs d)(e:Tabs C)(b:BookIn C a B):BookZ C a B 0 :=
 ⟨b,fun D c=>by have h2:=qm D (e.mono c) a B (b.mono c) h.good h.br;rwa [h.bz] at h2,fun _=>(uy (lV h.bz)).1,Py (uy (lV h.bz)).2 dc_,h.good.ok.lp⟩
theorem Rich.scol {a:Nat->List RowQ}(h:Rich B fs a):bs B+1=B.col.length/\B.col.length<=60:=by
 obtain ⟨h1,h2⟩:=uy (lV h.bz);have:=P4.2 h1;unfold bs;omega
theorem OU (C:Mem)(f:Tabs C)(b:Value)(B:Bk)(c:List Rat)(d:Nat->List RowQ)(i:Nat)(g:BookIn C b B)(a:Rich B c d)(j:i<B.obs.length) :
  Pur cx.P 183 [gk (bs B) (bp B),b,.int .i64 i] C fun u D=>∃ v,u=.tuple #[v,.int .i64 0]/\RowsIn D v (d i):=by
 have e:B.obs[i]?=some B.obs[i]:=ak j;obtain ⟨p,k,t,z,l,m⟩:=a.fine i _ e;have h:=Lj C f b B c i _ p k t z g a.good a.br a.bz a.terr e l a.h60 (lV a.bz) a.scol.1 a.scol.2
 rwa [<- m] at h
theorem oQ {a:Nat->List RowQ}(b:Rich B fs a)(c:i<B.obs.length):(a i).length<=240/\∀ r∈a i,r.f.length=bs B*bp B:=by
 have d:B.obs[i]?=some B.obs[i]:=ak c;obtain ⟨p,h,t,z,j,e⟩:=b.fine i _ d;have g:(cD B.col B.obs[i]).length<=60:=by
  unfold cD vx;refine Py (QQ _ _) ?_;rw [Qr];have:=b.scol.2;omega
 rw [e];exact ⟨vO g,Am⟩
def bI (B:Bk):List RowQ:=ba (bs B) (bp B) B.col (B.col.length-2)
theorem Ca {b:Nat->List RowQ}(a:Rich B fs b):(bI B).length<=120:=by
 have h:=jp (bs B) (bp B) B.col (B.col.length-2);have h1:=a.scol.1;have h2:(B.col.length-2)*bp B<=bs B*bp B:=P7 _ om_;have h3:=a.h60;unfold bI;omega
structure SrcQ where
 n:Int
 r:RowQ
def bT (vs:List Value)(l:List SrcQ):List (List Value):=List.zipWith (fun w (s:SrcQ)=>[.int .i64 s.n,w,af (qtx s.r.b)]) vs l
def SrcsOk (C:Mem)(vs:List Value)(l:List SrcQ):Prop:=RowsOk C vs (l.map SrcQ.r)
def BO (C:Mem)(v:Value)(l:List SrcQ):Prop:=∃ vs,SrcsOk C vs l/\Sl C 3 v (bT vs l)
theorem SrcsOk.mono {C D:Mem}{a:List Value}{l:List SrcQ}(h:SrcsOk C a l)(b:C.le D):SrcsOk D a l:=RowsOk.mono h b
theorem SrcsOk.m_ {D:Mem}{l:List SrcQ}(h:SrcsOk C vs l)(a:C.le D:=by exact mup):SrcsOk D vs l:=SrcsOk.mono h a
theorem SrcsOk.snoc {C:Mem}{a:List Value}{l:List SrcQ}{v:Value}{s:SrcQ}(h:SrcsOk C a l)(b:Sl C 1 v (s.r.f.map eD)):SrcsOk C (a++[v]) (l++[s]):=by
 unfold SrcsOk at h ⊢;rw [PM];exact RowsOk.snoc h b
theorem jr {l:List SrcQ}(h:SrcsOk C vs l):vs.length=l.length:=by have:=h.1;simpa using this
theorem lf {l:List SrcQ}(h:vs.length=l.length)(v:Value)(s:SrcQ):bT (vs++[v]) (l++[s])=bT vs l++[[.int .i64 s.n,v,af (qtx s.r.b)]]:=by
 unfold bT;rw [List.zipWith_append h];rfl
theorem mW {l:List SrcQ}(h:vs.length=l.length):(bT vs l).length=l.length:=by simp [bT,h]
theorem qK (b:List Value)(l:List SrcQ):∀ r∈bT b l,r.length=3:=by
 intro r hr;unfold bT at hr;obtain ⟨i,a⟩:=Q6 hr;rw [List.getElem?_zipWith] at a;cases h1:b[i]? <;> cases h2:l[i]? <;> rw [h1,h2] at a <;> simp at a
 subst a;rfl
def kp (n:Int)(l:List RowQ):List SrcQ:=l.map fun r=>⟨n,r⟩
def bQ (T:List RowQ)(RO:Nat->List RowQ)(l:List Nat):List SrcQ:=kp (-1) T++l.flatMap fun i=>kp (i:Nat) (RO i)
theorem ld {n:Int}{l:List RowQ}{r:RowQ}(h:l[i]?=some r):kp n (l.take (i+1))=kp n (l.take i)++[⟨n,r⟩]:=by
 unfold kp;rw [PN,h,PM];rfl
theorem xe {T:List RowQ}{RO:Nat->List RowQ}:∀ {l:List Nat},(∀ i∈l,(RO i).length<=240)->l.length<=100->T.length<=120->(bQ T RO l).length<=120+240*l.length:=by
 intro l h e hT;unfold bQ;rw [Po];have b:∀ l:List Nat,(∀ i∈l,(RO i).length<=240)->(l.flatMap fun i=>kp (i:Nat) (RO i)).length<=240*l.length:=by
  intro l;induction l with
  | nil=>intro _;simp
  | cons a l c =>
   intro h;have h1:=h a Ph;have h2:=c fun i d=>h i (Pr _ d);rw [List.flatMap_cons,Po,Pz];have:(kp (a:Nat) (RO a)).length=(RO a).length:=by simp [kp]
   omega
 have h1:=b l h;have:(kp (-1) T).length=T.length:=by simp [kp]
 omega
theorem GY (C:Mem)(hT:Tabs C)(bv lv:Value)(B:Bk)(fs:List Rat)(c:Nat->List RowQ)(l:List Nat)(hB:BookIn C bv B)(o:Rich B fs c)(M:Sl C 1 lv (l.map aT))(ad:∀ i∈l,i<B.obs.length)(aO:l.length<=100)(aP:(bQ (bI B) c l).length<=300) :
  Pur cx.P 114 [gk (bs B) (bp B),bv,lv] C fun u D=>∃ v,u=.tuple #[v,.int .i64 0]/\BO D v (bQ (bI B) c l):=by
 have ax:=hB;have ay:=Ca o;obtain ⟨v1,v2,tv,cv,ov,rfl,h1,h2,h3,h4,h5⟩:=id hB.ex;obtain ⟨N,O,rfl,az,aQ,_⟩:=id M;have aR:maxLen<=9223372036854775807:=by simp [maxLen]
 simp only [al] at M az ⊢;have aA:=fun m:List Nat=>fun hm:∀ i∈m,i<B.obs.length=>fun aB:m.length<=100=>xe (T:=bI B) (RO:=c) (l:=m) (fun i F=>(oQ o (hm i F)).1) aB ay;refine S4 func114 66 U3 fun w0=>SX fun R d=>Tf U6 fun Q=>Tf U6 fun S=>C6 2 [2,3,4] d Z<|G.freeze 1 Z fun _ _ ae=>G.freeze 0 Z fun _ _ ah=>SR 1 [2,3,4,8] Z<|SX fun R d=>SU (bkT ae 2) U8<|SV U6<|SU (bkT ah 1) U8<|Tv (vo _ hT.m_ _ (bs B) (bp B) B.col h4.m_ o.scol.1 o.h60 o.br.col) U7 (fun aS _ _ aC=>?_);obtain ⟨ai,U,H⟩:=aC;rw [show ba (bs B) (bp B) B.col (B.col.length-2)=bI B from rfl] at U H;have aj:=U.1;obtain ⟨At,ct,rfl,aD,aU,_⟩:=id H;simp only [bA aj] at H aD ⊢;refine C6 2 [2,3,4,8,20,21,22] d Z<|G.nilArr 142 3<|G.loop (fun fr x e y=>∃ (i:Nat)(vs:List Value)(w:Value),(i<=(bI B).length/\SrcsOk x vs (kp (-1) ((bI B).take i)))/\fr=[(2,[],.slice N l.length O),(3,[],.pointer (some ⟨Q,0,none⟩)),(4,[],.pointer (some ⟨S,0,none⟩)),(8,[],w),(20,[],.slice At (bI B).length ct),(21,[],.int .i64 (bI B).length),(22,[],.int .i64 i)]/\e=[.arr w 142 3 (kp (-1) ((bI B).take i)).length (bT vs (kp (-1) ((bI B).take i))).flatten]/\y=(bI B).length-i) (hn_ [2,3,4,8,20,21,22] Z) ⟨0,[],_,⟨Pm _,RowsOk.nil _⟩,Z,Z,Z⟩ (fun fr aV aW m _ z=>?_);obtain ⟨i,vs,w,⟨F,I⟩,rfl,rfl,rfl⟩:=z;refine SR 1 [2,3,4,8,20,21,22,23] Z<|G.cd (fun V=>?_) fun V=>?_
 ·have J:i<(bI B).length:=by
   have:=OD V;omega
  obtain ⟨r,g⟩:∃ r,(bI B)[i]?=some r:=⟨(bI B)[i],ak J⟩;obtain ⟨p,q⟩:∃ p,ai[i]?=some p:=⟨ai[i]'(by rw [aj];exact J),ak _⟩;have t:=U.2 i p r q g;obtain ⟨h,n,rfl,_⟩:=id t;simp only [al] at t q;have aE:(kp (-1) ((bI B).take i)).length=i:=by simp [kp];omega
  refine SX fun R d=>Ta H.m_ U10 om_ (kw q g) fl_ fun aX aF=>SU aF U8<|Te U5 fun aZ=>S5 (j:=0) U12<|SY [2,3,4,8,10,20,21,22] d Z<|SS 1 Z fun R d=>S1 ag U9<|Td [.int .i64 (-1),.slice h r.f.length n,af (qtx r.b)] U8<|Th [[.int .i64 (-1),.slice h r.f.length n,af (qtx r.b)]] U12 fun a0 _ _ aG=>D.append (j:=1) U11 aG Z aw (by simp only [aY];omega) fl_ fun am=>C6 1 [2,3,4,8,20,21,22] d Z<|SX fun R d=>S2 _ Z U6<|C6 1 [2,3,4,8,20,21,22] d Z ?_;have A:=SrcsOk.snoc (s:=⟨-1,r⟩) I.m_ t.m_;rw [<- ld g] at A;refine TC 1 Z<|Tc (L':=[.arr am 142 3 (kp (-1) ((bI B).take (i+1))).length (bT (vs++[.slice h r.f.length n]) (kp (-1) ((bI B).take (i+1)))).flatten]) (by rw [ld g,lf (jr I)];simp)<|S6 (m':=(bI B).length-(i+1)) om_ mup (hn_ [2,3,4,8,20,21,22] Z) ⟨i+1,vs++[.slice h r.f.length n],am,⟨by omega,A.mono mup⟩,Z,Z,Z⟩
 have J:i=(bI B).length:=by
  have:=Pj V;omega
 rw [J,Pv] at I ⊢;refine SR 3 [3,4,8,32,33,34] Z<|Tc (L':=[.arr w 142 3 (bQ (bI B) c (l.take 0)).length (bT vs (bQ (bI B) c (l.take 0))).flatten]) (by simp [bQ])<|G.loop (fun fr x e y=>∃ (j:Nat)(vs:List Value)(w:Value),(j<=l.length/\SrcsOk x vs (bQ (bI B) c (l.take j)))/\fr=[(3,[],.pointer (some ⟨Q,0,none⟩)),(4,[],.pointer (some ⟨S,0,none⟩)),(8,[],w),(32,[],.slice N l.length O),(33,[],.int .i64 l.length),(34,[],.int .i64 j)]/\e=[.arr w 142 3 (bQ (bI B) c (l.take j)).length (bT vs (bQ (bI B) c (l.take j))).flatten]/\y=l.length-j) (hn_ [3,4,8,32,33,34] Z) ⟨0,vs,w,⟨Pm _,by simpa [bQ] using I⟩,Z,Z,Z⟩ (fun fr a1 a2 m _ z=>?_);obtain ⟨j,vs,w,⟨hj,E⟩,rfl,rfl,rfl⟩:=z;refine SR 1 [3,4,8,32,33,34,35] Z<|G.cd (fun W=>?_) fun W=>?_
 ·have X:j<l.length:=by
   have:=OD W;omega
  obtain ⟨a,Y⟩:∃ a,l[j]?=some a:=⟨l[j],ak X⟩;have an:=ad a (Pe Y);have aH:=aA (l.take j) (fun i F=>ad i (Qy F)) (by rw [Pw];omega);rw [Pw] at aH;have aI:bQ (bI B) c (l.take (j+1))=bQ (bI B) c (l.take j)++kp (a:Nat) (c a):=by
   unfold bQ;rw [jb _ Y,PR]
  have a3:=(oQ o an).1;refine SX fun R d=>Ta M.m_ U10 om_ (cq Y) fl_ fun a4 aJ=>SU aJ U8<|C6 1 [3,4,8,12,32,33,34] d Z<|SX fun R d=>SU (bkT ae 2) U8<|SU (bkT ah 5) U8<|SV U6<|Tv (OU _ hT.m_ _ B fs c a ax.m_ o an) U7 (fun a5 _ _ aK=>?_);obtain ⟨rv,rfl,ao,ap,aa⟩:=aK;have aq:=ap.1;obtain ⟨Ar,cr,rfl,aL,a6,_⟩:=id aa;simp only [bA aq] at aa aL ⊢;refine C6 5 [3,4,8,12,13,14,32,33,34] d Z<|SR 2 [3,4,8,12,13,14,32,33,34,46] Z<|G.cd (fun ar=>?_) fun ar=>?_
  ·exact absurd ar dc_
  refine SR 3 [3,4,8,12,32,33,34,48,49,50] Z<|Tc (L':=[.arr w 142 3 (bQ (bI B) c (l.take j)++kp (a:Nat) ((c a).take 0)).length (bT vs (bQ (bI B) c (l.take j)++kp (a:Nat) ((c a).take 0))).flatten]) (by simp [kp])<|G.loop (fun fr x e y=>∃ (k:Nat)(vs:List Value)(w:Value),(k<=(c a).length/\SrcsOk x vs (bQ (bI B) c (l.take j)++kp (a:Nat) ((c a).take k)))/\fr=[(3,[],.pointer (some ⟨Q,0,none⟩)),(4,[],.pointer (some ⟨S,0,none⟩)),(8,[],w),(12,[],.int .i64 a),(32,[],.slice N l.length O),(33,[],.int .i64 l.length),(34,[],.int .i64 j),(48,[],.slice Ar (c a).length cr),(49,[],.int .i64 (c a).length),(50,[],.int .i64 k)]/\e=[.arr w 142 3 (bQ (bI B) c (l.take j)++kp (a:Nat) ((c a).take k)).length (bT vs (bQ (bI B) c (l.take j)++kp (a:Nat) ((c a).take k))).flatten]/\y=(c a).length-k) (hn_ [3,4,8,12,32,33,34,48,49,50] Z) ⟨0,vs,w,⟨Pm _,by rw [show kp (a:Nat) ((c a).take 0)=[] from Z,PF];exact E.mono mup⟩,Z,Z,Z⟩ (fun fr a7 a8 m _ z=>?_);obtain ⟨k,vs,w,⟨hk,K⟩,rfl,rfl,rfl⟩:=z;refine SR 1 [3,4,8,12,32,33,34,48,49,50,51] Z<|G.cd (fun ab=>?_) fun ab=>?_
  ·have L:k<(c a).length:=by
    have:=OD ab;omega
   obtain ⟨r,g⟩:∃ r,(c a)[k]?=some r:=⟨(c a)[k],ak L⟩;obtain ⟨p,q⟩:∃ p,ao[k]?=some p:=⟨ao[k]'(by rw [aq];exact L),ak _⟩;have t:=ap.2 k p r q g;obtain ⟨h,n,rfl,_⟩:=id t;simp only [al] at t q;have aE:(kp (a:Nat) ((c a).take k)).length<=240:=by simp [kp];omega
   have a9:(bQ (bI B) c (l.take j)++kp (a:Nat) ((c a).take k)).length<=100000:=by rw [Po];omega
   refine SX fun R d=>Ta aa.m_ U10 om_ (kw q g) fl_ fun bb aM=>SU aM U8<|Te U5 fun bc=>S5 (j:=0) U12<|SY [3,4,8,12,16,32,33,34,48,49,50] d Z<|SS 2 Z fun R d=>S1 ag U9<|Td [.int .i64 (a:Nat),.slice h r.f.length n,af (qtx r.b)] U8<|Th [[.int .i64 (a:Nat),.slice h r.f.length n,af (qtx r.b)]] U12 fun bd _ _ aN=>D.append (j:=1) U11 aN Z aw (by simp only [aY];omega) fl_ fun au=>C6 1 [3,4,8,12,32,33,34,48,49,50] d Z<|SX fun R d=>S2 _ Z U6<|C6 1 [3,4,8,12,32,33,34,48,49,50] d Z ?_;have A:=SrcsOk.snoc (s:=⟨(a:Nat),r⟩) K.m_ t.m_;rw [PR,<- ld g] at A;refine TC 1 Z<|Tc (L':=[.arr au 142 3 (bQ (bI B) c (l.take j)++kp (a:Nat) ((c a).take (k+1))).length (bT (vs++[.slice h r.f.length n]) (bQ (bI B) c (l.take j)++kp (a:Nat) ((c a).take (k+1)))).flatten]) (by rw [ld g,<- PR,lf (jr K)];simp;omega)<|S6 (m':=(c a).length-(k+1)) om_ mup (hn_ [3,4,8,12,32,33,34,48,49,50] Z) ⟨k+1,vs++[.slice h r.f.length n],au,⟨by omega,A.mono mup⟩,Z,Z,Z⟩
  have L:k=(c a).length:=by
   have:=Pj ab;omega
  rw [L,Pv,<- aI] at K ⊢;refine SX fun R d=>S2 _ Z U6<|C6 1 [3,4,8,32,33,34] d Z<|S6 (m':=l.length-(j+1)) om_ mup (hn_ [3,4,8,32,33,34] Z) ⟨j+1,vs,w,⟨by omega,K⟩,Z,Z,Z⟩
 have X:j=l.length:=by
  have:=Pj W;omega
 rw [X,Pv] at E ⊢;refine G.freezeArr 0 (bT vs (bQ (bI B) c l)) U2 (qK _ _) (mW (jr E)) (fun Cg hg ac=>?_);obtain ⟨Ag,cg,rfl,_⟩:=id ac;rw [mW (jr E)] at ac ⊢;refine SR 3 [8,64] Z<|G.cd (fun av=>?_) fun av=>?_
 ·exfalso;have:=OD av;omega
 refine SR 3 [6,7] Z<|S7 (G.dropAll (Tp U3 ?_));exact ⟨Z,_,Z,vs,E.mono mup,ac.mono mup⟩
theorem KK (C:Mem)(g:Tabs C)(h:Value)(B:Bk)(k:List Rat)(b:Nat->List RowQ)(c:BookIn C h B)(d:Rich B k b)(x:B.obs.length<=100)(z:(bQ (bI B) b (List.range B.obs.length)).length<=300) :
  Pur cx.P 54 [h] C fun u D=>∃ v,u=.tuple #[v,.int .i64 0]/\BO D v (bQ (bI B) b (List.range B.obs.length)):=by
 have l:=c;have n:=d.bookz g c;obtain ⟨Q,S,T,U,V,rfl,h1,h2,h3,h4,h5⟩:=id c.ex;obtain ⟨W,X,rfl,A,Y,_⟩:=id h5;have aa:maxLen<=9223372036854775807:=by simp [maxLen]
 simp only [al] at h5 A l n ⊢;refine S4 func54 33 U3 fun w0=>SX fun R a=>Tf U6 fun E=>C6 2 [1] a Z<|G.freeze 0 Z fun _ _ e=>SX fun R a=>SU (bkT e 5) U8<|S8 (NW _ _ B n.m_ d.h60) U7<|SZ 3 Z<|Te U5 fun F=>S5 (j:=0) U12<|C6 1 [1,4,5] a Z<|SR 2 [1,4,5,14] Z<|G.cd (fun o=>?_) fun o=>?_
 ·exact absurd o dc_
 refine SR 1 [1,4,6] Z<|SS 1 Z fun R a=>SU (bkT e 1) U8<|C6 2 [1,4,6,18,19] a Z<|G.freeze 0 Z fun _ _ H=>G.nilArr 3 1<|G.loop (fun fr C' p I=>∃ (i:Nat)(w:Value),(i<=B.obs.length)/\fr=[(1,[],.pointer (some ⟨E,0,none⟩)),(4,[],.pointer (some ⟨F,0,none⟩)),(6,[],w),(18,[],.int .i64 B.obs.length),(19,[],.int .i64 i)]/\p=[.arr w 3 1 (List.range i).length ((List.range i).map aT).flatten]/\I=B.obs.length-i) (hn_ [1,4,6,18,19] Z) ⟨0,_,Pm _,Z,Z,Z⟩ (fun fr ab ac m _ J=>?_);obtain ⟨i,w,q,rfl,rfl,rfl⟩:=J;refine SR 1 [1,4,6,18,19,20] Z<|G.cd (fun f=>?_) fun f=>?_
 ·have s:i<B.obs.length:=by
   have:=OD f;omega
  have ad:(List.range i).length<=100:=by simp;omega
  refine SR 2 [1,4,6,7,18,19] Z<|SS 2 Z fun R a=>Th [aT i] U12 fun ae _ _ K=>D.append (j:=0) U11 K Z aw (by simp only [aY];omega) fl_ fun t=>C6 1 [1,4,6,18,19] a Z<|SX fun R a=>S2 _ Z U6<|C6 1 [1,4,6,18,19] a Z<|Tc (L':=[.arr t 3 1 (List.range (i+1)).length ((List.range (i+1)).map aT).flatten]) (by rw [Qp];simp [aT])<|S6 (m':=B.obs.length-(i+1)) om_ mup (hn_ [1,4,6,18,19] Z) ⟨i+1,t,om_,Z,Z,Z⟩
 have s:i=B.obs.length:=by
  have:=Pj f;omega
 subst s;refine G.freezeArr 0 ((List.range B.obs.length).map aT) U2 (by intro r hr;obtain ⟨y,_,rfl⟩:=Pn.1 hr;rfl) am fun Cg hg L=>SX fun R a=>SU (bkT H 2) U8<|SU (bkT e 5) U8<|SV U6<|To (GY _ g.m_ _ _ B k b (List.range B.obs.length) l.m_ d L.m_ (fun i q=>PC.1 q) (by simpa using x) z) U7 fl_ (fun af _ _ M=>?_);obtain ⟨N,rfl,O⟩:=M;refine C6 4 [2,3] a Z<|S7 (G.dropAll (Tp U3 ?_));exact ⟨Z,N,Z,O⟩
end Go.Proofs.YtfjcldheldflbaaGreatDoor
