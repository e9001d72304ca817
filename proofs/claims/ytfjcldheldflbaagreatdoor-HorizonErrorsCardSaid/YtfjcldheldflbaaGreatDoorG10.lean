/- Laws that the proofs of this seat share, part 10. -/
import Derived.Test.YtfjcldheldflbaaGreatDoorG9
import Derived.Test.YtfjcldheldflbaaGreatDoorShelf
set_option maxHeartbeats 4000000
namespace Go.Proofs.YtfjcldheldflbaaGreatDoor
open Go.Proofs.Tryz
open Go Go.Jog
set_option maxRecDepth 100000
variable {B:Bk}{C:Mem}{a b:Nat}{fs:List Rat}{i k n:Nat}{o:Obs}{p:Pt}{t:Tri}{v:Value}{vs:List Value}{z:Rat}
structure RowQ where
 f:List Rat
 b:Rat
def aE (vs:List Value)(rows:List RowQ):List (List Value):=List.zipWith (fun w (r:RowQ)=>[w,ah (qtx r.b)]) vs rows
def RowsOk (C:Mem)(vs:List Value)(rows:List RowQ):Prop:=vs.length=rows.length/\∀ (i:Nat)(w:Value)(r:RowQ),vs[i]?=some w->rows[i]?=some r->Sl C 1 w (r.f.map eh)
theorem RowsOk.mono {C D:Mem}{a:List Value}{b:List RowQ}(h:RowsOk C a b)(c:C.le D):RowsOk D a b:=⟨h.1,fun i w r h1 h2=>(h.2 i w r h1 h2).mono c⟩
theorem RowsOk.m_ {D:Mem}{a:List RowQ}(h:RowsOk C vs a)(b:C.le D:=by exact mup):RowsOk D vs a:=RowsOk.mono h b
theorem RowsOk.nil (C:Mem):RowsOk C [] []:=⟨rfl,fun i w r h1 _=>by simp at h1⟩
theorem RowsOk.snoc {a:List RowQ}{r:RowQ}(h:RowsOk C vs a)(c:Sl C 1 v (r.f.map eh)):RowsOk C (vs++[v]) (a++[r]):=by
 have h0:=h.1;refine ⟨by simp [h0],fun j w r' h1 h2=>?_⟩;rcases P4 j vs.length with d | e
 ·rw [Qh d] at h1;rw [Qh om_] at h2;exact h.2 j w r' h1 h2
 rw [PX e] at h1;rw [PX om_,<- h0] at h2;cases b:j-vs.length with
 | zero=>rw [b] at h1 h2;simp at h1 h2;subst h1;subst h2;exact c
 | succ q=>rw [b] at h1;simp at h1
theorem eB {a:List RowQ}(h:vs.length=a.length)(v:Value)(r:RowQ):aE (vs++[v]) (a++[r])=aE vs a++[[v,ah (qtx r.b)]]:=by
 unfold aE;rw [List.zipWith_append h];rfl
theorem bN {a:List RowQ}(h:vs.length=a.length):(aE vs a).length=a.length:=by simp [aE,h]
theorem bX (b:List Value)(c:List RowQ):∀ r∈aE b c,r.length=2:=by
 intro r hr;unfold aE at hr;obtain ⟨i,a⟩:=Rr hr;rw [List.getElem?_zipWith] at a;cases h1:b[i]? <;> cases h2:c[i]? <;> rw [h1,h2] at a <;> simp at a
 subst a;rfl
def RowsIn (C:Mem)(v:Value)(rows:List RowQ):Prop:=∃ vs:List Value,RowsOk C vs rows/\Sl C 2 v (aE vs rows)
theorem RowsIn.mono {C D:Mem}{v:Value}{a:List RowQ}(h:RowsIn C v a)(b:C.le D):RowsIn D v a:=by
 obtain ⟨vs,h1,h2⟩:=h;exact ⟨vs,h1.mono b,h2.mono b⟩
theorem RowsIn.m_ {D:Mem}{a:List RowQ}(h:RowsIn C v a)(b:C.le D:=by exact mup):RowsIn D v a:=RowsIn.mono h b
def rR (s p:Nat)(x:Lay)(i k:Nat):RowQ:=⟨uQ (s*p) [(i*p+k, -1),((i-1)*p+k,1)], -x.min⟩
def FX (s p:Nat)(m:Rat)(i k:Nat):RowQ:=⟨uQ (s*p) [(i*p+k,1),((i-1)*p+k, -1)],m⟩
def ni (s p:Nat)(x:Lay)(i k:Nat):List RowQ :=
 rR s p x i k::(match x.max with
  | none=>[]
  | some m=>[FX s p m i k])
def bq (s p:Nat)(x:Lay)(i:Nat):Nat->List RowQ
 | 0=>[]
 | k+1=>bq s p x i k++ni s p x i k
def bi (s p:Nat)(col:List Lay):Nat->List RowQ
 | 0=>[]
 | n+1=>bi s p col n++bq s p (col.getD (n+1) ⟨[],0,none⟩) (n+1) p
theorem mq (s p:Nat)(x:Lay)(i:Nat):∀ k,(bq s p x i k).length<=2*k
 | 0=>Py _
 | k+1=>by
  have:=mq s p x i k;have h2:(ni s p x i k).length<=2:=by unfold ni;split <;> simp
  simp only [bq,PH];omega
theorem mm (s p:Nat)(a:List Lay):∀ n,(bi s p a n).length<=2*(n*p)
 | 0=>by simp [bi]
 | n+1=>by
  have:=mm s p a n;have h2:=mq s p (a.getD (n+1) ⟨[],0,none⟩) (n+1) p;simp only [bi,PH,Nat.succ_mul];omega
theorem cG:qtx (-1)=[45,49]:=by
 rw [gc (q:=1) dc_ dc_,dG]
theorem st2 (c d:Rat)(e:a<n)(f:b<n):aD (aD (List.replicate n (ah [48])) [ah (qtx c)] a) [ah (qtx d)] b=kK n [(b,d),(a,c)]:=by
 rw [lN,ft _ _ e,ft _ _ f]
theorem OK (c d:Rat)(e:a<n)(f:b<n)(g:a≠b):aD (aD (List.replicate n (ah [48])) [ah (qtx d)] b) [ah (qtx c)] a=kK n [(b,d),(a,c)]:=by
 rw [st2 d c f e];unfold kK;rw [vJ (List.Perm.swap _ _ _) (by simp;exact g)]
theorem je (n:Nat)(d:List (Nat × Rat)):kK n d=((uQ n d).map eh).flatten:=(ef (fun q=>ah (qtx q)) _).symm
theorem jv (n:Nat)(d:List (Nat × Rat)):(uQ n d).length=n:=by simp [uQ]
theorem vk (C:Mem)(_aM:Tabs C)(v:Value)(s p:Nat)(c:List Lay)(J:Sl C 3 v (c.map lQ))(hs:s+1=c.length)(aN:s*p<=60)(an:∀ x∈c,Nf x) :
  Pur cx.P 182 [fT s p,v] C fun u D=>RowsIn D u (bi s p c (c.length-2)):=by
 obtain ⟨H,c0,rfl,ao,aO,_⟩:=id J;have aP:maxLen<=9223372036854775807:=by simp [maxLen]
 simp only [am] at J ao ⊢;refine Tk func182 81 U3 fun w0=>Tf fun R d=>Tv U6 fun b2=>C6 1 [1,2] d Z<|G.freeze 0 Z fun _ _ K=>Tb 1 [1,2,5] Z<|Tb 1 [1,2,5,6] Z<|G.nilArr 140 2<|G.loop (fun fr F f t=>∃ (i:Nat)(vs:List Value)(w:Value),(1<=i/\(i+1<=c.length∨i=1)/\RowsOk F vs (bi s p c (i-1)))/\fr=[(1,[],.slice H c.length c0),(2,[],.pointer (some ⟨b2,0,none⟩)),(5,[],w),(6,[],.int .i64 i)]/\f=[.arr w 140 2 (bi s p c (i-1)).length (aE vs (bi s p c (i-1))).flatten]/\t=c.length-i) (hn_ [1,2,5,6] Z) ⟨1,[],_,⟨Py _,.inr Z,RowsOk.nil _⟩,Z,Z,Z⟩ (fun fr aQ aR m _ z=>?_);obtain ⟨i,vs,w,⟨aS,aT,O⟩,rfl,rfl,rfl⟩:=z;refine Tc 1 Z fun R d=>Tm _ U7<|C6 3 [1,2,5,6,15] d Z<|G.cd (fun W=>?_) fun W=>?_
 ·have ac:i+1<c.length:=by
   have:=OQ W;omega
  obtain ⟨x,L⟩:∃ x,c[i]?=some x:=⟨c[i]'om_,al om_⟩;obtain ⟨M,aU,aV⟩:=an x (Px L);have aW:=mm s p c (i-1);refine Tc 1 Z fun R d=>Td (bkT K 1) U8<|C6 1 [1,2,5,6,19,20] d Z<|Tu (L':=[.arr w 140 2 (bi s p c (i-1)++bq s p x i 0).length (aE vs (bi s p c (i-1)++bq s p x i 0)).flatten]) (by simp [bq])<|G.loop (fun fr F f t=>∃ (k:Nat)(g:List Value)(o:Value),(k<=p/\RowsOk F g (bi s p c (i-1)++bq s p x i k))/\fr=[(1,[],.slice H c.length c0),(2,[],.pointer (some ⟨b2,0,none⟩)),(5,[],o),(6,[],.int .i64 i),(19,[],.int .i64 p),(20,[],.int .i64 k)]/\f=[.arr o 140 2 (bi s p c (i-1)++bq s p x i k).length (aE g (bi s p c (i-1)++bq s p x i k)).flatten]/\t=p-k) (hn_ [1,2,5,6,19,20] Z) ⟨0,vs,w,⟨PG _,by simpa [bq] using O⟩,Z,Z,Z⟩ (fun fr aX aY m _ z=>?_);obtain ⟨k,g,o,⟨hk,X⟩,rfl,rfl,rfl⟩:=z;refine Tb 1 [1,2,5,6,19,20,21] Z<|G.cd (fun Y=>?_) fun Y=>?_
  ·have ad:k<p:=by simpa using Y
   have aZ:i*p+p<=s*p:=by
    rw [<- Nat.succ_mul];exact Qp _ om_
   have a0:(i-1)*p+p=i*p:=by
    rw [<- Nat.succ_mul,show (i-1).succ=i by omega]
   have a1:=mq s p x i k;have a2:(i-1)*p<=60:=by omega
   have ae:(bi s p c (i-1)++bq s p x i k).length<=400:=by
    rw [PH];omega
   refine Tb 2 [1,2,5,6,7,19,20] Z<|Tx [0,1,2,3,4,5,6,7,8,9,10] [(4,1),(8,1)] Z kr_ fun R Q d=>Td (bkT K 2) U8<|Te U6<|TL (((i-1:Nat):Int)) U4 om_ om_ om_ U2<|Te U6<|TA (fun _=>(xY _ s p (i-1) k om_)) U9<|Td (bkT K 2) U8<|Tg 2 Z<|TA (fun _=>(xY _ s p i k om_)) U9<|C6 2 [1,2,5,6,8,9,19,20] d Z<|G.cut (fun fr F f t=>∃ (bz e:Nat),(True)/\fr=[(1,[],.slice H c.length c0),(2,[],.pointer (some ⟨b2,0,none⟩)),(5,[],o),(6,[],.int .i64 i),(8,[],.int .i64 ((((i-1)*p+k:Nat)):Int)),(9,[],.int .i64 (((i*p+k:Nat)):Int)),(10,[],.pointer (some ⟨e,0,none⟩)),(19,[],.int .i64 p),(20,[],.int .i64 k)]/\f=[.arr (.slice (some ⟨bz,0,none⟩) (s*p) (s*p)) 32 1 (s*p) (List.replicate (s*p) (ah [48])),.obj e (.cells ⟨[.slice (some ⟨bz,0,none⟩) (s*p) (s*p),ah (qtx (-x.min))]⟩ 140 (0,0)),.arr o 140 2 (bi s p c (i-1)++bq s p x i k).length (aE g (bi s p c (i-1)++bq s p x i k)).flatten]) ?_ (fun fr a3 a4 t a5 z=>?_)
   ·refine TX (.cut [0,2,3,4,5] (.alt 1 (.fin [6,7,8,9,10]) (.alt 6 (.cut [] (.alt 1 (.fin [7,8,9,10]) (.alt 9 (.fin [1,7,8,10]) .stop))) (.alt 9 (.cut [] (.alt 1 (.fin [6,7,8,10]) (.alt 6 (.fin [1,7,8,10]) .stop))) .stop)))) [(7,1),(1,3)] U2 kr_ fun R Q d B=>Td (bkT K 2) U8<|Tg 2 Z<|Tt J.m_ U10 om_ (bW L) fl_ fun a6 ap=>UA ap U10 fl_ fun a7 S=>TP B Z ⟨?_, ?_, ?_,trivial⟩
    ·refine D.call (fR _ s p om_) Z (.inr dc_) U6 (PC _) fl_ fun T U V _ E=>Td S.m_ U8<|TO (fun _=>(eC _ x.min (Ck M))) U9 ?_;obtain ⟨bz,rfl,rfl⟩:=E;refine Tw [.slice (some ⟨bz,0,none⟩) (s*p:Nat) (s*p:Nat),ah (qtx (-x.min))] U8<|Tq U5 (fun e=>?_)
     first | refine Uc (j:=0) U12 ?_ | refine Uc (j:=1) U12 ?_
     exact Th [1,2,5,6,8,9,10,19,20] d Z<|G.perm (L':=[.arr (.slice (some ⟨bz,0,none⟩) (s*p) (s*p)) 32 1 (s*p) (List.replicate (s*p) (ah [48])),.obj e (.cells ⟨[.slice (some ⟨bz,0,none⟩) (s*p) (s*p),ah (qtx (-x.min))]⟩ 140 (0,0)),.arr o 140 2 (bi s p c (i-1)++bq s p x i k).length (aE g (bi s p c (i-1)++bq s p x i k)).flatten]) (by first | exact PC _ | exact List.Perm.swap _ _ _)<|Tr 0 mup (hn_ [1,2,5,6,8,9,10,19,20] Z) ⟨bz,e,trivial,Z,Z⟩
    ·refine Td S.m_ U8<|TP B Z ⟨?_, ?_,trivial⟩
     ·refine D.call (fR _ s p om_) Z (.inr dc_) U6 (PC _) fl_ fun T U V _ E=>TO (fun _=>(eC _ x.min (Ck M))) U9 ?_;obtain ⟨bz,rfl,rfl⟩:=E;refine Tw [.slice (some ⟨bz,0,none⟩) (s*p:Nat) (s*p:Nat),ah (qtx (-x.min))] U8<|Tq U5 (fun e=>?_)
      first | refine Uc (j:=0) U12 ?_ | refine Uc (j:=1) U12 ?_
      exact Th [1,2,5,6,8,9,10,19,20] d Z<|G.perm (L':=[.arr (.slice (some ⟨bz,0,none⟩) (s*p) (s*p)) 32 1 (s*p) (List.replicate (s*p) (ah [48])),.obj e (.cells ⟨[.slice (some ⟨bz,0,none⟩) (s*p) (s*p),ah (qtx (-x.min))]⟩ 140 (0,0)),.arr o 140 2 (bi s p c (i-1)++bq s p x i k).length (aE g (bi s p c (i-1)++bq s p x i k)).flatten]) (by first | exact PC _ | exact List.Perm.swap _ _ _)<|Tr 0 mup (hn_ [1,2,5,6,8,9,10,19,20] Z) ⟨bz,e,trivial,Z,Z⟩
     refine Tq U5 fun e=>D.call (fR _ s p om_) Z (.inr dc_) U6 (PC _) fl_ fun T U V _ E=>TO (fun _=>(eC _ x.min (Ck M))) U9 ?_;obtain ⟨bz,rfl,rfl⟩:=E;refine Tw [.slice (some ⟨bz,0,none⟩) (s*p:Nat) (s*p:Nat),ah (qtx (-x.min))] U8 ?_
     first | refine Uc (j:=0) U12 ?_ | refine Uc (j:=1) U12 ?_
     exact Th [1,2,5,6,8,9,10,19,20] d Z<|G.perm (L':=[.arr (.slice (some ⟨bz,0,none⟩) (s*p) (s*p)) 32 1 (s*p) (List.replicate (s*p) (ah [48])),.obj e (.cells ⟨[.slice (some ⟨bz,0,none⟩) (s*p) (s*p),ah (qtx (-x.min))]⟩ 140 (0,0)),.arr o 140 2 (bi s p c (i-1)++bq s p x i k).length (aE g (bi s p c (i-1)++bq s p x i k)).flatten]) (by first | exact PC _ | exact List.Perm.swap _ _ _)<|Tr 0 mup (hn_ [1,2,5,6,8,9,10,19,20] Z) ⟨bz,e,trivial,Z,Z⟩
    refine Tq U5 fun e=>TP B Z ⟨?_, ?_,trivial⟩
    ·refine D.call (fR _ s p om_) Z (.inr dc_) U6 (PC _) fl_ fun T U V _ E=>Td S.m_ U8<|TO (fun _=>(eC _ x.min (Ck M))) U9 ?_;obtain ⟨bz,rfl,rfl⟩:=E;refine Tw [.slice (some ⟨bz,0,none⟩) (s*p:Nat) (s*p:Nat),ah (qtx (-x.min))] U8 ?_
     first | refine Uc (j:=0) U12 ?_ | refine Uc (j:=1) U12 ?_
     exact Th [1,2,5,6,8,9,10,19,20] d Z<|G.perm (L':=[.arr (.slice (some ⟨bz,0,none⟩) (s*p) (s*p)) 32 1 (s*p) (List.replicate (s*p) (ah [48])),.obj e (.cells ⟨[.slice (some ⟨bz,0,none⟩) (s*p) (s*p),ah (qtx (-x.min))]⟩ 140 (0,0)),.arr o 140 2 (bi s p c (i-1)++bq s p x i k).length (aE g (bi s p c (i-1)++bq s p x i k)).flatten]) (by first | exact PC _ | exact List.Perm.swap _ _ _)<|Tr 0 mup (hn_ [1,2,5,6,8,9,10,19,20] Z) ⟨bz,e,trivial,Z,Z⟩
    refine Td S.m_ U8<|D.call (fR _ s p om_) Z (.inr dc_) U6 (PC _) fl_ fun T U V _ E=>TO (fun _=>(eC _ x.min (Ck M))) U9 ?_;obtain ⟨bz,rfl,rfl⟩:=E;refine Tw [.slice (some ⟨bz,0,none⟩) (s*p:Nat) (s*p:Nat),ah (qtx (-x.min))] U8 ?_
    first | refine Uc (j:=0) U12 ?_ | refine Uc (j:=1) U12 ?_
    exact Th [1,2,5,6,8,9,10,19,20] d Z<|G.perm (L':=[.arr (.slice (some ⟨bz,0,none⟩) (s*p) (s*p)) 32 1 (s*p) (List.replicate (s*p) (ah [48])),.obj e (.cells ⟨[.slice (some ⟨bz,0,none⟩) (s*p) (s*p),ah (qtx (-x.min))]⟩ 140 (0,0)),.arr o 140 2 (bi s p c (i-1)++bq s p x i k).length (aE g (bi s p c (i-1)++bq s p x i k)).flatten]) (by first | exact PC _ | exact List.Perm.swap _ _ _)<|Tr 0 mup (hn_ [1,2,5,6,8,9,10,19,20] Z) ⟨bz,e,trivial,Z,Z⟩
   obtain ⟨bz,e,_,rfl,rfl⟩:=z;refine G.cut (fun fr F f t=>(True)/\fr=[(1,[],.slice H c.length c0),(2,[],.pointer (some ⟨b2,0,none⟩)),(5,[],o),(6,[],.int .i64 i),(8,[],.int .i64 ((((i-1)*p+k:Nat)):Int)),(9,[],.int .i64 (((i*p+k:Nat)):Int)),(10,[],.pointer (some ⟨e,0,none⟩)),(19,[],.int .i64 p),(20,[],.int .i64 k)]/\f=[.arr (.slice (some ⟨bz,0,none⟩) (s*p) (s*p)) 32 1 (s*p) (kK (s*p) [(i*p+k, -1),((i-1)*p+k,1)]),.obj e (.cells ⟨[.slice (some ⟨bz,0,none⟩) (s*p) (s*p),ah (qtx (-x.min))]⟩ 140 (0,0)),.arr o 140 2 (bi s p c (i-1)++bq s p x i k).length (aE g (bi s p c (i-1)++bq s p x i k)).flatten]) ?_ (fun fr a8 a9 t bb z=>?_)
   ·refine TX (.cut [0,1,2,3,5,6] (.alt 4 (.fin [7,8,9]) (.alt 7 (.fin [4,8,9]) .stop))) [] U2 kr_ fun R Q d B=>Te U6<|Ti af U9<|Tg 3 Z<|TE (((i-1)*p+k)) U10 (fun _=>⟨by omega,by omega,(QG _).symm⟩) U2<|TP B Z ⟨?_, ?_,trivial⟩
    ·refine Ti af U9<|TJ (j:=0) U11 (by simp [];omega)<|TE ((i*p+k)) U10 (fun _=>⟨by omega,by omega,(QG _).symm⟩) U2<|TJ (j:=0) U11 (by simp [aD];omega)<|Th [1,2,5,6,8,9,10,19,20] d Z<|Tu (L':=[.arr (.slice (some ⟨bz,0,none⟩) (s*p) (s*p)) 32 1 (s*p) (kK (s*p) [(i*p+k, -1),((i-1)*p+k,1)]),.obj e (.cells ⟨[.slice (some ⟨bz,0,none⟩) (s*p) (s*p),ah (qtx (-x.min))]⟩ 140 (0,0)),.arr o 140 2 (bi s p c (i-1)++bq s p x i k).length (aE g (bi s p c (i-1)++bq s p x i k)).flatten]) (by
      first
      | (rw [<- st2 (n:=s*p) 1 (-1) om_ om_,dG,cG];rfl)
      | (rw [<- OK (n:=s*p) 1 (-1) om_ om_ om_,dG,cG];rfl)) ?_
     exact Tr 0 (Mem.le.refl _) (hn_ [1,2,5,6,8,9,10,19,20] Z) ⟨trivial,Z,Z⟩
    refine TJ (j:=0) U11 (by simp [];omega)<|Ti af U9<|TE ((i*p+k)) U10 (fun _=>⟨by omega,by omega,(QG _).symm⟩) U2<|TJ (j:=0) U11 (by simp [aD];omega)<|Th [1,2,5,6,8,9,10,19,20] d Z<|Tu (L':=[.arr (.slice (some ⟨bz,0,none⟩) (s*p) (s*p)) 32 1 (s*p) (kK (s*p) [(i*p+k, -1),((i-1)*p+k,1)]),.obj e (.cells ⟨[.slice (some ⟨bz,0,none⟩) (s*p) (s*p),ah (qtx (-x.min))]⟩ 140 (0,0)),.arr o 140 2 (bi s p c (i-1)++bq s p x i k).length (aE g (bi s p c (i-1)++bq s p x i k)).flatten]) (by
     first
     | (rw [<- st2 (n:=s*p) 1 (-1) om_ om_,dG,cG];rfl)
     | (rw [<- OK (n:=s*p) 1 (-1) om_ om_ om_,dG,cG];rfl)) ?_
    exact Tr 0 (Mem.le.refl _) (hn_ [1,2,5,6,8,9,10,19,20] Z) ⟨trivial,Z,Z⟩
   obtain ⟨_,rfl,rfl⟩:=z;refine G.freezeArr 0 ((uQ (s*p) [(i*p+k, -1),((i-1)*p+k,1)]).map eh) rfl (je _ _) (by intro r hr;obtain ⟨y,_,rfl⟩:=PF.1 hr;rfl) (by simp [jv]) (fun Cz hz aq=>?_);have ar:=X.1;have aa:=RowsOk.snoc (r:=rR s p x i k) X.m_ aq;have au:=eB ar (.slice (some ⟨bz,0,none⟩) (s*p) (s*p)) (rR s p x i k);refine Tc 1 Z fun R d=>Ti ag U9<|Tz [[.slice (some ⟨bz,0,none⟩) (s*p:Nat) (s*p:Nat),ah (qtx (-x.min))]] U12 fun bc _ _ av=>D.append (j:=1) U11 av Z ax (by simp only [ba];omega) fl_ fun A=>C6 1 [1,2,5,6,8,9,10,19,20] d Z<|Tu (L':=[.arr A 140 2 (bi s p c (i-1)++bq s p x i k++[rR s p x i k]).length (aE (g++[.slice (some ⟨bz,0,none⟩) (s*p) (s*p)]) (bi s p c (i-1)++bq s p x i k++[rR s p x i k])).flatten,.obj e (.cells ⟨[.slice (some ⟨bz,0,none⟩) (s*p) (s*p),ah (qtx (-x.min))]⟩ 140 (0,0))]) (by rw [au];simp [rR];omega)<|Tc 2 Z fun R d=>Tt J.m_ U10 om_ (bW L) fl_ fun bd aw=>UA aw U10 fl_ fun be ay=>Td ay U8<|C6 1 [1,2,5,6,8,9,10,19,20,58] d Z<|G.cd (fun I=>?_) fun I=>?_
   ·obtain ⟨m,hm⟩:∃ m,x.max=some m:=by
     rw [pi] at I;exact Sx.1 I
    have N:ni s p x i k=[rR s p x i k,FX s p m i k]:=by unfold ni;rw [hm]
    have az:uR x.max=qtx m:=by rw [hm];rfl
    refine G.cut (fun fr F f t=>∃ (h:Nat),(True)/\fr=[(1,[],.slice H c.length c0),(2,[],.pointer (some ⟨b2,0,none⟩)),(5,[],A),(6,[],.int .i64 i),(8,[],.int .i64 ((((i-1)*p+k:Nat)):Int)),(9,[],.int .i64 (((i*p+k:Nat)):Int)),(10,[],.pointer (some ⟨e,0,none⟩)),(19,[],.int .i64 p),(20,[],.int .i64 k)]/\f=[.arr (.slice (some ⟨h,0,none⟩) (s*p) (s*p)) 32 1 (s*p) (List.replicate (s*p) (ah [48])),.obj e (.cells ⟨[.slice (some ⟨h,0,none⟩) (s*p) (s*p),ah (uR x.max)]⟩ 140 (0,0)),.arr A 140 2 (bi s p c (i-1)++bq s p x i k++[rR s p x i k]).length (aE (g++[.slice (some ⟨bz,0,none⟩) (s*p) (s*p)]) (bi s p c (i-1)++bq s p x i k++[rR s p x i k])).flatten]) ?_ (fun fr bf bg t bh z=>?_)
    ·refine TX (.cut [0,2,3,4,5] (.alt 1 (.fin [6,7,8]) (.alt 6 (.fin [1,7,8]) .stop))) [(1,3)] U2 kr_ fun R Q d B=>Td (bkT K 2) U8<|Tg 2 Z<|Tt J.m_ U10 om_ (bW L) fl_ fun bj aA=>UA aA U10 fl_ fun bk ai=>TP B Z ⟨?_, ?_,trivial⟩
     ·refine D.call (fR _ s p om_) Z (.inr dc_) U6 (PC _) fl_ fun aB aC aF _ ab=>Td ai.m_ U8 ?_;obtain ⟨h,rfl,rfl⟩:=ab;refine Tw [.slice (some ⟨h,0,none⟩) (s*p:Nat) (s*p:Nat),ah (uR x.max)] U8 ?_
      first | refine Uc (j:=2) U12 ?_ | refine Uc (j:=1) U12 ?_
      exact Th [1,2,5,6,8,9,10,19,20] d Z<|G.perm (L':=[.arr (.slice (some ⟨h,0,none⟩) (s*p) (s*p)) 32 1 (s*p) (List.replicate (s*p) (ah [48])),.obj e (.cells ⟨[.slice (some ⟨h,0,none⟩) (s*p) (s*p),ah (uR x.max)]⟩ 140 (0,0)),.arr A 140 2 (bi s p c (i-1)++bq s p x i k++[rR s p x i k]).length (aE (g++[.slice (some ⟨bz,0,none⟩) (s*p) (s*p)]) (bi s p c (i-1)++bq s p x i k++[rR s p x i k])).flatten]) (by first | exact PC _ | exact List.Perm.swap _ _ _)<|Tr 0 mup (hn_ [1,2,5,6,8,9,10,19,20] Z) ⟨h,trivial,Z,Z⟩
     refine Td ai.m_ U8<|D.call (fR _ s p om_) Z (.inr dc_) U6 (PC _) fl_ (fun aB aC aF _ ab=>?_);obtain ⟨h,rfl,rfl⟩:=ab;refine Tw [.slice (some ⟨h,0,none⟩) (s*p:Nat) (s*p:Nat),ah (uR x.max)] U8 ?_
     first | refine Uc (j:=2) U12 ?_ | refine Uc (j:=1) U12 ?_
     exact Th [1,2,5,6,8,9,10,19,20] d Z<|G.perm (L':=[.arr (.slice (some ⟨h,0,none⟩) (s*p) (s*p)) 32 1 (s*p) (List.replicate (s*p) (ah [48])),.obj e (.cells ⟨[.slice (some ⟨h,0,none⟩) (s*p) (s*p),ah (uR x.max)]⟩ 140 (0,0)),.arr A 140 2 (bi s p c (i-1)++bq s p x i k++[rR s p x i k]).length (aE (g++[.slice (some ⟨bz,0,none⟩) (s*p) (s*p)]) (bi s p c (i-1)++bq s p x i k++[rR s p x i k])).flatten]) (by first | exact PC _ | exact List.Perm.swap _ _ _)<|Tr 0 mup (hn_ [1,2,5,6,8,9,10,19,20] Z) ⟨h,trivial,Z,Z⟩
    obtain ⟨h,_,rfl,rfl⟩:=z;refine G.cut (fun fr F f t=>(True)/\fr=[(1,[],.slice H c.length c0),(2,[],.pointer (some ⟨b2,0,none⟩)),(5,[],A),(6,[],.int .i64 i),(10,[],.pointer (some ⟨e,0,none⟩)),(19,[],.int .i64 p),(20,[],.int .i64 k)]/\f=[.arr (.slice (some ⟨h,0,none⟩) (s*p) (s*p)) 32 1 (s*p) (kK (s*p) [(i*p+k,1),((i-1)*p+k, -1)]),.obj e (.cells ⟨[.slice (some ⟨h,0,none⟩) (s*p) (s*p),ah (uR x.max)]⟩ 140 (0,0)),.arr A 140 2 (bi s p c (i-1)++bq s p x i k++[rR s p x i k]).length (aE (g++[.slice (some ⟨bz,0,none⟩) (s*p) (s*p)]) (bi s p c (i-1)++bq s p x i k++[rR s p x i k])).flatten]) ?_ (fun fr bl bm t bn z=>?_)
    ·refine TX (.cut [0,1,2,3,5,6] (.alt 4 (.fin [7,8,9]) (.alt 7 (.fin [4,8,9]) .stop))) [] U2 kr_ fun R Q d B=>Te U6<|Ti af U9<|Tg 3 Z<|TE (((i-1)*p+k)) U10 (fun _=>⟨by omega,by omega,(QG _).symm⟩) U2<|TP B Z ⟨?_, ?_,trivial⟩
     ·refine Ti af U9<|TJ (j:=0) U11 (by simp [];omega)<|TE ((i*p+k)) U10 (fun _=>⟨by omega,by omega,(QG _).symm⟩) U2<|TJ (j:=0) U11 (by simp [aD];omega)<|Th [1,2,5,6,10,19,20] d Z<|Tu (L':=[.arr (.slice (some ⟨h,0,none⟩) (s*p) (s*p)) 32 1 (s*p) (kK (s*p) [(i*p+k,1),((i-1)*p+k, -1)]),.obj e (.cells ⟨[.slice (some ⟨h,0,none⟩) (s*p) (s*p),ah (uR x.max)]⟩ 140 (0,0)),.arr A 140 2 (bi s p c (i-1)++bq s p x i k++[rR s p x i k]).length (aE (g++[.slice (some ⟨bz,0,none⟩) (s*p) (s*p)]) (bi s p c (i-1)++bq s p x i k++[rR s p x i k])).flatten]) (by
       first
       | (rw [<- st2 (n:=s*p) (-1) 1 om_ om_,dG,cG];rfl)
       | (rw [<- OK (n:=s*p) (-1) 1 om_ om_ om_,dG,cG];rfl)) ?_
      exact Tr 0 (Mem.le.refl _) (hn_ [1,2,5,6,10,19,20] Z) ⟨trivial,Z,Z⟩
     refine TJ (j:=0) U11 (by simp [];omega)<|Ti af U9<|TE ((i*p+k)) U10 (fun _=>⟨by omega,by omega,(QG _).symm⟩) U2<|TJ (j:=0) U11 (by simp [aD];omega)<|Th [1,2,5,6,10,19,20] d Z<|Tu (L':=[.arr (.slice (some ⟨h,0,none⟩) (s*p) (s*p)) 32 1 (s*p) (kK (s*p) [(i*p+k,1),((i-1)*p+k, -1)]),.obj e (.cells ⟨[.slice (some ⟨h,0,none⟩) (s*p) (s*p),ah (uR x.max)]⟩ 140 (0,0)),.arr A 140 2 (bi s p c (i-1)++bq s p x i k++[rR s p x i k]).length (aE (g++[.slice (some ⟨bz,0,none⟩) (s*p) (s*p)]) (bi s p c (i-1)++bq s p x i k++[rR s p x i k])).flatten]) (by
      first
      | (rw [<- st2 (n:=s*p) (-1) 1 om_ om_,dG,cG];rfl)
      | (rw [<- OK (n:=s*p) (-1) 1 om_ om_ om_,dG,cG];rfl)) ?_
     exact Tr 0 (Mem.le.refl _) (hn_ [1,2,5,6,10,19,20] Z) ⟨trivial,Z,Z⟩
    obtain ⟨_,rfl,rfl⟩:=z;refine G.freezeArr 0 ((uQ (s*p) [(i*p+k,1),((i-1)*p+k, -1)]).map eh) rfl (je _ _) (by intro r hr;obtain ⟨y,_,rfl⟩:=PF.1 hr;rfl) (by simp [jv]) (fun bo bp aG=>?_);have aH:=RowsOk.snoc (r:=FX s p m i k) aa.m_ aG;have aI:=eB aa.1 (.slice (some ⟨h,0,none⟩) (s*p) (s*p)) (FX s p m i k);refine Tc 1 Z fun R d=>Ti ag U9<|Tz [[.slice (some ⟨h,0,none⟩) (s*p:Nat) (s*p:Nat),ah (uR x.max)]] U12 fun br _ _ aJ=>D.append (j:=1) U11 aJ Z (by simp only [PH,ba,maxLen] at ae ⊢;omega) (by simp only [PH,ba] at ae ⊢;omega) fl_ fun aj=>C6 1 [1,2,5,6,19,20] d Z<|Tf fun R d=>Tm _ U7<|C6 1 [1,2,5,6,19,20] d Z<|TV 1 Z<|Tu (L':=[.arr aj 140 2 (bi s p c (i-1)++bq s p x i (k+1)).length (aE (g++[.slice (some ⟨bz,0,none⟩) (s*p) (s*p)]++[.slice (some ⟨h,0,none⟩) (s*p) (s*p)]) (bi s p c (i-1)++bq s p x i (k+1))).flatten]) (by
     rw [bq,N,<- P8,show ∀ (l:List RowQ)(a b:RowQ),l++[a,b]=l++[a]++[b] from fun l a b=>by simp,aI,az];simp [FX];omega) ?_
    refine Tp (m':=p-(k+1)) om_ mup (hn_ [1,2,5,6,19,20] Z) ⟨k+1,_,aj,⟨by omega,by
     rw [bq,N,<- P8,show ∀ (l:List RowQ)(a b:RowQ),l++[a,b]=l++[a]++[b] from fun l a b=>by simp];exact aH.mono mup⟩,Z,Z,Z⟩
   have hm:x.max=none:=by
    rw [pi] at I;cases aK:x.max with
    | none=>rfl
    | some q=>rw [aK] at I;cases I
   have N:ni s p x i k=[rR s p x i k]:=by unfold ni;rw [hm]
   refine Tf fun R d=>Tm _ U7<|C6 1 [1,2,5,6,19,20] d Z<|TV 1 Z<|Tu (L':=[.arr A 140 2 (bi s p c (i-1)++bq s p x i (k+1)).length (aE (g++[.slice (some ⟨bz,0,none⟩) (s*p) (s*p)]) (bi s p c (i-1)++bq s p x i (k+1))).flatten]) (by rw [bq,N,<- P8];rfl)<|Tp (m':=p-(k+1)) om_ mup (hn_ [1,2,5,6,19,20] Z) ⟨k+1,_,A,⟨by omega,by
    rw [bq,N,<- P8];exact aa.mono mup⟩,Z,Z,Z⟩
  have ad:k=p:=by
   have:¬ k<p:=by simpa using Y
   omega
  have ak:bi s p c (i-1)++bq s p x i k=bi s p c i:=by
   obtain ⟨j,rfl⟩:∃ j,i=j+1:=⟨i-1,by omega⟩;rw [ad,RG,bi,Ku L]
  refine Tc 1 Z fun R d=>Tm _ U7<|C6 1 [1,2,5,6] d Z<|Tu (L':=[.arr o 140 2 (bi s p c (i+1-1)).length (aE g (bi s p c (i+1-1))).flatten]) (by rw [ak];rfl)<|Tp (m':=c.length-(i+1)) om_ mup (hn_ [1,2,5,6] Z) ⟨i+1,g,o,⟨by omega,.inl om_,by rw [RG,<- ak];exact X⟩,Z,Z,Z⟩
 have ac:i-1=c.length-2:=by
  have:=PE W;omega
 refine Tb 2 [4] Z ?_;rw [ac] at O ⊢;exact G.freezeArr 0 (aE vs (bi s p c (c.length-2))) Z Z (bX _ _) (bN O.1) fun Cg hg aL=>Tl U2<|⟨Z,vs,O.mono mup,aL⟩
theorem jH {l:List (Nat × Rat)}(q:Rat)(h:k ∉ l.map (·.1)):iv (eG l) ((k:Nat):Int) (ah (qtx q))=eG (l++[(k,q)]):=by
 rw [jD (by
  rw [cC];unfold eG;rw [Qv];intro hm;obtain ⟨x,a,b⟩:=PF.1 hm;have:x.1=k:=by
   have h2:((x.1:Nat):Int)=(k:Int):=b;omega
  exact h (this ▸ RD (f:=(·.1)) a))]
 simp [eG]
theorem qC (a c:Pt):cW a a c=0/\cW c a a=0/\cW a c a=0:=by
 unfold cW;refine ⟨?_, ?_, ?_⟩ <;> grind
theorem ta {a:List Pt}{b:List Tri}(c:MeshOk a b)(d:t∈b):t.1≠t.2.1/\t.1≠t.2.2/\t.2.1≠t.2.2:=by
 have h:=nV c d;refine ⟨fun e=>h ?_,fun e=>h ?_,fun e=>h ?_⟩
 ·have:cor a t 1=cor a t 0:=by show a.getD t.2.1 _=a.getD t.1 _;rw [e]
  rw [this];exact (qC _ _).1
 ·have:cor a t 2=cor a t 0:=by show a.getD t.2.2 _=a.getD t.1 _;rw [e]
  rw [this];exact (qC _ _).2.2
 have:cor a t 2=cor a t 1:=by show a.getD t.2.2 _=a.getD t.2.1 _;rw [e]
 rw [this];exact (qC _ _).2.1
def atT (t:Tri)(f:Nat->Rat):List (Nat × Rat):=[(t.1,f 0),(t.2.1,f 1),(t.2.2,f 2)]
theorem qw (f:Nat->Rat)(h:t.1≠t.2.1/\t.1≠t.2.2/\t.2.1≠t.2.2):((atT t f).map (·.1)).Nodup:=by
 simp [atT,h.1,h.2.1,h.2.2]
theorem Df (C:Mem)(w:Tabs C)(x:Value)(c:List Pt)(e:List Tri)(p:Pt)(i:Nat)(r:List Nat)(t:Tri)(y:MeshIn C x c e)(k:Good c e)(z:QP 23 p)(A:PtR p)(K:nt c e p=i::r)(g:e[i]?=some t)(L:∀ j,QB 22 (wgt c t p j)) :
  Pur cx.P 242 [x,ptV p] C fun u D=>∃ b,u=.tuple #[.map (some b),.int .i64 (i:Nat),.int .i64 0]/\D b=some (aU keyZ.enc (eG (atT t (wgt c t p)))):=by
 have M:=k.ok;have n:=y;have ad:=(aJ.1 g).1;obtain ⟨N,O,Q⟩:=ta M (Px g);obtain ⟨v1,v2,rfl,h1,h2⟩:=id y.ex;obtain ⟨A2,c2,rfl,S,ae,_⟩:=id h2;have af:maxLen<=9223372036854775807:=by simp [maxLen]
 simp only [am] at h2 n S ⊢;refine Tk func242 54 U3 fun w0=>Tf fun R a=>Tv U6 fun b2=>Tv U6 fun b3=>C6 3 [2,3] a Z<|G.freeze 1 Z fun _ _ o=>G.freeze 0 Z fun _ _ B=>Tf fun R a=>Td (bkT o 2) U8<|Td (bkT B 2) U8<|TM (lC _ w.m_ _ c e p n.m_ k z A) U7 (fun ag _ _ T=>?_);obtain ⟨wv,rfl,f⟩:=T;rw [K] at f;obtain ⟨U,V,E,_⟩:=id f;rw [am] at E;subst E;refine C6 5 [2,3,6,7] a Z<|Tb 2 [2,3,6,7,18] Z<|G.cd (fun F=>?_) fun F=>?_
 ·exact absurd F dc_
 refine Tx [0,1,2,3,4,5,6,7,8,9,10,11] [(5,1)] Z kr_ fun R H a=>Td (bkT o 2) U8<|Te U6<|Tt f.m_ U10 om_ (rfl:(List.map aS (i::r))[0]?=some (aS i)) fl_ fun ah W=>Td W U8<|Td (bkT B 2) U8<|TO (fun _=>(vC _ w.m_ _ c e p i t n.m_ k z A g L)) U9<|Tg 3 Z<|Tq U5 fun X=>Tj (j:=0) U12<|C6 1 [2,6,7,8] a Z<|Tb 2 [2,6,7,8,30] Z<|G.cd (fun I=>?_) fun I=>?_
 ·exact absurd I dc_
 refine G.freeze 0 Z fun _ _ q=>Tf fun R a=>D.makeMap keyZ Z Z Z Z fl_ fun d=>C6 1 [2,4,7,8] a Z<|Tx [0,1,2,3,4,5,6,7] [] Z kr_ fun R H a=>Te U6<|Td (bkT o 1) U8<|Te U6<|Tt f.m_ U10 om_ (rfl:(List.map aS (i::r))[0]?=some (aS i)) fl_ fun aj Y=>Td Y U8<|Tt h2.m_ U10 om_ (bW g) fl_ fun ak aa=>Td aa U8<|C6 1 [4,7,8,39,40] a Z<|G.loop (fun fr C' h μ=>∃ (j:Nat),(j<=3)/\fr=[(4,[],.map (some d)),(7,[],.slice U (i::r).length V),(8,[],.pointer (some ⟨X,0,none⟩)),(39,[],.agg ⟨gz t⟩),(40,[],.int .i64 j)]/\h=[.obj d (aU keyZ.enc (eG ((atT t (wgt c t p)).take j)))]/\μ=3-j) (hn_ [4,7,8,39,40] Z) ⟨0,PG _,Z,Z,Z⟩ (fun fr al an m s hI=>?_);obtain ⟨j,hj,rfl,rfl,rfl⟩:=hI;refine Tb 1 [4,7,8,39,40,41] Z<|G.cd (fun v=>?_) fun v=>?_
 ·have J:j<3:=by
   simp only [PI] at v;omega
  rcases (by omega:j=0∨j=1∨j=2) with rfl | rfl | rfl
  ·refine Tc 1 Z fun R a=>Uf U11 ai U2<|C6 2 [4,7,8,9,10,39,40] a Z<|Tc 3 Z fun R a=>Ty (_) U9 ai U2<|Td (bkT q 1) U8<|D.mapUpdate keyZ (j:=0) Z Z Z Z Z Z Z Z Z Z kr_<|Th [4,7,8,39,40] a Z<|Tf fun R a=>Tm _ U7<|C6 1 [4,7,8,39,40] a Z<|Tu (L':=[.obj d (aU keyZ.enc (eG ((atT t (wgt c t p)).take 1)))]) (congrArg (fun m=>[Ent.obj d (aU keyZ.enc m)]) (jH (l:=[]) _ ap))<|Tp (m':=2) om_ s (hn_ [4,7,8,39,40] Z) ⟨1,by decide,Z,Z,Z⟩
  ·refine Tc 1 Z fun R a=>Uf U11 ai U2<|C6 2 [4,7,8,9,10,39,40] a Z<|Tc 3 Z fun R a=>Ty (_) U9 ai U2<|Td (bkT q 1) U8<|D.mapUpdate keyZ (j:=0) Z Z Z Z Z Z Z Z Z Z kr_<|Th [4,7,8,39,40] a Z<|Tf fun R a=>Tm _ U7<|C6 1 [4,7,8,39,40] a Z<|Tu (L':=[.obj d (aU keyZ.enc (eG ((atT t (wgt c t p)).take 2)))]) (congrArg (fun m=>[Ent.obj d (aU keyZ.enc m)]) (jH (l:=[(t.1,wgt c t p 0)]) _ (by simpa using N.symm)))<|Tp (m':=1) om_ s (hn_ [4,7,8,39,40] Z) ⟨2,by decide,Z,Z,Z⟩
  refine Tc 1 Z fun R a=>Uf U11 ai U2<|C6 2 [4,7,8,9,10,39,40] a Z<|Tc 3 Z fun R a=>Ty (_) U9 ai U2<|Td (bkT q 1) U8<|D.mapUpdate keyZ (j:=0) Z Z Z Z Z Z Z Z Z Z kr_<|Th [4,7,8,39,40] a Z<|Tf fun R a=>Tm _ U7<|C6 1 [4,7,8,39,40] a Z<|Tu (L':=[.obj d (aU keyZ.enc (eG ((atT t (wgt c t p)).take 3)))]) (congrArg (fun m=>[Ent.obj d (aU keyZ.enc m)]) (jH (l:=[(t.1,wgt c t p 0),(t.2.1,wgt c t p 1)]) _ (by simp [O.symm,Q.symm])))<|Tp (m':=0) om_ s (hn_ [4,7,8,39,40] Z) ⟨3,by decide,Z,Z,Z⟩
 have J:j=3:=by
  simp only [P3] at v;omega
 subst J;refine G.freeze 0 Z fun Cm ao ab=>Tx [0,1,2,3,4,5,6] [] Z kr_ fun R H a=>Tg 2 Z<|Tt f.m_ U10 om_ (rfl:(List.map aS (i::r))[0]?=some (aS i)) fl_ fun aq ac=>Td ac U8<|C6 3 [4,5,6] a Z<|Tn (G.dropAll (Ug U4 ?_));exact ⟨Z,d,Z,ab⟩
theorem dw (t:Tri)(f:Nat->Rat)(j:Nat)(a:j<3)(h:t.1≠t.2.1/\t.1≠t.2.2/\t.2.1≠t.2.2):iv (eG ((atT t f).take j)) ((iq t j:Nat):Int) (ah (qtx (f j)))=eG ((atT t f).take (j+1)):=by
 rcases (by omega:j=0∨j=1∨j=2) with rfl | rfl | rfl
 ·exact jH (l:=[]) _ ap
 ·exact jH (l:=[(t.1,f 0)]) (k:=t.2.1) _ (by simpa using h.1.symm)
 exact jH (l:=[(t.1,f 0),(t.2.1,f 1)]) (k:=t.2.2) _ (by simp [h.2.1.symm,h.2.2.symm])
def ox (n k:Nat):List Rat:=uQ n [(k,1)]
def slf (pts:List Pt)(t:Tri)(j:Nat):Pt:=ek pts (ox pts.length (iq t j)) t
theorem gl (n k:Nat):(ox n k).length=n:=jv n _
theorem HA :∀ q∈ox n k,q=0∨q=1:=by
 intro q a;unfold ox uQ at a;obtain ⟨j,_,rfl⟩:=PF.1 a;simp only [dU];split
 ·exact .inr Z
 exact .inl Z
theorem jo :∀ q∈ox n k,QB 1 q:=by
 intro q a;rcases HA q a with rfl | rfl
 ·exact QB_zero
 exact QB_one
theorem Dc (C:Mem)(I:Tabs C)(N:Value)(a:List Pt)(s:List Tri)(i:Nat)(t:Tri)(O:MeshIn C N a s)(E:Good a s)(l:s[i]?=some t)(J:∀ j,QP 22 (slf a t j)) :
  Pur cx.P 248 [N,.int .i64 i] C fun u D=>∃ Q S,u=.tuple #[.map (some Q),.map (some S),.int .i64 0]/\D Q=some (aU keyZ.enc (eG (atT t fun j=>(slf a t j).1)))/\D S=some (aU keyZ.enc (eG (atT t fun j=>(slf a t j).2))):=by
 have K:=E.ok;have F:=O;have al:=K.lp;have H:=K.ins t (Px l);obtain ⟨an,ao,ap⟩:=id H;have aq:=(aJ.1 l).1;obtain ⟨f,g,h⟩:=ta K (Px l);obtain ⟨v1,v2,rfl,h1,h2⟩:=id O.ex;obtain ⟨A1,c1,rfl,ar,au,_⟩:=id h1;obtain ⟨A2,c2,rfl,af,av,_⟩:=id h2;have aw:maxLen<=9223372036854775807:=by simp [maxLen]
 simp only [am] at h1 h2 F af ⊢;refine Tk func248 51 U3 fun w0=>Tf fun R b=>Tv U6 fun b2=>C6 3 [1,2] b Z<|G.freeze 0 Z fun _ _ n=>Tf fun R b=>D.makeMap keyZ Z Z Z Z fl_ fun c=>D.makeMap keyZ Z Z Z Z fl_ fun d=>C6 2 [1,2,4,5] b Z<|Tc 1 Z fun R b=>Td (bkT n 1) U8<|Te U6<|Tt h2.m_ U10 om_ (bW l) fl_ fun ax ag=>Td ag U8<|C6 1 [1,2,4,5,18,19] b Z<|G.perm (L':=[.obj c (aU keyZ.enc (eG [])),.obj d (aU keyZ.enc (eG []))]) (List.Perm.swap _ _ _)<|G.loop (fun fr L e o=>∃ (j:Nat),(j<=3)/\fr=[(1,[],.int .i64 i),(2,[],.pointer (some ⟨b2,0,none⟩)),(4,[],.map (some c)),(5,[],.map (some d)),(18,[],.agg ⟨gz t⟩),(19,[],.int .i64 j)]/\e=[.obj c (aU keyZ.enc (eG ((atT t fun j=>(slf a t j).1).take j))),.obj d (aU keyZ.enc (eG ((atT t fun j=>(slf a t j).2).take j)))]/\o=3-j) (hn_ [1,2,4,5,18,19] Z) ⟨0,PG _,Z,Z,Z⟩ (fun fr ay az m _ p=>?_);obtain ⟨j,hj,rfl,rfl,rfl⟩:=p;refine Tb 1 [1,2,4,5,18,19,20] Z<|G.cd (fun M=>?_) fun M=>?_
 ·have T:j<3:=by
   simp only [PI] at M;omega
  rcases (by omega:j=0∨j=1∨j=2) with rfl | rfl | rfl
  ·refine Tf fun R b=>Uf U11 ai U2<|C6 1 [1,2,4,5,8,18,19] b Z<|TC [(4,3)] Z fun R b=>Tz [[ah [48]]] U12 fun U V _ v=>Te U6<|Td (bkT n 1) U8<|Te U6<|D.call (mE _ _ a.length [48] v.m_ om_) Z (.inr dc_) U6 (PC _) fl_ fun W X Y _ w=>C6 1 [1,2,4,5,8,9,18,19] b Z ?_;obtain ⟨bz,rfl,rfl⟩:=w;have x:iq t 0<a.length:=eH H 0;refine Tu (L':=[.arr (.slice (some ⟨bz,0,none⟩) a.length a.length) 32 1 a.length (kK a.length []),.obj c (aU keyZ.enc (eG ((atT t fun j=>(slf a t j).1).take 0))),.obj d (aU keyZ.enc (eG ((atT t fun j=>(slf a t j).2).take 0)))]) (by rw [lN];rfl)<|Tc 2 Z fun R b=>TE ((iq t 0)) U10 (fun _=>⟨by omega,by omega,(QG _).symm⟩) U2<|TJ (j:=0) U11 (by rw [lO];simp;omega)<|Th [1,2,4,5,8,9,18,19] b Z<|Tu (L':=[.arr (.slice (some ⟨bz,0,none⟩) a.length a.length) 32 1 a.length (kK a.length [(iq t 0,1)]),.obj c (aU keyZ.enc (eG ((atT t fun j=>(slf a t j).1).take 0))),.obj d (aU keyZ.enc (eG ((atT t fun j=>(slf a t j).2).take 0)))]) (by rw [<- ft [] 1 x,dG];rfl)<|G.freezeArr 0 ((ox a.length (iq t 0)).map eh) rfl (je _ _) (by intro r hr;obtain ⟨y,_,rfl⟩:=PF.1 hr;rfl) (by rw [am,gl]) fun Cz hz z=>Tf fun R b=>Td (bkT n 2) U8<|Tg 2 Z<|Ts (tm _ I.m_ _ _ a s (ox a.length (iq t 0)) 1 dc_ dc_ F.m_ E z.m_ (gl _ _) jo (fun q A=>bC ((jo q A).le dc_)) i t l (J 0)) U7 fl_<|Tg 3 Z<|Tq U5 fun aa=>Tj (j:=0) U12<|C6 1 [1,2,4,5,8,10,11,18,19] b Z<|Tb 2 [1,2,4,5,8,10,11,18,19,38] Z<|G.cd (fun ab=>?_) fun ab=>?_
   ·exact absurd ab dc_
   refine G.freeze 0 Z fun ac _ k=>G.cut (fun fr L e o=>(True)/\fr=[(1,[],.int .i64 i),(2,[],.pointer (some ⟨b2,0,none⟩)),(4,[],.map (some c)),(5,[],.map (some d)),(18,[],.agg ⟨gz t⟩),(19,[],.int .i64 ((0:Nat):Int))]/\e=[.obj c (aU keyZ.enc (eG ((atT t fun j=>(slf a t j).1).take (0+1)))),.obj d (aU keyZ.enc (eG ((atT t fun j=>(slf a t j).2).take (0+1))))]) ?_ (fun fr aA aB o aC p=>?_)
   ·refine TX (.cut [0,1,2,3,4,5,6] (.alt 7 (.fin [8,9]) (.alt 8 (.fin [7,9]) .stop))) [] U2 kr_ fun R hB b B=>Tg 5 Z<|Td (bkT k 1) U8<|Te U6<|TP B Z ⟨?_, ?_,trivial⟩
    ·refine Td (bkT k 1) U8 ?_
     first | refine D.mapUpdate keyZ (j:=0) rfl rfl rfl rfl rfl rfl rfl rfl rfl rfl kr_ ?_ | refine D.mapUpdate keyZ (j:=1) rfl rfl rfl rfl rfl rfl rfl rfl rfl rfl kr_ ?_
     first | refine D.mapUpdate keyZ (j:=1) rfl rfl rfl rfl rfl rfl rfl rfl rfl rfl kr_ ?_ | refine D.mapUpdate keyZ (j:=0) rfl rfl rfl rfl rfl rfl rfl rfl rfl rfl kr_ ?_
     refine Th [1,2,4,5,18,19] b Z<|G.perm (L':=[.obj c (aU keyZ.enc (eG ((atT t fun j=>(slf a t j).1).take (0+1)))),.obj d (aU keyZ.enc (eG ((atT t fun j=>(slf a t j).2).take (0+1))))]) (by
      rw [<- dw t (fun j=>(slf a t j).1) 0 dc_ ⟨f,g,h⟩,<- dw t (fun j=>(slf a t j).2) 0 dc_ ⟨f,g,h⟩]
      first | exact PC _ | exact List.Perm.swap _ _ _) ?_
     exact Tr 0 (Mem.le.refl _) (hn_ [1,2,4,5,18,19] Z) ⟨trivial,Z,Z⟩
    first | refine D.mapUpdate keyZ (j:=0) rfl rfl rfl rfl rfl rfl rfl rfl rfl rfl kr_ ?_ | refine D.mapUpdate keyZ (j:=1) rfl rfl rfl rfl rfl rfl rfl rfl rfl rfl kr_ ?_
    refine Td (bkT k 1) U8 ?_
    first | refine D.mapUpdate keyZ (j:=1) rfl rfl rfl rfl rfl rfl rfl rfl rfl rfl kr_ ?_ | refine D.mapUpdate keyZ (j:=0) rfl rfl rfl rfl rfl rfl rfl rfl rfl rfl kr_ ?_
    refine Th [1,2,4,5,18,19] b Z<|G.perm (L':=[.obj c (aU keyZ.enc (eG ((atT t fun j=>(slf a t j).1).take (0+1)))),.obj d (aU keyZ.enc (eG ((atT t fun j=>(slf a t j).2).take (0+1))))]) (by
     rw [<- dw t (fun j=>(slf a t j).1) 0 dc_ ⟨f,g,h⟩,<- dw t (fun j=>(slf a t j).2) 0 dc_ ⟨f,g,h⟩]
     first | exact PC _ | exact List.Perm.swap _ _ _) ?_
    exact Tr 0 (Mem.le.refl _) (hn_ [1,2,4,5,18,19] Z) ⟨trivial,Z,Z⟩
   obtain ⟨_,rfl,rfl⟩:=p;refine Tf fun R b=>Tm _ U7<|C6 1 [1,2,4,5,18,19] b Z<|Tp (m':=2) om_ mup (hn_ [1,2,4,5,18,19] Z) ⟨1,by decide,Z,Z,Z⟩
  ·refine Tf fun R b=>Uf U11 ai U2<|C6 1 [1,2,4,5,8,18,19] b Z<|TC [(4,3)] Z fun R b=>Tz [[ah [48]]] U12 fun U V _ v=>Te U6<|Td (bkT n 1) U8<|Te U6<|D.call (mE _ _ a.length [48] v.m_ om_) Z (.inr dc_) U6 (PC _) fl_ fun W X Y _ w=>C6 1 [1,2,4,5,8,9,18,19] b Z ?_;obtain ⟨bz,rfl,rfl⟩:=w;have x:iq t 1<a.length:=eH H 1;refine Tu (L':=[.arr (.slice (some ⟨bz,0,none⟩) a.length a.length) 32 1 a.length (kK a.length []),.obj c (aU keyZ.enc (eG ((atT t fun j=>(slf a t j).1).take 1))),.obj d (aU keyZ.enc (eG ((atT t fun j=>(slf a t j).2).take 1)))]) (by rw [lN];rfl)<|Tc 2 Z fun R b=>TE ((iq t 1)) U10 (fun _=>⟨by omega,by omega,(QG _).symm⟩) U2<|TJ (j:=0) U11 (by rw [lO];simp;omega)<|Th [1,2,4,5,8,9,18,19] b Z<|Tu (L':=[.arr (.slice (some ⟨bz,0,none⟩) a.length a.length) 32 1 a.length (kK a.length [(iq t 1,1)]),.obj c (aU keyZ.enc (eG ((atT t fun j=>(slf a t j).1).take 1))),.obj d (aU keyZ.enc (eG ((atT t fun j=>(slf a t j).2).take 1)))]) (by rw [<- ft [] 1 x,dG];rfl)<|G.freezeArr 0 ((ox a.length (iq t 1)).map eh) rfl (je _ _) (by intro r hr;obtain ⟨y,_,rfl⟩:=PF.1 hr;rfl) (by rw [am,gl]) fun Cz hz z=>Tf fun R b=>Td (bkT n 2) U8<|Tg 2 Z<|Ts (tm _ I.m_ _ _ a s (ox a.length (iq t 1)) 1 dc_ dc_ F.m_ E z.m_ (gl _ _) jo (fun q A=>bC ((jo q A).le dc_)) i t l (J 1)) U7 fl_<|Tg 3 Z<|Tq U5 fun aa=>Tj (j:=0) U12<|C6 1 [1,2,4,5,8,10,11,18,19] b Z<|Tb 2 [1,2,4,5,8,10,11,18,19,38] Z<|G.cd (fun ad=>?_) fun ad=>?_
   ·exact absurd ad dc_
   refine G.freeze 0 Z fun ac _ k=>G.cut (fun fr L e o=>(True)/\fr=[(1,[],.int .i64 i),(2,[],.pointer (some ⟨b2,0,none⟩)),(4,[],.map (some c)),(5,[],.map (some d)),(18,[],.agg ⟨gz t⟩),(19,[],.int .i64 ((1:Nat):Int))]/\e=[.obj c (aU keyZ.enc (eG ((atT t fun j=>(slf a t j).1).take (1+1)))),.obj d (aU keyZ.enc (eG ((atT t fun j=>(slf a t j).2).take (1+1))))]) ?_ (fun fr aD aE o aF p=>?_)
   ·refine TX (.cut [0,1,2,3,4,5,6] (.alt 7 (.fin [8,9]) (.alt 8 (.fin [7,9]) .stop))) [] U2 kr_ fun R hB b B=>Tg 5 Z<|Td (bkT k 1) U8<|Te U6<|TP B Z ⟨?_, ?_,trivial⟩
    ·refine Td (bkT k 1) U8 ?_
     first | refine D.mapUpdate keyZ (j:=0) rfl rfl rfl rfl rfl rfl rfl rfl rfl rfl kr_ ?_ | refine D.mapUpdate keyZ (j:=1) rfl rfl rfl rfl rfl rfl rfl rfl rfl rfl kr_ ?_
     first | refine D.mapUpdate keyZ (j:=1) rfl rfl rfl rfl rfl rfl rfl rfl rfl rfl kr_ ?_ | refine D.mapUpdate keyZ (j:=0) rfl rfl rfl rfl rfl rfl rfl rfl rfl rfl kr_ ?_
     refine Th [1,2,4,5,18,19] b Z<|G.perm (L':=[.obj c (aU keyZ.enc (eG ((atT t fun j=>(slf a t j).1).take (1+1)))),.obj d (aU keyZ.enc (eG ((atT t fun j=>(slf a t j).2).take (1+1))))]) (by
      rw [<- dw t (fun j=>(slf a t j).1) 1 dc_ ⟨f,g,h⟩,<- dw t (fun j=>(slf a t j).2) 1 dc_ ⟨f,g,h⟩]
      first | exact PC _ | exact List.Perm.swap _ _ _) ?_
     exact Tr 0 (Mem.le.refl _) (hn_ [1,2,4,5,18,19] Z) ⟨trivial,Z,Z⟩
    first | refine D.mapUpdate keyZ (j:=0) rfl rfl rfl rfl rfl rfl rfl rfl rfl rfl kr_ ?_ | refine D.mapUpdate keyZ (j:=1) rfl rfl rfl rfl rfl rfl rfl rfl rfl rfl kr_ ?_
    refine Td (bkT k 1) U8 ?_
    first | refine D.mapUpdate keyZ (j:=1) rfl rfl rfl rfl rfl rfl rfl rfl rfl rfl kr_ ?_ | refine D.mapUpdate keyZ (j:=0) rfl rfl rfl rfl rfl rfl rfl rfl rfl rfl kr_ ?_
    refine Th [1,2,4,5,18,19] b Z<|G.perm (L':=[.obj c (aU keyZ.enc (eG ((atT t fun j=>(slf a t j).1).take (1+1)))),.obj d (aU keyZ.enc (eG ((atT t fun j=>(slf a t j).2).take (1+1))))]) (by
     rw [<- dw t (fun j=>(slf a t j).1) 1 dc_ ⟨f,g,h⟩,<- dw t (fun j=>(slf a t j).2) 1 dc_ ⟨f,g,h⟩]
     first | exact PC _ | exact List.Perm.swap _ _ _) ?_
    exact Tr 0 (Mem.le.refl _) (hn_ [1,2,4,5,18,19] Z) ⟨trivial,Z,Z⟩
   obtain ⟨_,rfl,rfl⟩:=p;refine Tf fun R b=>Tm _ U7<|C6 1 [1,2,4,5,18,19] b Z<|Tp (m':=1) om_ mup (hn_ [1,2,4,5,18,19] Z) ⟨2,by decide,Z,Z,Z⟩
  refine Tf fun R b=>Uf U11 ai U2<|C6 1 [1,2,4,5,8,18,19] b Z<|TC [(4,3)] Z fun R b=>Tz [[ah [48]]] U12 fun U V _ v=>Te U6<|Td (bkT n 1) U8<|Te U6<|D.call (mE _ _ a.length [48] v.m_ om_) Z (.inr dc_) U6 (PC _) fl_ fun W X Y _ w=>C6 1 [1,2,4,5,8,9,18,19] b Z ?_;obtain ⟨bz,rfl,rfl⟩:=w;have x:iq t 2<a.length:=eH H 2;refine Tu (L':=[.arr (.slice (some ⟨bz,0,none⟩) a.length a.length) 32 1 a.length (kK a.length []),.obj c (aU keyZ.enc (eG ((atT t fun j=>(slf a t j).1).take 2))),.obj d (aU keyZ.enc (eG ((atT t fun j=>(slf a t j).2).take 2)))]) (by rw [lN];rfl)<|Tc 2 Z fun R b=>TE ((iq t 2)) U10 (fun _=>⟨by omega,by omega,(QG _).symm⟩) U2<|TJ (j:=0) U11 (by rw [lO];simp;omega)<|Th [1,2,4,5,8,9,18,19] b Z<|Tu (L':=[.arr (.slice (some ⟨bz,0,none⟩) a.length a.length) 32 1 a.length (kK a.length [(iq t 2,1)]),.obj c (aU keyZ.enc (eG ((atT t fun j=>(slf a t j).1).take 2))),.obj d (aU keyZ.enc (eG ((atT t fun j=>(slf a t j).2).take 2)))]) (by rw [<- ft [] 1 x,dG];rfl)<|G.freezeArr 0 ((ox a.length (iq t 2)).map eh) rfl (je _ _) (by intro r hr;obtain ⟨y,_,rfl⟩:=PF.1 hr;rfl) (by rw [am,gl]) fun Cz hz z=>Tf fun R b=>Td (bkT n 2) U8<|Tg 2 Z<|Ts (tm _ I.m_ _ _ a s (ox a.length (iq t 2)) 1 dc_ dc_ F.m_ E z.m_ (gl _ _) jo (fun q A=>bC ((jo q A).le dc_)) i t l (J 2)) U7 fl_<|Tg 3 Z<|Tq U5 fun aa=>Tj (j:=0) U12<|C6 1 [1,2,4,5,8,10,11,18,19] b Z<|Tb 2 [1,2,4,5,8,10,11,18,19,38] Z<|G.cd (fun ae=>?_) fun ae=>?_
  ·exact absurd ae dc_
  refine G.freeze 0 Z fun ac _ k=>G.cut (fun fr L e o=>(True)/\fr=[(1,[],.int .i64 i),(2,[],.pointer (some ⟨b2,0,none⟩)),(4,[],.map (some c)),(5,[],.map (some d)),(18,[],.agg ⟨gz t⟩),(19,[],.int .i64 ((2:Nat):Int))]/\e=[.obj c (aU keyZ.enc (eG ((atT t fun j=>(slf a t j).1).take (2+1)))),.obj d (aU keyZ.enc (eG ((atT t fun j=>(slf a t j).2).take (2+1))))]) ?_ (fun fr aG aH o aI p=>?_)
  ·refine TX (.cut [0,1,2,3,4,5,6] (.alt 7 (.fin [8,9]) (.alt 8 (.fin [7,9]) .stop))) [] U2 kr_ fun R hB b B=>Tg 5 Z<|Td (bkT k 1) U8<|Te U6<|TP B Z ⟨?_, ?_,trivial⟩
   ·refine Td (bkT k 1) U8 ?_
    first | refine D.mapUpdate keyZ (j:=0) rfl rfl rfl rfl rfl rfl rfl rfl rfl rfl kr_ ?_ | refine D.mapUpdate keyZ (j:=1) rfl rfl rfl rfl rfl rfl rfl rfl rfl rfl kr_ ?_
    first | refine D.mapUpdate keyZ (j:=1) rfl rfl rfl rfl rfl rfl rfl rfl rfl rfl kr_ ?_ | refine D.mapUpdate keyZ (j:=0) rfl rfl rfl rfl rfl rfl rfl rfl rfl rfl kr_ ?_
    refine Th [1,2,4,5,18,19] b Z<|G.perm (L':=[.obj c (aU keyZ.enc (eG ((atT t fun j=>(slf a t j).1).take (2+1)))),.obj d (aU keyZ.enc (eG ((atT t fun j=>(slf a t j).2).take (2+1))))]) (by
     rw [<- dw t (fun j=>(slf a t j).1) 2 dc_ ⟨f,g,h⟩,<- dw t (fun j=>(slf a t j).2) 2 dc_ ⟨f,g,h⟩]
     first | exact PC _ | exact List.Perm.swap _ _ _) ?_
    exact Tr 0 (Mem.le.refl _) (hn_ [1,2,4,5,18,19] Z) ⟨trivial,Z,Z⟩
   first | refine D.mapUpdate keyZ (j:=0) rfl rfl rfl rfl rfl rfl rfl rfl rfl rfl kr_ ?_ | refine D.mapUpdate keyZ (j:=1) rfl rfl rfl rfl rfl rfl rfl rfl rfl rfl kr_ ?_
   refine Td (bkT k 1) U8 ?_
   first | refine D.mapUpdate keyZ (j:=1) rfl rfl rfl rfl rfl rfl rfl rfl rfl rfl kr_ ?_ | refine D.mapUpdate keyZ (j:=0) rfl rfl rfl rfl rfl rfl rfl rfl rfl rfl kr_ ?_
   refine Th [1,2,4,5,18,19] b Z<|G.perm (L':=[.obj c (aU keyZ.enc (eG ((atT t fun j=>(slf a t j).1).take (2+1)))),.obj d (aU keyZ.enc (eG ((atT t fun j=>(slf a t j).2).take (2+1))))]) (by
    rw [<- dw t (fun j=>(slf a t j).1) 2 dc_ ⟨f,g,h⟩,<- dw t (fun j=>(slf a t j).2) 2 dc_ ⟨f,g,h⟩]
    first | exact PC _ | exact List.Perm.swap _ _ _) ?_
   exact Tr 0 (Mem.le.refl _) (hn_ [1,2,4,5,18,19] Z) ⟨trivial,Z,Z⟩
  obtain ⟨_,rfl,rfl⟩:=p;refine Tf fun R b=>Tm _ U7<|C6 1 [1,2,4,5,18,19] b Z<|Tp (m':=0) om_ mup (hn_ [1,2,4,5,18,19] Z) ⟨3,by decide,Z,Z,Z⟩
 have T:j=3:=by
  simp only [P3] at M;omega
 subst T;refine G.freeze 0 Z fun Cm aK aj=>G.freeze 0 Z fun Cn aL ak=>Tb 5 [4,5,6] Z<|Tn (G.dropAll (Ug U4 ?_));exact ⟨Z,c,d,Z,Mem.get aj mup,ak⟩
theorem qe (C:Mem)(v:Value)(l:List Rat)(b:Sl C 1 v (l.map eh))(t:l.length<=1000000):Jog.Fn cx.P 50 [v] C [] fun u _w e=>∃ A n c,u=.slice A n c/\e=[.arr (.slice A n c) 32 1 l.length (l.map eh).flatten]:=by
 obtain ⟨f,c0,rfl,m,x,y,o⟩:=id b;have z:maxLen<=9223372036854775807:=by simp [maxLen]
 simp only [am] at b m ⊢;refine Tk func50 8 U3 fun w0=>Tb 1 [0] Z<|Tc 1 Z fun R d=>Ux U9<|Th [0,4] d Z<|G.cd (fun h4=>?_) fun h4=>?_
 ·have p:f=none:=by
   cases f with
   | none=>rfl
   | some a=>cases h4
  have s:l=[]:=by
   cases l with
   | nil=>rfl
   | cons q r =>
    obtain ⟨a,g,_⟩:=o 0 (eh q) rfl;rw [p] at g;cases g
  refine Tb 1 [2] Z<|G.nilArr 32 1<|Tn (TQ Z Z ?_);exact ⟨none,0,0,Z,by rw [s];rfl⟩
 refine Tf fun R d=>Un [] U12 fl_ fun B=>Te U6<|TH (j:=0) U11 b.m_ (by simp [eh,me,ah]) (by simp only [am,P6,maxLen];omega) (by simp only [am,P6];omega) fl_ fun h i k=>C6 1 [2] d Z<|Tu (L':=[.arr (.slice h i k) 32 1 l.length (l.map eh).flatten]) ap<|Tn (TQ Z Z ?_);exact ⟨h,i,k,Z,Z⟩
theorem qi (C:Mem)(v:Value)(l:List Rat)(b:Sl C 1 v (l.map eh))(t:l.length<=1000000):Jog.Fn cx.P 48 [v] C [] fun u _w e=>∃ A n c,u=.slice A n c/\e=[.arr (.slice A n c) 32 1 l.length (l.map eh).flatten]:=by
 obtain ⟨f,c0,rfl,m,x,y,o⟩:=id b;have z:maxLen<=9223372036854775807:=by simp [maxLen]
 simp only [am] at b m ⊢;refine Tk func48 8 U3 fun w0=>Tb 1 [0] Z<|Tc 1 Z fun R d=>Ux U9<|Th [0,4] d Z<|G.cd (fun h4=>?_) fun h4=>?_
 ·have p:f=none:=by
   cases f with
   | none=>rfl
   | some a=>cases h4
  have s:l=[]:=by
   cases l with
   | nil=>rfl
   | cons q r =>
    obtain ⟨a,g,_⟩:=o 0 (eh q) rfl;rw [p] at g;cases g
  refine Tb 1 [2] Z<|G.nilArr 32 1<|Tn (TQ Z Z ?_);exact ⟨none,0,0,Z,by rw [s];rfl⟩
 refine Tf fun R d=>Un [] U12 fl_ fun B=>Te U6<|TH (j:=0) U11 b.m_ (by simp [eh,me,ah]) (by simp only [am,P6,maxLen];omega) (by simp only [am,P6];omega) fl_ fun h i k=>C6 1 [2] d Z<|Tu (L':=[.arr (.slice h i k) 32 1 l.length (l.map eh).flatten]) ap<|Tn (TQ Z Z ?_);exact ⟨h,i,k,Z,Z⟩
def ON (r:RowQ):Prop:=(∀ q∈r.f,QB 22 q)/\QB 22 r.b
theorem kp {a:List RowQ}{w:Value}{r:RowQ}(c:vs[i]?=some w)(d:a[i]?=some r):(aE vs a)[i]?=some [w,ah (qtx r.b)]:=by
 unfold aE;rw [List.getElem?_zipWith,c,d]
theorem Dh (C:Mem)(hT:Tabs C)(v:Value)(a:List RowQ)(hv:RowsIn C v a)(e:∀ r∈a,ON r)(ac:∀ r∈a,r.f.length<=1000)(an:a.length<=100000) :
  Gives cx.P 249 [v] C (.tuple #[v,.int .i64 0]):=by
 obtain ⟨vs,z,A⟩:=hv;obtain ⟨l,c0,rfl,ad,ao,_⟩:=id A;have aq:maxLen<=9223372036854775807:=by simp [maxLen]
 simp only [bN z.1] at A ad ⊢;refine Tk func249 32 U3 fun w0=>Tb 2 [0] Z<|Tb 3 [0,8,9,10] Z<|G.loop (fun fr B n o=>∃ (i:Nat),(i<=a.length)/\fr=[(0,[],.slice l a.length c0),(8,[],.slice l a.length c0),(9,[],.int .i64 a.length),(10,[],.int .i64 i)]/\n=[]/\o=a.length-i) (hn_ [0,8,9,10] Z) ⟨0,PG _,Z,Z,Z⟩ (fun fr ar au m _ p=>?_);obtain ⟨i,hi,rfl,rfl,rfl⟩:=p;refine Tb 1 [0,8,9,10,11] Z<|G.cd (fun I=>?_) fun I=>?_
 ·have J:i<a.length:=by simpa using I
  obtain ⟨r,E⟩:∃ r,a[i]?=some r:=⟨a[i],al J⟩;obtain ⟨w,K⟩:∃ w,vs[i]?=some w:=⟨vs[i]'(by rw [z.1];exact J),al _⟩;have L:=Px E;obtain ⟨ae,af⟩:=e r L;have av:=ac r L;have aw:(r.f++[r.b]).length<=1001:=by simp;omega
  have x:=z.2 i w r K E;obtain ⟨Aw,cw,rfl,_⟩:=id x;refine Tf fun R c=>Tt A.m_ U10 om_ (kp K E) fl_ fun ay ag=>Td ag U8<|Tq U5 fun b5=>Tj (j:=0) U12<|Th [0,5,8,9,10] c Z<|G.freeze 0 Z fun _ _ F=>G.cut (fun fr B n o=>∃ (g:Option Addr)(k:Nat),(Sl B 1 (.slice g (r.f++[r.b]).length k) ((r.f++[r.b]).map eh))/\fr=[(0,[],.slice l a.length c0),(8,[],.slice l a.length c0),(9,[],.int .i64 a.length),(10,[],.int .i64 i),(20,[],.slice g (r.f++[r.b]).length k),(21,[],.int .i64 (r.f++[r.b]).length),(22,[],.int .i64 0)]/\n=[]) ?_ (fun fr az aA o aB p=>?_)
  ·refine TX (.cut [0,1,3,8] (.alt 2 (.fin [4,5,6,7]) (.alt 4 (.cut [] (.alt 2 (.fin [5,6,7]) (.alt 5 (.fin [2,6,7]) .stop))) .stop))) [(2,3)] U2 kr_ fun R hB c M=>Te U6<|Td (bkT F 1) U8<|Tg 2 Z<|TP M Z ⟨?_, ?_,trivial⟩
   ·refine D.call (qe _ _ r.f x.m_ om_) Z (.inr dc_) U6 (PC _) fl_ fun N O Q _ s=>Td (bkT F 1) U8<|Tz [eh r.b] U12 (fun S T _ t=>?_);obtain ⟨U,V,cc,rfl,rfl⟩:=s;refine TH (j:=0) U11 t.m_ (by simp [eh,me,ah]) ax (by simp only [ba];omega) fl_ fun g W k=>C6 1 [0,8,9,10,20,21,22] c Z<|G.freezeArr 0 ((r.f++[r.b]).map eh) rfl ap (by intro r e;obtain ⟨y,_,rfl⟩:=PF.1 e;rfl) ap (fun X Y d=>?_);obtain ⟨Az,cz,u,_⟩:=id d;cases u
    simp only [am] at d ⊢;exact G.dropAll<|Tr 0 mup (hn_ [0,8,9,10,20,21,22] Z) ⟨_,_,d,Z,Z⟩
   refine Td (bkT F 1) U8<|TP M Z ⟨?_, ?_,trivial⟩
   ·refine D.call (qe _ _ r.f x.m_ om_) Z (.inr dc_) U6 (PC _) fl_ fun N O Q _ s=>Tz [eh r.b] U12 (fun S T _ t=>?_);obtain ⟨U,V,cc,rfl,rfl⟩:=s;refine TH (j:=0) U11 t.m_ (by simp [eh,me,ah]) ax (by simp only [ba];omega) fl_ fun g W k=>C6 1 [0,8,9,10,20,21,22] c Z<|G.freezeArr 0 ((r.f++[r.b]).map eh) rfl ap (by intro r e;obtain ⟨y,_,rfl⟩:=PF.1 e;rfl) ap (fun X Y d=>?_);obtain ⟨Az,cz,u,_⟩:=id d;cases u
    simp only [am] at d ⊢;exact G.dropAll<|Tr 0 mup (hn_ [0,8,9,10,20,21,22] Z) ⟨_,_,d,Z,Z⟩
   refine Tz [eh r.b] U12 fun S T _ t=>D.call (qe _ _ r.f x.m_ om_) Z (.inr dc_) U6 (PC _) fl_ (fun N O Q _ s=>?_);obtain ⟨U,V,cc,rfl,rfl⟩:=s;refine TH (j:=0) U11 t.m_ (by simp [eh,me,ah]) ax (by simp only [ba];omega) fl_ fun g W k=>C6 1 [0,8,9,10,20,21,22] c Z<|G.freezeArr 0 ((r.f++[r.b]).map eh) rfl ap (by intro r e;obtain ⟨y,_,rfl⟩:=PF.1 e;rfl) ap (fun X Y d=>?_);obtain ⟨Az,cz,u,_⟩:=id d;cases u
   simp only [am] at d ⊢;exact G.dropAll<|Tr 0 mup (hn_ [0,8,9,10,20,21,22] Z) ⟨_,_,d,Z,Z⟩
  obtain ⟨g,k,ai,rfl,rfl⟩:=p;refine G.loop (fun fr B n o=>∃ (j:Nat),(j<=(r.f++[r.b]).length)/\fr=[(0,[],.slice l a.length c0),(8,[],.slice l a.length c0),(9,[],.int .i64 a.length),(10,[],.int .i64 i),(20,[],.slice g (r.f++[r.b]).length k),(21,[],.int .i64 (r.f++[r.b]).length),(22,[],.int .i64 j)]/\n=[]/\o=(r.f++[r.b]).length-j) (hn_ [0,8,9,10,20,21,22] Z) ⟨0,PG _,Z,Z,Z⟩ (fun fr aC aD m _ p=>?_);obtain ⟨j,hj,rfl,rfl,rfl⟩:=p;refine Tb 1 [0,8,9,10,20,21,22,23] Z<|G.cd (fun aa=>?_) fun aa=>?_
  ·have aj:j<(r.f++[r.b]).length:=by
    have:=OQ aa;omega
   obtain ⟨q,hq⟩:∃ q,(r.f++[r.b])[j]?=some q:=⟨(r.f++[r.b])[j],al aj⟩;have ab:QB 22 q:=by
    rcases PQ.1 (Px hq) with h | h
    ·exact ae q h
    rw [PU.1 h];exact af
   refine Tf fun R c=>Tt ai.m_ U10 om_ (bW hq) fl_ fun aE ak=>Td ak U8<|C6 1 [0,7,8,9,10,20,21,22] c Z<|Tc 1 Z fun R c=>To (dF _ hT.m_ _ (tC ab)) U7<|C6 1 [0,8,9,10,20,21,22,28] c Z<|G.cd (fun H=>?_) fun H=>?_
   ·exfalso;rw [wV ab] at H;exact absurd H dc_
   refine Tf fun R c=>Tm _ U7<|C6 1 [0,8,9,10,20,21,22] c Z<|Tp (m':=(r.f++[r.b]).length-(j+1)) om_ mup (hn_ [0,8,9,10,20,21,22] Z) ⟨j+1,om_,Z,Z,Z⟩
  refine Tf fun R c=>Tm _ U7<|C6 1 [0,8,9,10] c Z<|Tp (m':=a.length-(i+1)) om_ mup (hn_ [0,8,9,10] Z) ⟨i+1,om_,Z,Z,Z⟩
 refine Tb 3 [2,3] Z<|Tn (G.dropAll (TD U3 ?_));exact ⟨Z,Z⟩
def ju (s p k:Nat)(fm:List (Nat × Rat))(b sg:Rat):RowQ:=⟨H7 s p k fm sg,sg*b⟩
theorem ji (C:Mem)(O:Tabs C)(s p d b g v:Nat)(c:List (Nat × Rat))(e:Rat)(a:List Rat)(I w:Value)(n:List Value)(f:List RowQ)(aj:s*p<=60)(Q:d<s)(S:C v=some (.cells ⟨[.int .i64 (s:Nat),.int .i64 (p:Nat)]⟩ 196 (0,0)))(T:C b=some (aU keyZ.enc (eG c)))(U:(c.map (·.1)).Nodup)(V:∀ x∈c,x.1<p)(W:∀ x∈c,QB 23 x.2)(X:QB 23 e)
  (y:Sl C 1 I (a.map eh)) (Y:∀ q∈a,QB 1 q) (ak:a.length<=2) (aa:RowsOk C n f) (an:f.length<=10000) :
  Jog.Fn cx.P 245 [.int .i64 d,.map (some b),ah (qtx e),I,.pointer (some ⟨g,0,none⟩),.pointer (some ⟨v,0,none⟩)] C [.obj g (.cells ⟨[w]⟩ 47 (0,0)),.arr w 140 2 f.length (aE n f).flatten]
   fun u z k=>∃ J w',u=.tuple #[]/\k=[.obj g (.cells ⟨[w']⟩ 47 (0,0)),.arr w' 140 2 (f++a.map (ju s p d c e)).length (aE J (f++a.map (ju s p d c e))).flatten]/\RowsOk z J (f++a.map (ju s p d c e)):=by
 obtain ⟨A0,c0,rfl,ab,ao,_⟩:=id y;have aq:maxLen<=9223372036854775807:=by simp [maxLen]
 simp only [am] at y ab ⊢;refine Tk func245 28 U3 fun w0=>Tb 3 [0,1,2,4,5,12,13,14] Z<|Tu (L':=[.obj g (.cells ⟨[w]⟩ 47 (0,0)),.arr w 140 2 (f++(a.take 0).map (ju s p d c e)).length (aE n (f++(a.take 0).map (ju s p d c e))).flatten]) ap<|G.loop (fun fr z k μ=>∃ (i:Nat)(h:List Value)(o:Value),(i<=a.length/\RowsOk z h (f++(a.take i).map (ju s p d c e)))/\fr=[(0,[],.int .i64 d),(1,[],.map (some b)),(2,[],ah (qtx e)),(4,[],.pointer (some ⟨g,0,none⟩)),(5,[],.pointer (some ⟨v,0,none⟩)),(12,[],.slice A0 a.length c0),(13,[],.int .i64 a.length),(14,[],.int .i64 i)]/\k=[.obj g (.cells ⟨[o]⟩ 47 (0,0)),.arr o 140 2 (f++(a.take i).map (ju s p d c e)).length (aE h (f++(a.take i).map (ju s p d c e))).flatten]/\μ=a.length-i) (hn_ [0,1,2,4,5,12,13,14] Z) ⟨0,n,w,⟨PG _,by simpa using aa⟩,Z,Z,Z⟩ (fun fr ar au m _ hI=>?_);obtain ⟨i,h,o,⟨hi,t⟩,rfl,rfl,rfl⟩:=hI;refine Tb 1 [0,1,2,4,5,12,13,14,15] Z<|G.cd (fun A=>?_) fun A=>?_
 ·have B:i<a.length:=by simpa using A
  obtain ⟨sg,D⟩:∃ sg,a[i]?=some sg:=⟨a[i],al B⟩;have ac:=Y sg (Px D);have av:(f++(a.take i).map (ju s p d c e)).length<=10002:=by
   rw [PH,am,PM];omega
  have K:f++(a.take (i+1)).map (ju s p d c e)=f++(a.take i).map (ju s p d c e)++[ju s p d c e sg]:=by
   rw [P0,D];simp
  refine Tf fun R l=>Tt y.m_ U10 om_ (bW D) fl_ fun aw ad=>Td ad U8<|C6 1 [0,1,2,4,5,11,12,13,14] l Z<|Tx [0,1,2,3,4,5,6,7,8,9] [] Z kr_ fun R hB l=>Ti ag U9<|Td (bkT S 2) U8<|Tg 4 Z<|TG (NO _ O.m_ s p d b c sg e 23 dc_ dc_ om_ Q (Mem.get T mup) U V W (ac.le dc_) X) U7 fl_ (fun ay _ _ ae=>?_);obtain ⟨fv,rfl,E⟩:=ae;obtain ⟨F,H,rfl,_⟩:=id E;simp only [am] at E ⊢;refine Tz [[.slice F (H7 s p d c sg).length H,ah (qtx (sg*e))]] U12 fun az _ _ af=>TH (j:=1) U11 af.m_ Z ax (by simp only [ba];omega) fl_ fun L M N=>Tj (j:=1) U12<|Th [0,1,2,4,5,12,13,14] l Z<|Tf fun R l=>Tm _ U7<|C6 1 [0,1,2,4,5,12,13,14] l Z ?_;have ai:=RowsOk.snoc (r:=ju s p d c e sg) t.m_ E;refine Tu (L':=[.obj g (.cells ⟨[.slice L M N]⟩ 47 (0,0)),.arr (.slice L M N) 140 2 (f++(a.take (i+1)).map (ju s p d c e)).length (aE (h++[.slice F (H7 s p d c sg).length H]) (f++(a.take (i+1)).map (ju s p d c e))).flatten]) (by rw [K,eB t.1];simp [ju,aD];omega)<|Tp (m':=a.length-(i+1)) om_ mup (hn_ [0,1,2,4,5,12,13,14] Z) ⟨i+1,h++[.slice F (H7 s p d c sg).length H],_,⟨by omega,by rw [K];exact ai.mono mup⟩,Z,Z,Z⟩
 have B:i=a.length:=by
  have:¬ i<a.length:=by simpa using A
  omega
 rw [B,PO] at t ⊢;exact Ut Z<|⟨h,o,Z,Z,t.mono mup⟩
noncomputable def CY (o:Obs):Rat:=-dB o.nx / dB o.nz
noncomputable def rK (o:Obs):Rat:=-dB o.ny / dB o.nz
def upN (B:Bk)(o:Obs):Nat:=(jS (isU o.upper) B.col 0).toNat
noncomputable def rowsO (B:Bk)(o:Obs)(p:Pt)(t:Tri)(z:Rat):List RowQ :=
 if o.kind=1 then (if 0<upN B o then [ju (bs B) (bp B) (upN B o-1) (atT t (wgt B.pts t p)) (nU o z) 1] else [])++(if upN B o<bs B then [ju (bs B) (bp B) (upN B o) (atT t (wgt B.pts t p)) (nU o z) (-1)] else [])
 else if o.kind=2 then (cQ B.col o).flatMap fun k=>[1, -1].map (ju (bs B) (bp B) k (atT t (wgt B.pts t p)) (nU o z))
 else (cQ B.col o).flatMap fun k=>[1, -1].map (ju (bs B) (bp B) k (atT t fun j=>(slf B.pts t j).1) (CY o))++[1, -1].map (ju (bs B) (bp B) k (atT t fun j=>(slf B.pts t j).2) (rK o))
structure Fine (B:Bk)(fs:List Rat)(o:Obs)(p:Pt)(ti:Nat)(t:Tri)(z:Rat):Prop where
 place:ObsAt o p
 loc:∃ r,nt B.pts B.tris p=ti::r
 tri:B.tris[ti]?=some t
 val:Hn B.pts B.tris fs p=.tuple #[ah (qtx z),.int .i64 0]
 qz:QB 22 z
 qh:QB 22 (nU o z)
 w:∀ j,QB 22 (wgt B.pts t p j)
 up:0<=jS (isU o.upper) B.col 0
 sl:∀ j,QP 22 (slf B.pts t j)
 nr:o.kind≠1->o.kind≠2->(aV o.nx=true/\aV o.ny=true/\aV o.nz=true)/\QB 11 (dB o.nx)/\QB 11 (dB o.ny)/\QB 11 (dB o.nz)/\dB o.nz≠0
 rows:∀ r∈rowsO B o p t z,ON r
theorem NG (h:Sl C 1 v [[ah [49]]]):Sl C 1 v (([1]:List Rat).map eh):=by rw [<- dG] at h;exact h
theorem NH (h:Sl C 1 v [[ah [45,49]]]):Sl C 1 v (([-1]:List Rat).map eh):=by rw [<- cG] at h;exact h
theorem Eo (h:Sl C 1 v [[ah [49]],[ah [45,49]]]):Sl C 1 v (([1, -1]:List Rat).map eh):=by rw [<- cG,<- dG] at h;exact h
theorem Ny:∀ q∈([1]:List Rat),QB 1 q:=by simp;exact QB_one
theorem Nz:∀ q∈([-1]:List Rat),QB 1 q:=by simp;exact rM
theorem Eb:∀ q∈([1, -1]:List Rat),QB 1 q:=by
 intro q a;simp only [PN,QH,R8] at a;rcases a with rfl | rfl
 ·exact QB_one
 exact rM
theorem mU {f:Nat->Rat}{P:Nat × Rat->Prop}(b:P (t.1,f 0))(c:P (t.2.1,f 1))(d:P (t.2.2,f 2)):∀ x∈atT t f,P x:=by
 intro x a;simp only [atT,PN,QH,R8] at a;rcases a with rfl | rfl | rfl <;> assumption
theorem HG {a b:Int}(h:k∈xF a b n):k<n:=by
 unfold xF at h;rw [Q4,PS] at h;exact h.1
theorem jd {a b:Type}(f:a->List b){l:List a}{j:Nat}{x:a}(h:l[j]?=some x):(l.take (j+1)).flatMap f=(l.take j).flatMap f++f x:=by
 rw [P0,h,List.flatMap_append];simp
theorem fG {a b:Type}{f:a->List b}{c:Nat}(h:∀ x,(f x).length=c):∀ l:List a,(l.flatMap f).length=c*l.length
 | []=>by simp
 | x::l=>by rw [List.flatMap_cons,PH,h,fG h l,PR,Nat.mul_succ,RV]
theorem zX :∀ r∈rowsO B o p t z,r.f.length=bs B*bp B:=by
 have a:∀ k d b sg,(ju (bs B) (bp B) k d b sg).f.length=bs B*bp B:=fun k d b sg=>jv _ _;intro r hr;unfold rowsO at hr;split at hr
 ·rcases PQ.1 hr with h | h
  ·split at h
   ·rw [PU.1 h];exact a _ _ _ _
   cases h
  split at h
  ·rw [PU.1 h];exact a _ _ _ _
  cases h
 split at hr
 ·obtain ⟨k,_,c⟩:=List.mem_flatMap.1 hr;obtain ⟨sg,_,rfl⟩:=PF.1 c;exact a _ _ _ _
 obtain ⟨k,_,c⟩:=List.mem_flatMap.1 hr;rcases PQ.1 c with h | h
 ·obtain ⟨sg,_,rfl⟩:=PF.1 h;exact a _ _ _ _
 obtain ⟨sg,_,rfl⟩:=PF.1 h;exact a _ _ _ _
theorem vH (h:(cQ B.col o).length<=60):(rowsO B o p t z).length<=240:=by
 unfold rowsO;split
 ·rw [PH];have h1:∀ (c:Prop)[Decidable c] (r:RowQ),(if c then [r] else []).length<=1:=fun c _ r=>by split <;> simp
  have:=h1 (0<upN B o) (ju (bs B) (bp B) (upN B o-1) (atT t (wgt B.pts t p)) (nU o z) 1);have:=h1 (upN B o<bs B) (ju (bs B) (bp B) (upN B o) (atT t (wgt B.pts t p)) (nU o z) (-1));omega
 split
 ·rw [fG (c:=2) (fun k=>by simp)];omega
 rw [fG (c:=4) (fun k=>by simp)];omega
theorem Ls (C:Mem)(d:Tabs C)(bv:Value)(B:Bk)(fs:List Rat)(i:Nat)(o:Obs)(p:Pt)(ti:Nat)(t:Tri)(z:Rat)(M:BookIn C bv B)(S:Good B.pts B.tris)(an:BookR B)(aN:fK B=0)(hF:Terr B fs)(V:B.obs[i]?=some o)(b:Fine B fs o p ti t z)(T:bs B*bp B<=60)(a4:nY B.col=0)(bU:bs B+1=B.col.length)(bV:B.col.length<=60) :
  Pur cx.P 183 [fT (bs B) (bp B),bv,.int .i64 i] C fun u D=>∃ v,u=.tuple #[v,.int .i64 0]/\RowsIn D v (rowsO B o p t z):=by
 have ao:=M;have hM:=S.ok;obtain ⟨r,a5⟩:=b.loc;have aO:=Px b.tri;have l:=hM.ins t aO;have ap:=ta hM aO;have bY:=(aJ.1 V).1;have W:=b.place;obtain ⟨u,X⟩:∃ u:Nat,jS (isU o.upper) B.col 0=(u:Nat):=⟨_,(Int.toNat_of_nonneg b.up).symm⟩;have a6:upN B o=u:=by unfold upN;rw [X];rfl
 have bZ:u<B.col.length:=by
  rcases mJ (isU o.upper) B.col with ⟨h,_⟩ | ⟨k,x,h,h2,_⟩
  ·rw [X] at h;omega
  have:=(aJ.1 h2).1;rw [X] at h;omega
 have aq:=qw (wgt B.pts t p) ap;have ar:∀ x∈atT t (wgt B.pts t p),x.1<bp B:=mU (P:=fun x=>x.1<bp B) l.1 l.2.1 l.2.2;have au:∀ x∈atT t (wgt B.pts t p),QB 23 x.2:=mU (P:=fun x=>QB 23 x.2) ((b.w 0).le dc_) ((b.w 1).le dc_) ((b.w 2).le dc_);have av:QB 23 (nU o z):=b.qh.le dc_;have a7:(cQ B.col o).length<=bs B:=by
  unfold cQ xF;refine PP (Q5 _ _) ?_;rw [QS];unfold bs;omega
 have aP:∀ k∈cQ B.col o,k<bs B:=fun k hk=>HG hk;obtain ⟨v1,v2,tv,cv,ov,rfl,h1,h2,h3,h4,h5⟩:=id M.ex;have aQ:MeshIn C (.agg ⟨[v1,v2]⟩) B.pts B.tris:=⟨v1,v2,rfl,h1,h2⟩;obtain ⟨A5,c5,rfl,a8,b0,_⟩:=id h5;have b1:maxLen<=9223372036854775807:=by simp [maxLen]
 simp only [am] at h5 a8 ao ⊢;refine Tk func183 172 U3 fun w0=>?_;refine Tf fun R a=>?_;refine Tv U6 (fun n=>?_);refine Tv U6 (fun b4=>?_);refine C6 2 [2,3,4] a Z ?_;clear a R;refine G.freeze 1 Z (fun _ _ N=>?_);refine G.freeze 0 Z (fun _ _ O=>?_);refine Tc 1 Z fun R a=>?_;refine Td (bkT O 1) U8 ?_;refine Te U6 ?_;refine Tt h5.m_ U10 om_ (bW V) fl_ (fun b2 a9=>?_);refine Td a9 U8 ?_;refine Tq U5 (fun b8=>?_);refine Tj (j:=0) U12 ?_;refine Th [2,3,4,8] a Z ?_;clear a R;refine G.freeze 0 Z (fun C8 _ E=>?_);refine Tc 1 Z fun R a=>?_;refine Td (bkT O 2) U8 ?_;refine Te U6 ?_;refine Td (bkT E 2) U8 ?_;refine TG (by have h:=Df C8 d.m_ _ B.pts B.tris p ti r t aQ.m_ S W.q W.r a5 b.tri b.w;rw [<- wb W] at h;exact h) U7 fl_ (fun b5 _ _ bb=>?_);obtain ⟨U,rfl,aw⟩:=bb;refine C6 7 [2,3,4,8,9,10,11] a Z ?_;clear a R;refine Tb 2 [2,3,4,8,9,10,11,45] Z ?_;refine G.cd (fun aR=>?_) fun aR=>?_
 ·exact absurd aR dc_
 refine Tf fun R a=>?_;refine Td (bkT O 5) U8 ?_;refine Te U6 ?_;refine To (CM _ d.m_ _ B fs i o p z ao.m_ S an aN hF V W b.val b.qz b.qh) U7 ?_;refine C6 5 [2,3,4,8,9,10,11,12] a Z ?_;clear a R;refine Tb 2 [2,3,4,8,9,10,11,12,54] Z ?_;refine G.cd (fun aS=>?_) fun aS=>?_
 ·exact absurd aS dc_
 refine Tf fun R a=>?_;refine Td (bkT O 5) U8 ?_;refine Te U6 ?_;refine TM (vm _ d.m_ _ B i o ao.m_ S an aN V) U7 (fun b6 _ _ bc=>?_);obtain ⟨lv,rfl,ax⟩:=bc;obtain ⟨Al,cl,aT,_⟩:=id ax;rw [am] at aT;subst aT;refine C6 5 [3,4,8,9,10,11,12,13] a Z ?_;clear a R;refine Tb 2 [3,4,8,9,10,11,12,13,63] Z ?_;refine G.cd (fun aU=>?_) fun aU=>?_
 ·exact absurd aU dc_
 refine Tf fun R a=>?_;refine Tq U5 (fun c=>?_);refine Th [3,4,8,9,10,12,13,14] a Z ?_;clear a R;refine G.nilArr 140 2 (G.perm (L':=[.obj c (.cells ⟨[.slice none 0 0]⟩ 47 (0,0)),.arr (.slice none 0 0) 140 2 0 []]) (List.Perm.swap _ _ _) ?_);refine Tb 2 [3,4,8,9,10,12,13,14,15] Z ?_;refine Tc 1 Z fun R a=>?_;refine Td (bkT E 1) U8 ?_;refine Th [3,4,8,9,10,12,13,14,15,67] a Z ?_;clear a R;refine Tb 2 [3,4,8,9,10,12,13,14,15,67,120] Z ?_;refine G.cut (fun fr F y H=>∃ (vs:List Value)(w:Value),(RowsOk F vs (rowsO B o p t z))/\fr=[(14,[],.pointer (some ⟨c,0,none⟩))]/\y=[.obj c (.cells ⟨[w]⟩ 47 (0,0)),.arr w 140 2 (rowsO B o p t z).length (aE vs (rowsO B o p t z)).flatten]) ?_ (fun fr _ b7 H _ I=>?_)
 ·refine G.cd (fun Y=>?_) fun Y=>?_
  ·have hk:o.kind=1:=di Y;obtain ⟨s,Q⟩:∃ s,(if 0<u then [ju (bs B) (bp B) (u-1) (atT t (wgt B.pts t p)) (nU o z) 1] else [])=s:=⟨_,rfl⟩;have A:rowsO B o p t z=s++(if u<bs B then [ju (bs B) (bp B) u (atT t (wgt B.pts t p)) (nU o z) (-1)] else []):=by unfold rowsO;rw [aL hk,a6,Q]
   refine Tc 1 Z fun R a=>?_;refine Td (bkT O 1) U8 ?_;refine Te U6 ?_;refine Td (bkT E 1) U8 ?_;refine To (yR _ d.m_ _ B.col o.upper h4.m_ an.col a4 u X) U7 ?_;refine C6 7 [3,9,12,14,15,16,18] a Z ?_;clear a R;refine Tb 2 [3,9,12,14,15,16,18,132] Z ?_;refine G.cd (fun aV=>?_) fun aV=>?_
   ·exact absurd aV dc_
   refine Tb 2 [3,9,12,14,15,16,135] Z ?_;refine G.cut (fun fr F y H=>∃ (vs:List Value)(w:Value),(RowsOk F vs s)/\fr=[(3,[],.pointer (some ⟨n,0,none⟩)),(9,[],.map (some U)),(12,[],ah (qtx (nU o z))),(14,[],.pointer (some ⟨c,0,none⟩)),(15,[],.func (.func 245) #[] #[.pointer (some ⟨c,0,none⟩),.pointer (some ⟨n,0,none⟩)]),(16,[],.int .i64 u)]/\y=[.obj c (.cells ⟨[w]⟩ 47 (0,0)),.arr w 140 2 s.length (aE vs s).flatten]) ?_ (fun fr _ b9 H _ I=>?_)
   ·refine G.cd (fun ay=>?_) fun ay=>?_
    ·have az:0<u:=by
      have:=OQ ay;omega
     rw [aL az] at Q;subst Q;refine TC [(6,3)] Z (fun R a=>?_);refine Tg 2 Z ?_;refine TL (((u-1:Nat):Int)) U4 om_ om_ om_ U2 ?_;refine Tg 2 Z ?_;refine Tz [[ah [49]]] U12 (fun ca _ _ bd=>?_);refine D.call (ji _ d.m_ (bs B) (bp B) (u-1) U c n (atT t (wgt B.pts t p)) (nU o z) [1] _ (.slice none 0 0) [] [] T om_ (Mem.get N mup) (Mem.get aw mup) aq ar au av ((NG bd).mono mup) Ny dc_ (RowsOk.nil _) dc_) Z (.inr dc_) U6 (PC _) fl_ (fun cb _ cc _ bf=>?_);refine Th [3,9,12,14,15,16] a Z ?_;clear a R;obtain ⟨bg,w1,rfl,rfl,bh⟩:=bf;refine Tr 0 mup (hn_ [3,9,12,14,15,16] Z) ⟨bg,w1,bh,Z,Z⟩
    have az:¬ 0<u:=by
     have:=PE ay;omega
    rw [aF az] at Q;subst Q;refine Tr 0 (Mem.le.refl _) (hn_ [3,9,12,14,15,16] Z) ⟨[],.slice none 0 0,RowsOk.nil _,Z,Z⟩
   obtain ⟨vs ,w,aA,rfl,rfl⟩:=I;refine Tc 2 Z fun R a=>?_;refine Td (bkT N 1) U8 ?_;refine C6 1 [9,12,14,15,16,146] a Z ?_;clear a R;refine G.cd (fun aB=>?_) fun aB=>?_
   ·have aa:u<bs B:=by
     have:=OQ aB;omega
    rw [aL aa] at A;have ce:s.length<=1:=by rw [<- Q];split <;> simp
    refine TC [(5,3)] Z (fun R a=>?_);refine Tg 4 Z ?_;refine Tz [[ah [45,49]]] U12 (fun cf _ _ bi=>?_);refine D.call (ji _ d.m_ (bs B) (bp B) u U c n (atT t (wgt B.pts t p)) (nU o z) [-1] _ w vs s T aa (Mem.get N mup) (Mem.get aw mup) aq ar au av ((NH bi).mono mup) Nz dc_ aA.m_ om_) Z (.inr dc_) U6 (PC _) fl_ (fun cg _ ch _ bj=>?_);refine Th [14] a Z ?_;clear a R;obtain ⟨bk,w2,rfl,rfl,aW⟩:=bj;rw [show s++([-1]:List Rat).map (ju (bs B) (bp B) u (atT t (wgt B.pts t p)) (nU o z))=rowsO B o p t z from A.symm] at aW ⊢;refine Tr 0 mup (hn_ [14] Z) ⟨bk,w2,aW,Z,Z⟩
   have aa:¬ u<bs B:=by
    have:=PE aB;omega
   rw [aF aa,PY] at A;rw [<- A] at aA ⊢;refine Tr 0 mup (hn_ [14] Z) ⟨vs,w,aA.mono mup,Z,Z⟩
  have aC:¬ o.kind=1:=by
   intro e;rw [show ((o.kind == 1)=true) by rw [e];rfl] at Y;cases Y
  refine Tb 2 [4,8,9,10,12,13,14,15,153] Z ?_;refine G.cd (fun ab=>?_) fun ab=>?_
  ·have ac:o.kind=2:=di ab;obtain ⟨f,aD⟩:∃ f,(fun k=>([1, -1]:List Rat).map (ju (bs B) (bp B) k (atT t (wgt B.pts t p)) (nU o z)))=f:=⟨_,rfl⟩;have A:rowsO B o p t z=(cQ B.col o).flatMap f:=by unfold rowsO;rw [aF aC,aL ac,<- aD]
   have bm:∀ k,(f k).length=2:=fun k=>by rw [<- aD];rfl
   refine Tb 3 [9,12,14,15,155,156,157] Z ?_;refine G.loop (fun fr F y H=>∃ (j:Nat)(vs:List Value)(w:Value),(j<=(cQ B.col o).length/\RowsOk F vs (((cQ B.col o).take j).flatMap f))/\fr=[(9,[],.map (some U)),(12,[],ah (qtx (nU o z))),(14,[],.pointer (some ⟨c,0,none⟩)),(15,[],.func (.func 245) #[] #[.pointer (some ⟨c,0,none⟩),.pointer (some ⟨n,0,none⟩)]),(155,[],.slice Al (cQ B.col o).length cl),(156,[],.int .i64 (cQ B.col o).length),(157,[],.int .i64 j)]/\y=[.obj c (.cells ⟨[w]⟩ 47 (0,0)),.arr w 140 2 (((cQ B.col o).take j).flatMap f).length (aE vs (((cQ B.col o).take j).flatMap f)).flatten]/\H=(cQ B.col o).length-j) (hn_ [9,12,14,15,155,156,157] Z) ⟨0,[],.slice none 0 0,⟨PG _,RowsOk.nil _⟩,Z,Z,Z⟩ (fun fr ci cj m _ I=>?_);obtain ⟨j,vs,w,⟨hj,J⟩,rfl,rfl,rfl⟩:=I;refine Tb 1 [9,12,14,15,155,156,157,158] Z ?_;refine G.cd (fun aG=>?_) fun aG=>?_
   ·have K:j<(cQ B.col o).length:=by
     have:=OQ aG;omega
    obtain ⟨k,L⟩:∃ k,(cQ B.col o)[j]?=some k:=⟨(cQ B.col o)[j],al K⟩;have ad:=aP k (Px L);have ae:=fG bm ((cQ B.col o).take j);rw [PM] at ae;have aH:=jd f L;refine Tf fun R a=>?_;refine Tt ax.m_ U10 om_ (bW L) fl_ (fun ck bo=>?_);refine Td bo U8 ?_;refine C6 1 [9,12,14,15,20,155,156,157] a Z ?_;clear a R;refine TC [(5,3)] Z (fun R a=>?_);refine Tg 4 Z ?_;refine Tz [[ah [49]],[ah [45,49]]] U12 (fun cm _ _ bq=>?_);refine D.call (ji _ d.m_ (bs B) (bp B) k U c n (atT t (wgt B.pts t p)) (nU o z) [1, -1] _ w vs _ T ad (Mem.get N mup) (Mem.get aw mup) aq ar au av ((Eo bq).mono mup) Eb dc_ J.m_ om_) Z (.inr dc_) U6 (PC _) fl_ (fun cn _ co _ br=>?_);refine Th [9,12,14,15,155,156,157] a Z ?_;clear a R;refine Tf fun R a=>?_;refine Tm _ U7 ?_;refine C6 1 [9,12,14,15,155,156,157] a Z ?_;clear a R;obtain ⟨aI,w3,rfl,rfl,af⟩:=br;rw [show ((cQ B.col o).take j).flatMap f++([1, -1]:List Rat).map (ju (bs B) (bp B) k (atT t (wgt B.pts t p)) (nU o z))=((cQ B.col o).take (j+1)).flatMap f by rw [aH,<- aD]] at af ⊢;refine Tp (m':=(cQ B.col o).length-(j+1)) om_ mup (hn_ [9,12,14,15,155,156,157] Z) ⟨j+1,aI,w3,⟨by omega,af⟩,Z,Z,Z⟩
   have K:j=(cQ B.col o).length:=by
    have:=PE aG;omega
   rw [K,PO,<- A] at J ⊢;refine Tr 0 mup (hn_ [14] Z) ⟨vs,w,J.mono mup,Z,Z⟩
  have ac:¬ o.kind=2:=by
   intro e;rw [show ((o.kind == 2)=true) by rw [e];rfl] at ab;cases ab
  obtain ⟨⟨bt,bu,bx⟩,aX,aY,ai,aj⟩:=b.nr aC ac;obtain ⟨e1,q1⟩:=dx bt;obtain ⟨e2,q2⟩:=dx bu;obtain ⟨e3,q3⟩:=dx bx;have aZ:(qtx (dB o.nx)).length<=1000000:=PP (bl q1 dc_) dc_;have bz:(qtx (dB o.ny)).length<=1000000:=PP (bl q2 dc_) dc_;have bA:QB 23 (CY o):=(lY (fM aX) ai aj).le dc_;have bB:QB 23 (rK o):=(lY (fM aY) ai aj).le dc_;obtain ⟨g,aK⟩:∃ g,(fun k=>([1, -1]:List Rat).map (ju (bs B) (bp B) k (atT t fun j=>(slf B.pts t j).1) (CY o))++([1, -1]:List Rat).map (ju (bs B) (bp B) k (atT t fun j=>(slf B.pts t j).2) (rK o)))=g:=⟨_,rfl⟩;have A:rowsO B o p t z=(cQ B.col o).flatMap g:=by unfold rowsO;rw [aF aC,aF ac,<- aK]
  have bC:∀ k,(g k).length=4:=fun k=>by rw [<- aK];rfl
  have bD:=qw (fun j=>(slf B.pts t j).1) ap;have bE:=qw (fun j=>(slf B.pts t j).2) ap;have bF:∀ x∈atT t (fun j=>(slf B.pts t j).1),x.1<bp B:=mU (P:=fun x=>x.1<bp B) l.1 l.2.1 l.2.2;have bG:∀ x∈atT t (fun j=>(slf B.pts t j).2),x.1<bp B:=mU (P:=fun x=>x.1<bp B) l.1 l.2.1 l.2.2;have bH:∀ x∈atT t (fun j=>(slf B.pts t j).1),QB 23 x.2:=mU (P:=fun x=>QB 23 x.2) ((b.sl 0).1.le dc_) ((b.sl 1).1.le dc_) ((b.sl 2).1.le dc_);have bI:∀ x∈atT t (fun j=>(slf B.pts t j).2),QB 23 x.2:=mU (P:=fun x=>QB 23 x.2) ((b.sl 0).2.le dc_) ((b.sl 1).2.le dc_) ((b.sl 2).2.le dc_);refine Tc 1 Z fun R a=>?_;refine Td (bkT O 2) U8 ?_;refine Te U6 ?_;refine TM (Dc _ d.m_ _ B.pts B.tris ti t aQ.m_ S b.tri b.sl) U7 (fun cp ak _ bJ=>?_);obtain ⟨be,bn,rfl,bK,bL⟩:=bJ;refine C6 7 [8,13,14,15,21,22,23] a Z ?_;clear a R;refine Tb 2 [8,13,14,15,21,22,23,77] Z ?_;refine G.cd (fun a0=>?_) fun a0=>?_
  ·exact absurd a0 dc_
  refine Tx [0,1,2,3,4,5,6,7,8,9,10,11,12] [(3,1),(7,1)] Z kr_ (fun R M a=>?_);refine Tg 2 Z ?_;refine Td (bkT E 1) U8 ?_;refine TA (fun _=>(by have h:=eC ak (dB o.nx) aZ;rw [<- e1] at h;exact h)) U9 ?_;refine Tg 2 Z ?_;refine Td (bkT E 1) U8 ?_;refine TA (fun _=>(by have h:=gb ak d.m_ (-dB o.nx) (dB o.nz) 11 dc_ dc_ (fM aX) ai aj;rw [<- e3] at h;exact h)) U9 ?_;refine Tg 5 Z ?_;refine Th [8,13,14,15,21,22,24] a Z ?_;clear a M R;refine Tx [0,1,2,3,4,5,6,7,8,9,10,11,12] [(3,1),(7,1)] Z kr_ (fun R M a=>?_);refine Tg 2 Z ?_;refine Td (bkT E 1) U8 ?_;refine TA (fun _=>(by have h:=eC ak (dB o.ny) bz;rw [<- e2] at h;exact h)) U9 ?_;refine Tg 2 Z ?_;refine Td (bkT E 1) U8 ?_;refine TA (fun _=>(by have h:=gb ak d.m_ (-dB o.ny) (dB o.nz) 11 dc_ dc_ (fM aY) ai aj;rw [<- e3] at h;exact h)) U9 ?_;refine Tg 5 Z ?_;refine Th [13,14,15,21,22,24,26] a Z ?_;clear a M R;refine Tb 3 [14,15,21,22,24,26,101,102,103] Z ?_;refine G.loop (fun fr F y H=>∃ (j:Nat)(vs:List Value)(w:Value),(j<=(cQ B.col o).length/\RowsOk F vs (((cQ B.col o).take j).flatMap g))/\fr=[(14,[],.pointer (some ⟨c,0,none⟩)),(15,[],.func (.func 245) #[] #[.pointer (some ⟨c,0,none⟩),.pointer (some ⟨n,0,none⟩)]),(21,[],.map (some be)),(22,[],.map (some bn)),(24,[],ah (qtx (CY o))),(26,[],ah (qtx (rK o))),(101,[],.slice Al (cQ B.col o).length cl),(102,[],.int .i64 (cQ B.col o).length),(103,[],.int .i64 j)]/\y=[.obj c (.cells ⟨[w]⟩ 47 (0,0)),.arr w 140 2 (((cQ B.col o).take j).flatMap g).length (aE vs (((cQ B.col o).take j).flatMap g)).flatten]/\H=(cQ B.col o).length-j) (hn_ [14,15,21,22,24,26,101,102,103] Z) ⟨0,[],.slice none 0 0,⟨PG _,RowsOk.nil _⟩,Z,Z,Z⟩ (fun fr cq cr m aZ I=>?_);obtain ⟨j,vs,w,⟨hj,J⟩,rfl,rfl,rfl⟩:=I;refine Tb 1 [14,15,21,22,24,26,101,102,103,104] Z ?_;refine G.cd (fun aM=>?_) fun aM=>?_
  ·have K:j<(cQ B.col o).length:=by
    have:=OQ aM;omega
   obtain ⟨k,L⟩:∃ k,(cQ B.col o)[j]?=some k:=⟨(cQ B.col o)[j],al K⟩;have ad:=aP k (Px L);have ae:=fG bC ((cQ B.col o).take j);rw [PM] at ae;have aH:=jd g L;refine Tf fun R a=>?_;refine Tt ax.m_ U10 om_ (bW L) fl_ (fun cs bM=>?_);refine Td bM U8 ?_;refine C6 1 [14,15,21,22,24,26,29,101,102,103] a Z ?_;clear a R;refine TC [(5,3)] Z (fun R a=>?_);refine Tg 4 Z ?_;refine Tz [[ah [49]],[ah [45,49]]] U12 (fun ct _ _ bO=>?_);refine D.call (ji _ d.m_ (bs B) (bp B) k be c n (atT t fun j=>(slf B.pts t j).1) (CY o) [1, -1] _ w vs _ T ad (Mem.get N mup) (Mem.get bK mup) bD bF bH bA ((Eo bO).mono mup) Eb dc_ J.m_ om_) Z (.inr dc_) U6 (PC _) fl_ (fun cu _ cw _ bP=>?_);refine Th [14,15,21,22,24,26,29,101,102,103] a Z ?_;clear a R;obtain ⟨aI,w3,rfl,rfl,af⟩:=bP;refine TC [(5,3)] Z (fun R a=>?_);refine Tg 4 Z ?_;refine Tz [[ah [49]],[ah [45,49]]] U12 (fun cy _ _ bQ=>?_);refine D.call (ji _ d.m_ (bs B) (bp B) k bn c n (atT t fun j=>(slf B.pts t j).2) (rK o) [1, -1] _ w3 aI _ T ad (Mem.get N mup) (Mem.get bL mup) bE bG bI bB ((Eo bQ).mono mup) Eb dc_ af.m_ (by rw [PH,ae];simp;omega)) Z (.inr dc_) U6 (PC _) fl_ (fun cz _ cA _ bR=>?_);refine Th [14,15,21,22,24,26,101,102,103] a Z ?_;clear a R;refine Tf fun R a=>?_;refine Tm _ U7 ?_;refine C6 1 [14,15,21,22,24,26,101,102,103] a Z ?_;clear a R;obtain ⟨bS,w4,rfl,rfl,a1⟩:=bR;rw [show ((cQ B.col o).take j).flatMap g++([1, -1]:List Rat).map (ju (bs B) (bp B) k (atT t fun j=>(slf B.pts t j).1) (CY o))++([1, -1]:List Rat).map (ju (bs B) (bp B) k (atT t fun j=>(slf B.pts t j).2) (rK o))=((cQ B.col o).take (j+1)).flatMap g by rw [aH,<- aK,P8]] at a1 ⊢;refine Tp (m':=(cQ B.col o).length-(j+1)) om_ mup (hn_ [14,15,21,22,24,26,101,102,103] Z) ⟨j+1,bS,w4,⟨by omega,a1⟩,Z,Z,Z⟩
  have K:j=(cQ B.col o).length:=by
   have:=PE aM;omega
  rw [K,PO,<- A] at J ⊢;refine Tr 0 mup (hn_ [14] Z) ⟨vs,w,J.mono mup,Z,Z⟩
 obtain ⟨vs ,w,a2,rfl,rfl⟩:=I;refine G.freezeArr 1 (aE vs (rowsO B o p t z)) Z Z (bX _ _) (bN a2.1) (fun Cr cB bT=>?_);have a3:RowsIn Cr w (rowsO B o p t z):=⟨vs,a2.mono mup,bT⟩;refine Tf fun R a=>?_;refine Ti ag U9 ?_;refine Ts (Dh _ d.m_ w (rowsO B o p t z) a3.m_ b.rows (fun r hr=>by rw [zX r hr];omega) (PP (vH (by unfold bs at a7;omega)) dc_)) U7 fl_ ?_;refine C6 4 [6,7] a Z ?_;clear a R;refine Tn (G.dropAll (TD U3 ?_));exact ⟨Z,w,Z,a3.mono mup⟩
structure Rich (B:Bk)(fs:List Rat)(RO:Nat->List RowQ):Prop where
 good:Good B.pts B.tris
 br:BookR B
 bz:fK B=0
 terr:Terr B fs
 h60:bs B*bp B<=60
 fine:∀ i o,B.obs[i]?=some o->∃ p ti t z,Fine B fs o p ti t z/\RO i=rowsO B o p t z
theorem lX (h:fK B=0):nY B.col=0:=by
 unfold fK at h;split at h
 ·rename_i h1;exact absurd h h1
 split at h
 ·rename_i h1;exact absurd h h1
 rename_i h1;exact P1 h1
theorem uy {l:List Lay}(h:nY l=0):l≠[]/\l.length<=60:=by
 unfold nY at h;split at h
 ·exact absurd h dc_
 rename_i h0;split at h
 ·exact absurd h dc_
 exact ⟨h0,by omega⟩
theorem Rich.bookz {a:Value}{d:Nat->List RowQ}(h:Rich B fs d)(e:Tabs C)(b:BookIn C a B):BookZ C a B 0 :=
 ⟨b,fun D c=>by have h2:=kH D (e.mono c) a B (b.mono c) h.good h.br;rwa [h.bz] at h2,fun _=>(uy (lX h.bz)).1,PP (uy (lX h.bz)).2 dc_,h.good.ok.lp⟩
theorem Rich.scol {a:Nat->List RowQ}(h:Rich B fs a):bs B+1=B.col.length/\B.col.length<=60:=by
 obtain ⟨h1,h2⟩:=uy (lX h.bz);have:=Qi.2 h1;unfold bs;omega
theorem O5 (C:Mem)(f:Tabs C)(b:Value)(B:Bk)(c:List Rat)(d:Nat->List RowQ)(i:Nat)(g:BookIn C b B)(a:Rich B c d)(j:i<B.obs.length) :
  Pur cx.P 183 [fT (bs B) (bp B),b,.int .i64 i] C fun u D=>∃ v,u=.tuple #[v,.int .i64 0]/\RowsIn D v (d i):=by
 have e:B.obs[i]?=some B.obs[i]:=al j;obtain ⟨p,k,t,z,l,m⟩:=a.fine i _ e;have h:=Ls C f b B c i _ p k t z g a.good a.br a.bz a.terr e l a.h60 (lX a.bz) a.scol.1 a.scol.2
 rwa [<- m] at h
theorem oQ {a:Nat->List RowQ}(b:Rich B fs a)(c:i<B.obs.length):(a i).length<=240/\∀ r∈a i,r.f.length=bs B*bp B:=by
 have d:B.obs[i]?=some B.obs[i]:=al c;obtain ⟨p,h,t,z,j,e⟩:=b.fine i _ d;have g:(cQ B.col B.obs[i]).length<=60:=by
  unfold cQ xF;refine PP (Q5 _ _) ?_;rw [QS];have:=b.scol.2;omega
 rw [e];exact ⟨vH g,zX⟩
def bH (B:Bk):List RowQ:=bi (bs B) (bp B) B.col (B.col.length-2)
theorem BQ {b:Nat->List RowQ}(a:Rich B fs b):(bH B).length<=120:=by
 have h:=mm (bs B) (bp B) B.col (B.col.length-2);have h1:=a.scol.1;have h2:(B.col.length-2)*bp B<=bs B*bp B:=Qp _ om_;have h3:=a.h60;unfold bH;omega
structure SrcQ where
 n:Int
 r:RowQ
def ck (vs:List Value)(l:List SrcQ):List (List Value):=List.zipWith (fun w (s:SrcQ)=>[.int .i64 s.n,w,ah (qtx s.r.b)]) vs l
def SrcsOk (C:Mem)(vs:List Value)(l:List SrcQ):Prop:=RowsOk C vs (l.map SrcQ.r)
def Hc (C:Mem)(v:Value)(l:List SrcQ):Prop:=∃ vs,SrcsOk C vs l/\Sl C 3 v (ck vs l)
theorem SrcsOk.mono {C D:Mem}{a:List Value}{l:List SrcQ}(h:SrcsOk C a l)(b:C.le D):SrcsOk D a l:=RowsOk.mono h b
theorem SrcsOk.m_ {D:Mem}{l:List SrcQ}(h:SrcsOk C vs l)(a:C.le D:=by exact mup):SrcsOk D vs l:=SrcsOk.mono h a
theorem SrcsOk.snoc {C:Mem}{a:List Value}{l:List SrcQ}{v:Value}{s:SrcQ}(h:SrcsOk C a l)(b:Sl C 1 v (s.r.f.map eh)):SrcsOk C (a++[v]) (l++[s]):=by
 unfold SrcsOk at h ⊢;rw [Qb];exact RowsOk.snoc h b
theorem kX {l:List SrcQ}(h:SrcsOk C vs l):vs.length=l.length:=by have:=h.1;simpa using this
theorem kY {l:List SrcQ}(h:vs.length=l.length)(v:Value)(s:SrcQ):ck (vs++[v]) (l++[s])=ck vs l++[[.int .i64 s.n,v,ah (qtx s.r.b)]]:=by
 unfold ck;rw [List.zipWith_append h];rfl
theorem nj {l:List SrcQ}(h:vs.length=l.length):(ck vs l).length=l.length:=by simp [ck,h]
theorem qM (b:List Value)(l:List SrcQ):∀ r∈ck b l,r.length=3:=by
 intro r hr;unfold ck at hr;obtain ⟨i,a⟩:=Rr hr;rw [List.getElem?_zipWith] at a;cases h1:b[i]? <;> cases h2:l[i]? <;> rw [h1,h2] at a <;> simp at a
 subst a;rfl
def kg (n:Int)(l:List RowQ):List SrcQ:=l.map fun r=>⟨n,r⟩
def bQ (T:List RowQ)(RO:Nat->List RowQ)(l:List Nat):List SrcQ:=kg (-1) T++l.flatMap fun i=>kg (i:Nat) (RO i)
theorem kW {n:Int}{l:List RowQ}{r:RowQ}(h:l[i]?=some r):kg n (l.take (i+1))=kg n (l.take i)++[⟨n,r⟩]:=by
 unfold kg;rw [P0,h,Qb];rfl
theorem wT {T:List RowQ}{RO:Nat->List RowQ}:∀ {l:List Nat},(∀ i∈l,(RO i).length<=240)->l.length<=100->T.length<=120->(bQ T RO l).length<=120+240*l.length:=by
 intro l h e hT;unfold bQ;rw [PH];have b:∀ l:List Nat,(∀ i∈l,(RO i).length<=240)->(l.flatMap fun i=>kg (i:Nat) (RO i)).length<=240*l.length:=by
  intro l;induction l with
  | nil=>intro _;simp
  | cons a l c =>
   intro h;have h1:=h a PB;have h2:=c fun i d=>h i (PK _ d);rw [List.flatMap_cons,PH,PR];have:(kg (a:Nat) (RO a)).length=(RO a).length:=by simp [kg]
   omega
 have h1:=b l h;have:(kg (-1) T).length=T.length:=by simp [kg]
 omega
theorem GN (C:Mem)(hT:Tabs C)(bv lv:Value)(B:Bk)(fs:List Rat)(c:Nat->List RowQ)(l:List Nat)(hB:BookIn C bv B)(o:Rich B fs c)(M:Sl C 1 lv (l.map aS))(ad:∀ i∈l,i<B.obs.length)(aO:l.length<=100)(aP:(bQ (bH B) c l).length<=300) :
  Pur cx.P 114 [fT (bs B) (bp B),bv,lv] C fun u D=>∃ v,u=.tuple #[v,.int .i64 0]/\Hc D v (bQ (bH B) c l):=by
 have aw:=hB;have ay:=BQ o;obtain ⟨v1,v2,tv,cv,ov,rfl,h1,h2,h3,h4,h5⟩:=id hB.ex;obtain ⟨N,O,rfl,az,aQ,_⟩:=id M;have aR:maxLen<=9223372036854775807:=by simp [maxLen]
 simp only [am] at M az ⊢;have aA:=fun m:List Nat=>fun hm:∀ i∈m,i<B.obs.length=>fun aB:m.length<=100=>wT (T:=bH B) (RO:=c) (l:=m) (fun i F=>(oQ o (hm i F)).1) aB ay;refine Tk func114 66 U3 fun w0=>Tf fun R d=>Tv U6 fun Q=>Tv U6 fun S=>C6 2 [2,3,4] d Z<|G.freeze 1 Z fun _ _ ae=>G.freeze 0 Z fun _ _ af=>Tb 1 [2,3,4,8] Z<|Tf fun R d=>Td (bkT ae 2) U8<|Te U6<|Td (bkT af 1) U8<|TM (vk _ hT.m_ _ (bs B) (bp B) B.col h4.m_ o.scol.1 o.h60 o.br.col) U7 (fun aT _ _ aC=>?_);obtain ⟨ai,U,H⟩:=aC;rw [show bi (bs B) (bp B) B.col (B.col.length-2)=bH B from rfl] at U H;have aj:=U.1;obtain ⟨At,ct,rfl,aD,aU,_⟩:=id H;simp only [bN aj] at H aD ⊢;refine C6 2 [2,3,4,8,20,21,22] d Z<|G.nilArr 142 3<|G.loop (fun fr x e y=>∃ (i:Nat)(vs:List Value)(w:Value),(i<=(bH B).length/\SrcsOk x vs (kg (-1) ((bH B).take i)))/\fr=[(2,[],.slice N l.length O),(3,[],.pointer (some ⟨Q,0,none⟩)),(4,[],.pointer (some ⟨S,0,none⟩)),(8,[],w),(20,[],.slice At (bH B).length ct),(21,[],.int .i64 (bH B).length),(22,[],.int .i64 i)]/\e=[.arr w 142 3 (kg (-1) ((bH B).take i)).length (ck vs (kg (-1) ((bH B).take i))).flatten]/\y=(bH B).length-i) (hn_ [2,3,4,8,20,21,22] Z) ⟨0,[],_,⟨PG _,RowsOk.nil _⟩,Z,Z,Z⟩ (fun fr aV aW m _ z=>?_);obtain ⟨i,vs,w,⟨F,I⟩,rfl,rfl,rfl⟩:=z;refine Tb 1 [2,3,4,8,20,21,22,23] Z<|G.cd (fun V=>?_) fun V=>?_
 ·have J:i<(bH B).length:=by
   have:=OQ V;omega
  obtain ⟨r,g⟩:∃ r,(bH B)[i]?=some r:=⟨(bH B)[i],al J⟩;obtain ⟨p,q⟩:∃ p,ai[i]?=some p:=⟨ai[i]'(by rw [aj];exact J),al _⟩;have t:=U.2 i p r q g;obtain ⟨h,n,rfl,_⟩:=id t;simp only [am] at t q;have aE:(kg (-1) ((bH B).take i)).length=i:=by simp [kg];omega
  refine Tf fun R d=>Tt H.m_ U10 om_ (kp q g) fl_ fun aX aF=>Td aF U8<|Tq U5 fun aY=>Tj (j:=0) U12<|Th [2,3,4,8,10,20,21,22] d Z<|Tc 1 Z fun R d=>Ti ag U9<|Tw [.int .i64 (-1),.slice h r.f.length n,ah (qtx r.b)] U8<|Tz [[.int .i64 (-1),.slice h r.f.length n,ah (qtx r.b)]] U12 fun aZ _ _ aG=>D.append (j:=1) U11 aG Z ax (by simp only [ba];omega) fl_ fun ak=>C6 1 [2,3,4,8,20,21,22] d Z<|Tf fun R d=>Tm _ U7<|C6 1 [2,3,4,8,20,21,22] d Z ?_;have A:=SrcsOk.snoc (s:=⟨-1,r⟩) I.m_ t.m_;rw [<- kW g] at A;refine TV 1 Z<|Tu (L':=[.arr ak 142 3 (kg (-1) ((bH B).take (i+1))).length (ck (vs++[.slice h r.f.length n]) (kg (-1) ((bH B).take (i+1)))).flatten]) (by rw [kW g,kY (kX I)];simp)<|Tp (m':=(bH B).length-(i+1)) om_ mup (hn_ [2,3,4,8,20,21,22] Z) ⟨i+1,vs++[.slice h r.f.length n],ak,⟨by omega,A.mono mup⟩,Z,Z,Z⟩
 have J:i=(bH B).length:=by
  have:=PE V;omega
 rw [J,PO] at I ⊢;refine Tb 3 [3,4,8,32,33,34] Z<|Tu (L':=[.arr w 142 3 (bQ (bH B) c (l.take 0)).length (ck vs (bQ (bH B) c (l.take 0))).flatten]) (by simp [bQ])<|G.loop (fun fr x e y=>∃ (j:Nat)(vs:List Value)(w:Value),(j<=l.length/\SrcsOk x vs (bQ (bH B) c (l.take j)))/\fr=[(3,[],.pointer (some ⟨Q,0,none⟩)),(4,[],.pointer (some ⟨S,0,none⟩)),(8,[],w),(32,[],.slice N l.length O),(33,[],.int .i64 l.length),(34,[],.int .i64 j)]/\e=[.arr w 142 3 (bQ (bH B) c (l.take j)).length (ck vs (bQ (bH B) c (l.take j))).flatten]/\y=l.length-j) (hn_ [3,4,8,32,33,34] Z) ⟨0,vs,w,⟨PG _,by simpa [bQ] using I⟩,Z,Z,Z⟩ (fun fr a0 a1 m _ z=>?_);obtain ⟨j,vs,w,⟨hj,E⟩,rfl,rfl,rfl⟩:=z;refine Tb 1 [3,4,8,32,33,34,35] Z<|G.cd (fun W=>?_) fun W=>?_
 ·have X:j<l.length:=by
   have:=OQ W;omega
  obtain ⟨a,Y⟩:∃ a,l[j]?=some a:=⟨l[j],al X⟩;have an:=ad a (Px Y);have aH:=aA (l.take j) (fun i F=>ad i (QR F)) (by rw [PM];omega);rw [PM] at aH;have aI:bQ (bH B) c (l.take (j+1))=bQ (bH B) c (l.take j)++kg (a:Nat) (c a):=by
   unfold bQ;rw [jd _ Y,P8]
  have a2:=(oQ o an).1;refine Tf fun R d=>Tt M.m_ U10 om_ (bW Y) fl_ fun a3 aJ=>Td aJ U8<|C6 1 [3,4,8,12,32,33,34] d Z<|Tf fun R d=>Td (bkT ae 2) U8<|Td (bkT af 5) U8<|Te U6<|TM (O5 _ hT.m_ _ B fs c a aw.m_ o an) U7 (fun a4 _ _ aK=>?_);obtain ⟨rv,rfl,ao,ap,aa⟩:=aK;have aq:=ap.1;obtain ⟨Ar,cr,rfl,aL,a5,_⟩:=id aa;simp only [bN aq] at aa aL ⊢;refine C6 5 [3,4,8,12,13,14,32,33,34] d Z<|Tb 2 [3,4,8,12,13,14,32,33,34,46] Z<|G.cd (fun ar=>?_) fun ar=>?_
  ·exact absurd ar dc_
  refine Tb 3 [3,4,8,12,32,33,34,48,49,50] Z<|Tu (L':=[.arr w 142 3 (bQ (bH B) c (l.take j)++kg (a:Nat) ((c a).take 0)).length (ck vs (bQ (bH B) c (l.take j)++kg (a:Nat) ((c a).take 0))).flatten]) (by simp [kg])<|G.loop (fun fr x e y=>∃ (k:Nat)(vs:List Value)(w:Value),(k<=(c a).length/\SrcsOk x vs (bQ (bH B) c (l.take j)++kg (a:Nat) ((c a).take k)))/\fr=[(3,[],.pointer (some ⟨Q,0,none⟩)),(4,[],.pointer (some ⟨S,0,none⟩)),(8,[],w),(12,[],.int .i64 a),(32,[],.slice N l.length O),(33,[],.int .i64 l.length),(34,[],.int .i64 j),(48,[],.slice Ar (c a).length cr),(49,[],.int .i64 (c a).length),(50,[],.int .i64 k)]/\e=[.arr w 142 3 (bQ (bH B) c (l.take j)++kg (a:Nat) ((c a).take k)).length (ck vs (bQ (bH B) c (l.take j)++kg (a:Nat) ((c a).take k))).flatten]/\y=(c a).length-k) (hn_ [3,4,8,12,32,33,34,48,49,50] Z) ⟨0,vs,w,⟨PG _,by rw [show kg (a:Nat) ((c a).take 0)=[] from Z,PY];exact E.mono mup⟩,Z,Z,Z⟩ (fun fr a6 a7 m _ z=>?_);obtain ⟨k,vs,w,⟨hk,K⟩,rfl,rfl,rfl⟩:=z;refine Tb 1 [3,4,8,12,32,33,34,48,49,50,51] Z<|G.cd (fun ab=>?_) fun ab=>?_
  ·have L:k<(c a).length:=by
    have:=OQ ab;omega
   obtain ⟨r,g⟩:∃ r,(c a)[k]?=some r:=⟨(c a)[k],al L⟩;obtain ⟨p,q⟩:∃ p,ao[k]?=some p:=⟨ao[k]'(by rw [aq];exact L),al _⟩;have t:=ap.2 k p r q g;obtain ⟨h,n,rfl,_⟩:=id t;simp only [am] at t q;have aE:(kg (a:Nat) ((c a).take k)).length<=240:=by simp [kg];omega
   have a8:(bQ (bH B) c (l.take j)++kg (a:Nat) ((c a).take k)).length<=100000:=by rw [PH];omega
   refine Tf fun R d=>Tt aa.m_ U10 om_ (kp q g) fl_ fun a9 aM=>Td aM U8<|Tq U5 fun bb=>Tj (j:=0) U12<|Th [3,4,8,12,16,32,33,34,48,49,50] d Z<|Tc 2 Z fun R d=>Ti ag U9<|Tw [.int .i64 (a:Nat),.slice h r.f.length n,ah (qtx r.b)] U8<|Tz [[.int .i64 (a:Nat),.slice h r.f.length n,ah (qtx r.b)]] U12 fun bc _ _ aN=>D.append (j:=1) U11 aN Z ax (by simp only [ba];omega) fl_ fun au=>C6 1 [3,4,8,12,32,33,34,48,49,50] d Z<|Tf fun R d=>Tm _ U7<|C6 1 [3,4,8,12,32,33,34,48,49,50] d Z ?_;have A:=SrcsOk.snoc (s:=⟨(a:Nat),r⟩) K.m_ t.m_;rw [P8,<- kW g] at A;refine TV 1 Z<|Tu (L':=[.arr au 142 3 (bQ (bH B) c (l.take j)++kg (a:Nat) ((c a).take (k+1))).length (ck (vs++[.slice h r.f.length n]) (bQ (bH B) c (l.take j)++kg (a:Nat) ((c a).take (k+1)))).flatten]) (by rw [kW g,<- P8,kY (kX K)];simp;omega)<|Tp (m':=(c a).length-(k+1)) om_ mup (hn_ [3,4,8,12,32,33,34,48,49,50] Z) ⟨k+1,vs++[.slice h r.f.length n],au,⟨by omega,A.mono mup⟩,Z,Z,Z⟩
  have L:k=(c a).length:=by
   have:=PE ab;omega
  rw [L,PO,<- aI] at K ⊢;refine Tf fun R d=>Tm _ U7<|C6 1 [3,4,8,32,33,34] d Z<|Tp (m':=l.length-(j+1)) om_ mup (hn_ [3,4,8,32,33,34] Z) ⟨j+1,vs,w,⟨by omega,K⟩,Z,Z,Z⟩
 have X:j=l.length:=by
  have:=PE W;omega
 rw [X,PO] at E ⊢;refine G.freezeArr 0 (ck vs (bQ (bH B) c l)) Z Z (qM _ _) (nj (kX E)) (fun Cg hg ac=>?_);obtain ⟨Ag,cg,rfl,_⟩:=id ac;rw [nj (kX E)] at ac ⊢;refine Tb 3 [8,64] Z<|G.cd (fun av=>?_) fun av=>?_
 ·exfalso;have:=OQ av;omega
 refine Tb 3 [6,7] Z<|Tn (G.dropAll (TD U3 ?_));exact ⟨Z,_,Z,vs,E.mono mup,ac.mono mup⟩
theorem Oz (C:Mem)(g:Tabs C)(h:Value)(B:Bk)(k:List Rat)(b:Nat->List RowQ)(c:BookIn C h B)(d:Rich B k b)(x:B.obs.length<=100)(z:(bQ (bH B) b (List.range B.obs.length)).length<=300) :
  Pur cx.P 54 [h] C fun u D=>∃ v,u=.tuple #[v,.int .i64 0]/\Hc D v (bQ (bH B) b (List.range B.obs.length)):=by
 have l:=c;have n:=d.bookz g c;obtain ⟨O,Q,S,T,U,rfl,h1,h2,h3,h4,h5⟩:=id c.ex;obtain ⟨V,W,rfl,A,X,_⟩:=id h5;have Y:maxLen<=9223372036854775807:=by simp [maxLen]
 simp only [am] at h5 A l n ⊢;refine Tk func54 33 U3 fun w0=>Tf fun R a=>Tv U6 fun b1=>C6 2 [1] a Z<|G.freeze 0 Z fun _ _ e=>Tf fun R a=>Td (bkT e 5) U8<|To (N4 _ _ B n.m_ d.h60) U7<|Tg 3 Z<|Tq U5 fun E=>Tj (j:=0) U12<|C6 1 [1,4,5] a Z<|Tb 2 [1,4,5,14] Z<|G.cd (fun o=>?_) fun o=>?_
 ·exact absurd o dc_
 refine Tb 1 [1,4,6] Z<|Tc 1 Z fun R a=>Td (bkT e 1) U8<|C6 2 [1,4,6,18,19] a Z<|G.freeze 0 Z fun _ _ F=>G.nilArr 3 1<|G.loop (fun fr C' p H=>∃ (i:Nat)(w:Value),(i<=B.obs.length)/\fr=[(1,[],.pointer (some ⟨b1,0,none⟩)),(4,[],.pointer (some ⟨E,0,none⟩)),(6,[],w),(18,[],.int .i64 B.obs.length),(19,[],.int .i64 i)]/\p=[.arr w 3 1 (List.range i).length ((List.range i).map aS).flatten]/\H=B.obs.length-i) (hn_ [1,4,6,18,19] Z) ⟨0,_,PG _,Z,Z,Z⟩ (fun fr aa ab m _ I=>?_);obtain ⟨i,w,q,rfl,rfl,rfl⟩:=I;refine Tb 1 [1,4,6,18,19,20] Z<|G.cd (fun f=>?_) fun f=>?_
 ·have s:i<B.obs.length:=by
   have:=OQ f;omega
  have ac:(List.range i).length<=100:=by simp;omega
  refine Tb 2 [1,4,6,7,18,19] Z<|Tc 2 Z fun R a=>Tz [aS i] U12 fun ad _ _ J=>D.append (j:=0) U11 J Z ax (by simp only [ba];omega) fl_ fun t=>C6 1 [1,4,6,18,19] a Z<|Tf fun R a=>Tm _ U7<|C6 1 [1,4,6,18,19] a Z<|Tu (L':=[.arr t 3 1 (List.range (i+1)).length ((List.range (i+1)).map aS).flatten]) (by rw [QF];simp [aS])<|Tp (m':=B.obs.length-(i+1)) om_ mup (hn_ [1,4,6,18,19] Z) ⟨i+1,t,om_,Z,Z,Z⟩
 have s:i=B.obs.length:=by
  have:=PE f;omega
 subst s;refine G.freezeArr 0 ((List.range B.obs.length).map aS) rfl rfl (by intro r hr;obtain ⟨y,_,rfl⟩:=PF.1 hr;rfl) ap fun Cg hg K=>Tf fun R a=>Td (bkT F 2) U8<|Td (bkT e 5) U8<|Te U6<|TG (GN _ g.m_ _ _ B k b (List.range B.obs.length) l.m_ d K.m_ (fun i q=>PS.1 q) (by simpa using x) z) U7 fl_ (fun ae _ _ L=>?_);obtain ⟨M,rfl,N⟩:=L;refine C6 4 [2,3] a Z<|Tn (G.dropAll (TD U3 ?_));exact ⟨Z,M,Z,N⟩
end Go.Proofs.YtfjcldheldflbaaGreatDoor
