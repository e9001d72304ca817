import Derived.Test.YtfjcldheldflbaaGreatDoorG9
set_option maxHeartbeats 4000000
namespace Go.Proofs.YtfjcldheldflbaaGreatDoor
open Go.Proofs.Tryz
open Go Go.Jog
set_option maxRecDepth 100000
variable {B:Bk}{C:Mem}{a b:Nat}{err:Nat->Int}{f:Nat->Rat}{fs:List Rat}{i j k n:Nat}{o:Obs}{p:Pt}{t:Tri}{v:Value}{vs:List Value}{z:Rat}{α:Type}
structure RowQ where
 f:List Rat
 b:Rat
def aA (vs:List Value)(rows:List RowQ):List (List Value):=List.zipWith (λw (r:RowQ)=>[w,ae (qtx r.b)]) vs rows
def RowsOk (C:Mem)(vs:List Value)(rows:List RowQ):Prop:=vs.length=rows.length/\∀(i:Nat)(w:Value)(r:RowQ),vs[i]?=some w->rows[i]?=some r->Sl C 1 w (r.f.map eH)
theorem RowsOk.mono {C D:Mem}{a:List Value}{b:List RowQ}(h:RowsOk C a b)(c:C.le D):RowsOk D a b:=⟨h.1,λi w r h1 h2=>(h.2 i w r h1 h2).mono c⟩
theorem RowsOk.m_ {D:Mem}{a:List RowQ}(h:RowsOk C vs a)(b:C.le D:=by exact mup):RowsOk D vs a:=RowsOk.mono h b
theorem RowsOk.nil (C:Mem):RowsOk C [] []:=⟨rfl,λi w r h1 _=>by simp at h1⟩
theorem RowsOk.snoc {a:List RowQ}{r:RowQ}(h:RowsOk C vs a)(c:Sl C 1 v (r.f.map eH)):RowsOk C (vs++[v]) (a++[r]):=by
 have h0:=h.1;refine⟨by simp[h0],λj w r' h1 h2=>?_⟩;rcases SP j vs.length with d|e
 .rw[Ta d]at h1;rw[Ta om_]at h2;exact h.2 j w r' h1 h2
 rw[SR e]at h1;rw[SR om_,<- h0]at h2;cases b:j-vs.length with
|zero=>rw[b]at h1 h2;simp at h1 h2;subst h1;subst h2;exact c
|succ q=>rw[b]at h1;simp at h1
theorem ck {a:List RowQ}(h:vs.length=a.length)(v:Value)(r:RowQ):aA (vs++[v]) (a++[r])=aA vs a++[[v,ae (qtx r.b)]]:=by
 unfold aA;rw[List.zipWith_append h];rfl
theorem bG {a:List RowQ}(h:vs.length=a.length):(aA vs a).length=a.length:=by simp[aA,h]
theorem co (b:List Value)(c:List RowQ):∀r∈aA b c,r.length=2:=by
 intro r hr;unfold aA at hr;obtain⟨i,a⟩:=TR hr;rw[List.getElem?_zipWith]at a;cases h1:b[i]? <;> cases h2:c[i]? <;> rw[h1,h2]at a <;> simp at a
 subst a;rfl
def RowsIn (C:Mem)(v:Value)(rows:List RowQ):Prop:=∃vs:List Value,RowsOk C vs rows/\Sl C 2 v (aA vs rows)
theorem RowsIn.mono {C D:Mem}{v:Value}{a:List RowQ}(h:RowsIn C v a)(b:C.le D):RowsIn D v a:=by
 obtain⟨vs,h1,h2⟩:=h;exact⟨vs,h1.mono b,h2.mono b⟩
theorem RowsIn.m_ {D:Mem}{a:List RowQ}(h:RowsIn C v a)(b:C.le D:=by exact mup):RowsIn D v a:=RowsIn.mono h b
def F4 (s p:Nat)(x:Lay)(i k:Nat):RowQ:=⟨sZ (s*p) [(i*p+k, -1),((i-1)*p+k,1)], -x.min⟩
def Ir (s p:Nat)(m:Rat)(i k:Nat):RowQ:=⟨sZ (s*p) [(i*p+k,1),((i-1)*p+k, -1)],m⟩
def kO (s p:Nat)(x:Lay)(i k:Nat):List RowQ :=
 F4 s p x i k::(match x.max with
 |none=>[]
 |some m=>[Ir s p m i k])
def bZ (s p:Nat)(x:Lay)(i:Nat):Nat->List RowQ
|0=>[]
|k+1=>bZ s p x i k++kO s p x i k
def bQ (s p:Nat)(col:List Lay):Nat->List RowQ
|0=>[]
|n+1=>bQ s p col n++bZ s p (col.getD (n+1) ⟨[],0,none⟩) (n+1) p
theorem nB (s p:Nat)(x:Lay)(i:Nat):∀k,(bZ s p x i k).length<=2*k
|0=>Sg _
|k+1=>by
  have:=nB s p x i k;have h2:(kO s p x i k).length<=2:=by unfold kO;split <;> simp
  simp only[bZ,So];omega
theorem nA (s p:Nat)(a:List Lay):∀n,(bQ s p a n).length<=2*(n*p)
|0=>by simp[bQ]
|n+1=>by
  have:=nA s p a n;have h2:=nB s p (a.getD (n+1) ⟨[],0,none⟩) (n+1) p;simp only[bQ,So,Nat.succ_mul];omega
theorem fa:qtx (-1)=[45,49]:=by
 rw[fe (q:=1) dc_ dc_,fR]
theorem st2 (c d:Rat)(e:a<n)(f:b<n):aB (aB (List.replicate n (ae [48])) [ae (qtx c)] a) [ae (qtx d)] b=so n [(b,d),(a,c)]:=by
 rw[vE,ku _ _ e,ku _ _ f]
theorem st2' (c d:Rat)(e:a<n)(f:b<n)(g:a≠b):aB (aB (List.replicate n (ae [48])) [ae (qtx d)] b) [ae (qtx c)] a=so n [(b,d),(a,c)]:=by
 rw[st2 d c f e];unfold so;rw[xA (List.Perm.swap _ _ _) (by simp;exact g)]
theorem rC (n:Nat)(d:List (Nat × Rat)):so n d=((sZ n d).map eH).flatten:=(eE (λq=>ae (qtx q)) _).symm
theorem jY (n:Nat)(d:List (Nat × Rat)):(sZ n d).length=n:=by simp[sZ]
theorem wZ (C:Mem)(_aM:Tabs C)(v:Value)(s p:Nat)(c:List Lay)(A:Sl C 3 v (c.map pi))(hs:s+1=c.length)(aN:s*p<=60)(ai:∀x∈c,P0 x) :
  Pur cx.P 182 [gu s p,v] C λu D=>RowsIn D u (bQ s p c (c.length-2)):=by
 obtain⟨M,c0,rfl,aj,aO,_⟩:=id A;have aP:=mx_
 simp only[au]at A aj⊢;refine V7 func182 81 U3 λw0=>?_;refine V3 λR d=>?_;refine Wi U6 (λN=>?_);refine C6 1 [1,2] d U ?_;clear d R;refine G.freeze 0 U (λ_ _ B=>?_);refine U0 1 [1,2,5] U ?_;refine U0 1 [1,2,5,6] U ?_;refine G.nilArr 140 2 ?_;refine G.loop (λfr K f E=>∃(i:Nat)(vs:List Value)(w:Value),(1<=i/\(i+1<=c.length∨i=1)/\RowsOk K vs (bQ s p c (i-1)))/\fr=[(1,[],.slice M c.length c0),(2,[],p_ N),(5,[],w),(6,[],i_ i)]/\f=[.arr w 140 2 (bQ s p c (i-1)).length (aA vs (bQ s p c (i-1))).flatten]/\E=c.length-i) (hn_ [1,2,5,6] U) ⟨1,[],_,⟨Sg _,.inr U,RowsOk.nil _⟩,U,U,U⟩ (λfr aQ aR m _ F=>?_);obtain⟨i,vs,w,⟨aS,aT,L⟩,rfl,rfl,rfl⟩:=F;refine U1 1 U λR d=>?_;refine V8 _ U U6 ?_;refine C6 3 [1,2,5,6,15] d U ?_;clear d R;refine G.cd (λO=>?_) λO=>?_
 .have X:i+1<c.length:=by
   have:=RD O;omega
  obtain⟨x,H⟩:∃x,c[i]?=some x:=⟨c[i]'om_,ah om_⟩;obtain⟨Y,aU,aV⟩:=ai x (aJ H);have aW:=nA s p c (i-1);refine U1 1 U λR d=>?_;refine V1 (bkT B 1) U8 ?_;refine C6 1 [1,2,5,6,19,20] d U ?_;clear d R;refine Wk (L':=[.arr w 140 2 (bQ s p c (i-1)++bZ s p x i 0).length (aA vs (bQ s p c (i-1)++bZ s p x i 0)).flatten]) (by simp[bZ]) ?_;refine G.loop (λfr K f E=>∃(k:Nat)(g:List Value)(o:Value),(k<=p/\RowsOk K g (bQ s p c (i-1)++bZ s p x i k))/\fr=[(1,[],.slice M c.length c0),(2,[],p_ N),(5,[],o),(6,[],i_ i),(19,[],i_ p),(20,[],i_ k)]/\f=[.arr o 140 2 (bQ s p c (i-1)++bZ s p x i k).length (aA g (bQ s p c (i-1)++bZ s p x i k)).flatten]/\E=p-k) (hn_ [1,2,5,6,19,20] U) ⟨0,vs,w,⟨Sm _,by simpa [bZ] using L⟩,U,U,U⟩ (λfr aX aY m _ F=>?_);obtain⟨k,g,o,⟨hk,Q⟩,rfl,rfl,rfl⟩:=F;refine U0 1 [1,2,5,6,19,20,21] U ?_;refine G.cd (λS=>?_) λS=>?_
  .have Z:k<p:=by simpa using S
   have aZ:i*p+p<=s*p:=by
    rw[<- Nat.succ_mul];exact SY _ om_
   have a0:(i-1)*p+p=i*p:=by
    rw[<- Nat.succ_mul,show(i-1).succ=i by omega]
   have a1:=nB s p x i k;have a2:(i-1)*p<=60:=by omega
   have aa:(bQ s p c (i-1)++bZ s p x i k).length<=400:=by
    rw[So];omega
   refine U0 2 [1,2,5,6,7,19,20] U ?_;refine Wn [0,1,2,3,4,5,6,7,8,9,10] [(4,1),(8,1)] U kr_ (λR e d=>?_);refine V1 (bkT B 2) U8 ?_;refine V2 U6 ?_;refine Wx (((i-1:Nat):Int)) U4 om_ om_ om_ U2 ?_;refine V2 U6 ?_;refine Wo (λ_=>(zU _ s p (i-1) k om_)) U9 ?_;refine V1 (bkT B 2) U8 ?_;refine V4 2 U ?_;refine Wo (λ_=>(zU _ s p i k om_)) U9 ?_;refine V4 2 U ?_;refine V5 [1,2,5,6,8,9,19,20] d U ?_;clear d e R;refine G.cut (λfr K f E=>∃(bz h:Nat),(True)/\fr=[(1,[],.slice M c.length c0),(2,[],p_ N),(5,[],o),(6,[],i_ i),(8,[],i_ ((((i-1)*p+k:Nat)):Int)),(9,[],i_ (((i*p+k:Nat)):Int)),(10,[],p_ h),(19,[],i_ p),(20,[],i_ k)]/\f=[.arr (s_ bz (s*p) (s*p)) 32 1 (s*p) (List.replicate (s*p) (ae [48])),.obj h (.cells ⟨[s_ bz (s*p) (s*p),ae (qtx (-x.min))]⟩ 140 (0,0)),.arr o 140 2 (bQ s p c (i-1)++bZ s p x i k).length (aA g (bQ s p c (i-1)++bZ s p x i k)).flatten]) ?_ (λfr a3 a4 E a5 F=>?_)
   .refine WW (.cut [0,2,3,4,5,6] (.alt 1 (.fin [7,8,9,10]) (.alt 9 (.fin [1,7,8,10]) .stop))) [(7,1),(1,3),(6,0)] U U kr_ (λR e d T=>?_);refine V1 (bkT B 2) U8 ?_;refine V4 2 U ?_;refine Wf A.m_ U10 om_ (cI H) fl_ (λa6 ak=>?_);refine W5 ak U10 fl_ (λa7 al=>?_);refine WF (λ_=>(al.mono e)) U9 ?_;refine WK T U ⟨?_, ?_,trivial⟩
    .refine D.call (oO _ s p om_) U (.inr dc_) U6 (Sp _) fl_ (λam an ao _ V=>?_);refine WC (λ_=>(fq _ x.min (Oq Y))) U9 ?_;obtain⟨bz,rfl,rfl⟩:=V;refine Wm [s_ bz (s*p:Nat) (s*p:Nat),ae (qtx (-x.min))] U8 ?_;refine Wg U5 (λh=>?_)
     first|refine Xb (j:=0) U12 ?_|refine Xb (j:=1) U12 ?_
     refine V5 [1,2,5,6,8,9,10,19,20] d U ?_;clear d e T R;refine G.perm (L':=[.arr (s_ bz (s*p) (s*p)) 32 1 (s*p) (List.replicate (s*p) (ae [48])),.obj h (.cells ⟨[s_ bz (s*p) (s*p),ae (qtx (-x.min))]⟩ 140 (0,0)),.arr o 140 2 (bQ s p c (i-1)++bZ s p x i k).length (aA g (bQ s p c (i-1)++bZ s p x i k)).flatten]) (by first|exact Sp _|exact List.Perm.swap _ _ _) ?_;exact Wj 0 mup (hn_ [1,2,5,6,8,9,10,19,20] U) ⟨bz,h,trivial,U,U⟩
    refine Wg U5 (λh=>?_);refine D.call (oO _ s p om_) U (.inr dc_) U6 (Sp _) fl_ (λam an ao _ V=>?_);refine WC (λ_=>(fq _ x.min (Oq Y))) U9 ?_;obtain⟨bz,rfl,rfl⟩:=V;refine Wm [s_ bz (s*p:Nat) (s*p:Nat),ae (qtx (-x.min))] U8 ?_
    first|refine Xb (j:=0) U12 ?_|refine Xb (j:=1) U12 ?_
    refine V5 [1,2,5,6,8,9,10,19,20] d U ?_;clear d e T R;refine G.perm (L':=[.arr (s_ bz (s*p) (s*p)) 32 1 (s*p) (List.replicate (s*p) (ae [48])),.obj h (.cells ⟨[s_ bz (s*p) (s*p),ae (qtx (-x.min))]⟩ 140 (0,0)),.arr o 140 2 (bQ s p c (i-1)++bZ s p x i k).length (aA g (bQ s p c (i-1)++bZ s p x i k)).flatten]) (by first|exact Sp _|exact List.Perm.swap _ _ _) ?_;exact Wj 0 mup (hn_ [1,2,5,6,8,9,10,19,20] U) ⟨bz,h,trivial,U,U⟩
   obtain⟨bz,h,_,rfl,rfl⟩:=F;refine XH 1 U [0,1,2,3,4,5,6,7,8,9] [(1,0),(4,0)] U kr_ (λa8 R a9 ab e d=>?_);refine V2 U6 ?_;refine WF (λ_=>(PtrTo.block ab _).mono e) U9 ?_;refine V4 2 U ?_;refine WF (λ_=>(PtrTo.block ab _).mono e) U9 ?_;refine V2 U6 ?_;refine Ww (((i-1)*p+k)) U10 (λ_=>⟨by omega,by omega,(T0 _).symm⟩) U2 ?_;refine WA (j:=0) U11 (by simp[];omega) ?_;refine Ww ((i*p+k)) U10 (λ_=>⟨by omega,by omega,(T0 _).symm⟩) U2 ?_;refine WA (j:=0) U11 (by simp[aB];omega) ?_;refine WV [(1,[],_),(2,[],_),(5,[],_),(6,[],_),(8,[],_),(9,[],_),(10,[],_),(19,[],_),(20,[],_)] ⟨U,U,U,U,U,U,U,U,U,trivial⟩ (d _ _ _ U (λba bb=>?_));clear d e R;refine G.perm (L':=[.arr (s_ bz (s*p) (s*p)) 32 1 (s*p) (so (s*p) [(i*p+k, -1),((i-1)*p+k,1)]),.obj h (.cells ⟨[s_ bz (s*p) (s*p),ae (qtx (-x.min))]⟩ 140 (0,0)),.arr o 140 2 (bQ s p c (i-1)++bZ s p x i k).length (aA g (bQ s p c (i-1)++bZ s p x i k)).flatten]) (by
    first
   |(rw[<- st2 (n:=s*p) 1 (-1) om_ om_,fR,fa];exact List.Perm.swap _ _ _)
   |(rw[<- st2' (n:=s*p) 1 (-1) om_ om_ om_,fR,fa];exact List.Perm.swap _ _ _)) ?_
   refine G.freezeArr 0 ((sZ (s*p) [(i*p+k, -1),((i-1)*p+k,1)]).map eH) ⟨rfl,(rC _ _)⟩ (by intro r hr;obtain⟨y,_,rfl⟩:=Sn.1 hr;rfl) (by simp[jY]) (λCz hz ap=>?_);have aq:=Q.1;have W:=RowsOk.snoc (r:=F4 s p x i k) Q.m_ ap;have ar:=ck aq (s_ bz (s*p) (s*p)) (F4 s p x i k);refine U1 1 U λR d=>?_;refine V9 ag U9 ?_;refine Wq [[s_ bz (s*p:Nat) (s*p:Nat),ae (qtx (-x.min))]] U12 (λbc _ _ av=>?_);refine D.append (j:=1) U11 av U ax (by simp only[Sk];omega) fl_ (λI=>?_);refine C6 1 [1,2,5,6,8,9,10,19,20] d U ?_;clear d R;refine Wk (L':=[.arr I 140 2 (bQ s p c (i-1)++bZ s p x i k++[F4 s p x i k]).length (aA (g++[s_ bz (s*p) (s*p)]) (bQ s p c (i-1)++bZ s p x i k++[F4 s p x i k])).flatten,.obj h (.cells ⟨[s_ bz (s*p) (s*p),ae (qtx (-x.min))]⟩ 140 (0,0))]) (by rw[ar];simp[F4];omega) ?_;refine U1 2 U λR d=>?_;refine Wf A.m_ U10 om_ (cI H) fl_ (λbd aw=>?_);refine W5 aw U10 fl_ (λbe ay=>?_);refine V1 ay U8 ?_;refine C6 1 [1,2,5,6,8,9,10,19,20,58] d U ?_;clear d R;refine G.cd (λz=>?_) λz=>?_
   .obtain⟨m,hm⟩:∃m,x.max=some m:=by
     rw[qR]at z;exact Vt.1 z
    have J:kO s p x i k=[F4 s p x i k,Ir s p m i k]:=by unfold kO;rw[hm]
    have az:EZ x.max=qtx m:=by rw[hm];rfl
    refine Wn [0,2,3,4,5,6,1,7,8] [(1,3),(6,0)] U kr_ (λR e d=>?_);refine V1 (bkT B 2) U8 ?_;refine V4 2 U ?_;refine Wf A.m_ U10 om_ (cI H) fl_ (λbf aC=>?_);refine W5 aC U10 fl_ (λbg aD=>?_);refine WF (λ_=>(aD.mono e)) U9 ?_;refine D.call (oO _ s p om_) U (.inr dc_) U6 (Sp _) fl_ (λbh _ bi _ aE=>?_);obtain⟨t,rfl,rfl⟩:=aE;refine Wm [s_ t (s*p:Nat) (s*p:Nat),ae (EZ x.max)] U8 ?_;refine Wa (j:=2) U12 ?_;refine V5 [1,2,5,6,8,9,10,19,20] d U ?_;clear d e R;refine G.perm (L':=[.arr (s_ t (s*p) (s*p)) 32 1 (s*p) (List.replicate (s*p) (ae [48])),.obj h (.cells ⟨[s_ t (s*p) (s*p),ae (EZ x.max)]⟩ 140 (0,0)),.arr I 140 2 (bQ s p c (i-1)++bZ s p x i k++[F4 s p x i k]).length (aA (g++[s_ bz (s*p) (s*p)]) (bQ s p c (i-1)++bZ s p x i k++[F4 s p x i k])).flatten]) (by first|exact Sp _|exact List.Perm.swap _ _ _) ?_;refine XH 1 U [0,1,2,3,4,5,6,7,8,9] [(1,0),(4,0)] U kr_ (λbj R bk ac e d=>?_);refine V2 U6 ?_;refine WF (λ_=>(PtrTo.block ac _).mono e) U9 ?_;refine V4 2 U ?_;refine WF (λ_=>(PtrTo.block ac _).mono e) U9 ?_;refine V2 U6 ?_;refine Ww (((i-1)*p+k)) U10 (λ_=>⟨by omega,by omega,(T0 _).symm⟩) U2 ?_;refine WA (j:=0) U11 (by simp[];omega) ?_;refine Ww ((i*p+k)) U10 (λ_=>⟨by omega,by omega,(T0 _).symm⟩) U2 ?_;refine WA (j:=0) U11 (by simp[aB];omega) ?_;refine WV [(1,[],_),(2,[],_),(5,[],_),(6,[],_),(10,[],_),(19,[],_),(20,[],_)] ⟨U,U,U,U,U,U,U,trivial⟩ (d _ _ _ U (λbl bm=>?_));clear d e R;refine G.perm (L':=[.arr (s_ t (s*p) (s*p)) 32 1 (s*p) (so (s*p) [(i*p+k,1),((i-1)*p+k, -1)]),.obj h (.cells ⟨[s_ t (s*p) (s*p),ae (EZ x.max)]⟩ 140 (0,0)),.arr I 140 2 (bQ s p c (i-1)++bZ s p x i k++[F4 s p x i k]).length (aA (g++[s_ bz (s*p) (s*p)]) (bQ s p c (i-1)++bZ s p x i k++[F4 s p x i k])).flatten]) (by
     first
    |(rw[<- st2 (n:=s*p) (-1) 1 om_ om_,fR,fa];exact List.Perm.swap _ _ _)
    |(rw[<- st2' (n:=s*p) (-1) 1 om_ om_ om_,fR,fa];exact List.Perm.swap _ _ _)) ?_
    refine G.freezeArr 0 ((sZ (s*p) [(i*p+k,1),((i-1)*p+k, -1)]).map eH) ⟨rfl,(rC _ _)⟩ (by intro r hr;obtain⟨y,_,rfl⟩:=Sn.1 hr;rfl) (by simp[jY]) (λbn bo aF=>?_);have aG:=RowsOk.snoc (r:=Ir s p m i k) W.m_ aF;have aH:=ck W.1 (s_ t (s*p) (s*p)) (Ir s p m i k);refine U1 1 U λR d=>?_;refine V9 ag U9 ?_;refine Wq [[s_ t (s*p:Nat) (s*p:Nat),ae (EZ x.max)]] U12 (λbp _ _ aI=>?_);refine D.append (j:=1) U11 aI U (by simp only[So,Sk,maxLen]at aa⊢;omega) (by simp only[So,Sk]at aa⊢;omega) fl_ (λad=>?_);refine C6 1 [1,2,5,6,19,20] d U ?_;clear d R;refine V3 λR d=>?_;refine V8 _ U U6 ?_;refine C6 1 [1,2,5,6,19,20] d U ?_;clear d R;refine WH 1 U ?_;refine Wk (L':=[.arr ad 140 2 (bQ s p c (i-1)++bZ s p x i (k+1)).length (aA (g++[s_ bz (s*p) (s*p)]++[s_ t (s*p) (s*p)]) (bQ s p c (i-1)++bZ s p x i (k+1))).flatten]) (by
     rw[bZ,J,<- SX,show ∀(l:List RowQ)(a b:RowQ),l++[a,b]=l++[a]++[b] from λl a b=>by simp,aH,az];simp[Ir];omega) ?_
    refine We (m':=p-(k+1)) om_ mup (hn_ [1,2,5,6,19,20] U) ⟨k+1,_,ad,⟨by omega,by
     rw[bZ,J,<- SX,show ∀(l:List RowQ)(a b:RowQ),l++[a,b]=l++[a]++[b] from λl a b=>by simp];exact aG.mono mup⟩,U,U,U⟩
   have hm:x.max=none:=by
    rw[qR]at z;cases aK:x.max with
   |none=>rfl
   |some q=>rw[aK]at z;cases z
   have J:kO s p x i k=[F4 s p x i k]:=by unfold kO;rw[hm]
   refine V3 λR d=>?_;refine V8 _ U U6 ?_;refine C6 1 [1,2,5,6,19,20] d U ?_;clear d R;refine WH 1 U ?_;refine Wk (L':=[.arr I 140 2 (bQ s p c (i-1)++bZ s p x i (k+1)).length (aA (g++[s_ bz (s*p) (s*p)]) (bQ s p c (i-1)++bZ s p x i (k+1))).flatten]) (by rw[bZ,J,<- SX];rfl) ?_;refine We (m':=p-(k+1)) om_ mup (hn_ [1,2,5,6,19,20] U) ⟨k+1,_,I,⟨by omega,by
    rw[bZ,J,<- SX];exact W.mono mup⟩,U,U,U⟩
  have Z:k=p:=by
   have:¬ k<p:=by simpa using S
   omega
  have af:bQ s p c (i-1)++bZ s p x i k=bQ s p c i:=by
   obtain⟨j,rfl⟩:∃j,i=j+1:=⟨i-1,by omega⟩;rw[Z,Uy,bQ,M4 H]
  refine U1 1 U λR d=>?_;refine V8 _ U U6 ?_;refine C6 1 [1,2,5,6] d U ?_;clear d R;refine Wk (L':=[.arr o 140 2 (bQ s p c (i+1-1)).length (aA g (bQ s p c (i+1-1))).flatten]) (by rw[af];rfl) ?_;refine We (m':=c.length-(i+1)) om_ mup (hn_ [1,2,5,6] U) ⟨i+1,g,o,⟨by omega,.inl om_,by rw[Uy,<- af];exact Q⟩,U,U,U⟩
 have X:i-1=c.length-2:=by
  have:=Si O;omega
 refine U0 2 [4] U ?_;rw[X]at L⊢;refine G.freezeArr 0 (aA vs (bQ s p c (c.length-2))) U2 (co _ _) (bG L.1) (λCg hg aL=>?_);refine V6 U2 ?_;exact⟨U,vs,L.mono mup,aL⟩
theorem vG {l:List (Nat × Rat)}(q:Rat)(h:k ∉ l.map (·.1)):iY (jF l) ((k:Nat):Int) (ae (qtx q))=jF (l++[(k,q)]):=by
 rw[kl (by
  rw[cN];unfold jF;rw[Th];intro hm;obtain⟨x,a,b⟩:=Sn.1 hm;have:x.1=k:=by
   have h2:((x.1:Nat):Int)=(k:Int):=b;omega
  exact h (this ▸ Ut (f:=(·.1)) a))]
 simp[jF]
theorem rY (a c:Pt):dO a a c=0/\dO c a a=0/\dO a c a=0:=by
 unfold dO;refine⟨?_, ?_, ?_⟩ <;> grind
theorem uz {a:List Pt}{b:List Tri}(c:MeshOk a b)(d:t∈b):t.1≠t.2.1/\t.1≠t.2.2/\t.2.1≠t.2.2:=by
 have h:=kp c d;refine⟨λe=>h ?_,λe=>h ?_,λe=>h ?_⟩
 .have:cor a t 1=cor a t 0:=by show a.getD t.2.1 _=a.getD t.1 _;rw[e]
  rw[this];exact(rY _ _).1
 .have:cor a t 2=cor a t 0:=by show a.getD t.2.2 _=a.getD t.1 _;rw[e]
  rw[this];exact(rY _ _).2.2
 have:cor a t 2=cor a t 1:=by show a.getD t.2.2 _=a.getD t.2.1 _;rw[e]
 rw[this];exact(rY _ _).2.1
def atT (t:Tri)(f:Nat->Rat):List (Nat × Rat):=[(t.1,f 0),(t.2.1,f 1),(t.2.2,f 2)]
theorem rV (f:Nat->Rat)(h:t.1≠t.2.1/\t.1≠t.2.2/\t.2.1≠t.2.2):((atT t f).map (·.1)).Nodup:=by
 simp[atT,h.1,h.2.1,h.2.2]
theorem zE (t:Tri)(h:j<3):(jG t)[j]?=some (i_ (pR t j:Nat)):=by
 rcases(by omega:j=0∨j=1∨j=2) with rfl|rfl|rfl <;> rfl
theorem MC {a:TypeId}(h:C b=some (.cells ⟨[ae (qtx (f 0)),ae (qtx (f 1)),ae (qtx (f 2))]⟩ a (0,0)))(c:k<3):PtrTo C (.pointer (some ⟨b,k,none⟩)) [ae (qtx (f k))]:=by
 rcases(by omega:k=0∨k=1∨k=2) with rfl|rfl|rfl <;> exact PtrTo.blockT h _ 1
theorem jE (t:Tri)(f:Nat->Rat)(j:Nat)(a:j<3)(h:t.1≠t.2.1/\t.1≠t.2.2/\t.2.1≠t.2.2):iY (jF ((atT t f).take j)) ((pR t j:Nat):Int) (ae (qtx (f j)))=jF ((atT t f).take (j+1)):=by
 rcases(by omega:j=0∨j=1∨j=2) with rfl|rfl|rfl
 .exact vG (l:=[]) _ al
 .exact vG (l:=[(t.1,f 0)]) (k:=t.2.1) _ (by simpa using h.1.symm)
 exact vG (l:=[(t.1,f 0),(t.2.1,f 1)]) (k:=t.2.2) _ (by simp[h.2.1.symm,h.2.2.symm])
theorem FD (C:Mem)(s:Tabs C)(v:Value)(c:List Pt)(d:List Tri)(p:Pt)(i:Nat)(r:List Nat)(t:Tri)(w:MeshIn C v c d)(l:Good c d)(x:QP 23 p)(y:PtR p)(I:lj c d p=i::r)(k:d[i]?=some t)(J:∀j,QB 22 (wgt c t p j)) :
  Pur cx.P 242 [v,ptV p] C λu D=>∃b,u=.tuple #[.map (some b),i_ (i:Nat),i_ 0]/\D b=some (bg keyZ.enc (jF (atT t (wgt c t p)))):=by
 have K:=l.ok;have n:=w;have af:=(aT.1 k).1;obtain⟨L,M,N⟩:=uz K (aJ k);obtain⟨v1,v2,rfl,h1,h2⟩:=id w.ex;obtain⟨A2,c2,rfl,O,ag,_⟩:=id h2;have ah:=mx_
 simp only[au]at h2 n O⊢;refine V7 func242 54 U3 λw0=>V3 λR a=>Wi U6 λb2=>Wi U6 λb3=>C6 3 [2,3] a U<|G.freeze 1 U λ_ _ o=>G.freeze 0 U λ_ _ z=>V3 λR a=>V1 (bkT o 2) U8<|V1 (bkT z 2) U8<|Wz (mB _ s.m_ _ c d p n.m_ l x y) U7 (λai _ _ Q=>?_);obtain⟨wv,rfl,e⟩:=Q;rw[I]at e;obtain⟨S,T,A,_⟩:=id e;rw[au]at A;subst A;refine C6 5 [2,3,6,7] a U<|U0 2 [2,3,6,7,18] U<|G.cd (λB=>?_) λB=>?_
 .exact absurd B dc_
 refine Wn [0,1,2,3,4,5,6,7,8,9,10,11] [(5,1)] U kr_ λR E a=>V1 (bkT o 2) U8<|V2 U6<|Wf e.m_ U10 om_ (rfl:(List.map aW (i::r))[0]?=some (aW i)) fl_ λaj V=>V1 V U8<|V1 (bkT z 2) U8<|WC (λ_=>(xp _ s.m_ _ c d p i t n.m_ l x y k J)) U9<|V4 3 U<|Wg U5 λW=>Wa (j:=0) U12<|C6 1 [2,6,7,8] a U<|U0 2 [2,6,7,8,30] U<|G.cd (λF=>?_) λF=>?_
 .exact absurd F dc_
 refine G.freeze 0 U λ_ _ X=>V3 λR a=>D.makeMap keyZ U U U U fl_ λg=>C6 1 [2,4,7,8] a U<|Wn [0,1,2,3,4,5,6,7] [] U kr_ λR E a=>V2 U6<|V1 (bkT o 1) U8<|V2 U6<|Wf e.m_ U10 om_ (rfl:(List.map aW (i::r))[0]?=some (aW i)) fl_ λak Y=>V1 Y U8<|Wf h2.m_ U10 om_ (cI k) fl_ λal Z=>V1 Z U8<|C6 1 [4,7,8,39,40] a U<|G.loop (λfr C' H μ=>∃(j:Nat),(j<=3)/\fr=[(4,[],.map (some g)),(7,[],.slice S (i::r).length T),(8,[],p_ W),(39,[],.agg ⟨jG t⟩),(40,[],i_ j)]/\H=[.obj g (bg keyZ.enc (jF ((atT t (wgt c t p)).take j)))]/\μ=3-j) (hn_ [4,7,8,39,40] U) ⟨0,Sm _,U,U,U⟩ (λfr aa am m ab hI=>?_);obtain⟨j,hj,rfl,rfl,rfl⟩:=hI;refine U0 1 [4,7,8,39,40,41] U<|G.cd (λq=>?_) λq=>?_
 .have h:j<3:=by
   simp only[Sr]at q;omega
  have ac:=MC (f:=wgt c t p) (Mem.get (D:=aa) X mup) h;refine U1 1 U λR a=>W7 U11 (λ_=>⟨by omega,by omega,zE t (j:=j) h⟩) U2<|C6 2 [4,7,8,9,10,39,40] a U<|U1 3 U λR a=>Wp (j) U9 (λ_=>⟨by omega,by omega,by show j=0+(j:Int).toNat*1;omega⟩) U2<|V1 ac.m_ U8<|D.mapUpdate keyZ (j:=0) U U U U U U U U U U kr_<|V5 [4,7,8,39,40] a U<|V3 λR a=>V8 _ U U6<|C6 1 [4,7,8,39,40] a U<|Wk (L':=[.obj g (bg keyZ.enc (jF ((atT t (wgt c t p)).take (j+1))))]) (congrArg (λm=>[Ent.obj g (bg keyZ.enc m)]) (jE t _ j h ⟨L,M,N⟩))<|We (m':=3-(j+1)) om_ ab (hn_ [4,7,8,39,40] U) ⟨j+1,by omega,U,U,U⟩
 have h:j=3:=by
  simp only[SS]at q;omega
 subst h;refine G.freeze 0 U λCm an ad=>Wn [0,1,2,3,4,5,6] [] U kr_ λR E a=>V4 2 U<|Wf e.m_ U10 om_ (rfl:(List.map aW (i::r))[0]?=some (aW i)) fl_ λao ae=>V1 ae U8<|C6 3 [4,5,6] a U<|Wd (G.dropAll (WP U4 ?_));exact⟨U,g,U,ad⟩
def wS (n k:Nat):List Rat:=sZ n [(k,1)]
def slf (pts:List Pt)(t:Tri)(j:Nat):Pt:=dW pts (wS pts.length (pR t j)) t
theorem wR (n k:Nat):(wS n k).length=n:=jY n _
theorem Ca :∀q∈wS n k,q=0∨q=1:=by
 intro q a;unfold wS sZ at a;obtain⟨j,_,rfl⟩:=Sn.1 a;simp only[ef];split
 .exact .inr U
 exact .inl U
theorem B8 :∀q∈wS n k,QB 1 q:=by
 intro q a;rcases Ca q a with rfl|rfl
 .exact QB_zero
 exact QB_one
theorem Fy (C:Mem)(L:Tabs C)(z:Value)(a:List Pt)(g:List Tri)(i:Nat)(t:Tri)(A:MeshIn C z a g)(B:Good a g)(f:g[i]?=some t)(M:∀j,QP 22 (slf a t j)) :
  Pur cx.P 248 [z,i_ i] C λu D=>∃E F,u=.tuple #[.map (some E),.map (some F),i_ 0]/\D E=some (bg keyZ.enc (jF (atT t λj=>(slf a t j).1)))/\D F=some (bg keyZ.enc (jF (atT t λj=>(slf a t j).2))):=by
 have n:=B.ok;have H:=A;have ab:=n.lp;have I:=n.ins t (aJ f);obtain⟨ac,ad,af⟩:=id I;have ag:=(aT.1 f).1;obtain⟨h,k,l⟩:=uz n (aJ f);obtain⟨v1,v2,rfl,h1,h2⟩:=id A.ex;obtain⟨A1,c1,rfl,ah,ai,_⟩:=id h1;obtain⟨A2,c2,rfl,N,aj,_⟩:=id h2;have ak:=mx_
 simp only[au]at h1 h2 H N⊢;refine V7 func248 51 U3 λw0=>V3 λR b=>Wi U6 λJ=>C6 3 [1,2] b U<|G.freeze 0 U λ_ _ o=>V3 λR b=>D.makeMap keyZ U U U U fl_ λc=>D.makeMap keyZ U U U U fl_ λd=>C6 2 [1,2,4,5] b U<|U1 1 U λR b=>V1 (bkT o 1) U8<|V2 U6<|Wf h2.m_ U10 om_ (cI f) fl_ λal O=>V1 O U8<|C6 1 [1,2,4,5,18,19] b U<|G.perm (L':=[.obj c (bg keyZ.enc (jF [])),.obj d (bg keyZ.enc (jF []))]) (List.Perm.swap _ _ _)<|G.loop (λfr Q e p=>∃(j:Nat),(j<=3)/\fr=[(1,[],i_ i),(2,[],p_ J),(4,[],.map (some c)),(5,[],.map (some d)),(18,[],.agg ⟨jG t⟩),(19,[],i_ j)]/\e=[.obj c (bg keyZ.enc (jF ((atT t λj=>(slf a t j).1).take j))),.obj d (bg keyZ.enc (jF ((atT t λj=>(slf a t j).2).take j)))]/\p=3-j) (hn_ [1,2,4,5,18,19] U) ⟨0,Sm _,U,U,U⟩ (λfr am an m _ s=>?_);obtain⟨j,hj,rfl,rfl,rfl⟩:=s;refine U0 1 [1,2,4,5,18,19,20] U<|G.cd (λv=>?_) λv=>?_
 .have w:j<3:=by
   simp only[Sr]at v;omega
  refine V3 λR b=>W7 U11 (λ_=>⟨by omega,by omega,zE t (j:=j) w⟩) U2<|C6 1 [1,2,4,5,8,18,19] b U<|Wt [(4,3)] U λR b=>Wq [[ae [48]]] U12 λao _ _ S=>V2 U6<|V1 (bkT o 1) U8<|V2 U6<|D.call (EO _ _ a.length [48] S.m_ om_) U (.inr dc_) U6 (Sp _) fl_ λap _ aq _ T=>C6 1 [1,2,4,5,8,9,18,19] b U ?_;obtain⟨bz,rfl,rfl⟩:=T;have V:pR t j<a.length:=fK I j;refine Wk (L':=[.arr (s_ bz a.length a.length) 32 1 a.length (so a.length []),.obj c (bg keyZ.enc (jF ((atT t λj=>(slf a t j).1).take j))),.obj d (bg keyZ.enc (jF ((atT t λj=>(slf a t j).2).take j)))]) (by rw[vE];rfl)<|U1 2 U λR b=>Ww ((pR t j)) U10 (λ_=>⟨by omega,by omega,(T0 _).symm⟩) U2<|WA (j:=0) U11 (by rw[vF];simp;omega)<|V5 [1,2,4,5,8,9,18,19] b U<|Wk (L':=[.arr (s_ bz a.length a.length) 32 1 a.length (so a.length [(pR t j,1)]),.obj c (bg keyZ.enc (jF ((atT t λj=>(slf a t j).1).take j))),.obj d (bg keyZ.enc (jF ((atT t λj=>(slf a t j).2).take j)))]) (by rw[<- ku [] 1 V,fR];rfl)<|G.freezeArr 0 ((wS a.length (pR t j)).map eH) ⟨rfl,(rC _ _)⟩ (by intro r hr;obtain⟨y,_,rfl⟩:=Sn.1 hr;rfl) (by rw[au,wR]) λCz hz W=>V3 λR b=>V1 (bkT o 2) U8<|V4 2 U<|Wc (Ki _ L.m_ _ _ a g (wS a.length (pR t j)) 1 dc_ dc_ H.m_ B W.m_ (wR _ _) B8 (λq X=>bx ((B8 q X).le dc_)) i t f (M j)) U7 fl_<|V4 3 U<|Wg U5 λar=>Wa (j:=0) U12<|C6 1 [1,2,4,5,8,10,11,18,19] b U<|U0 2 [1,2,4,5,8,10,11,18,19,38] U<|G.cd (λK=>?_) λK=>?_
  .exact absurd K dc_
  refine G.freeze 0 U λ_ _ x=>G.cut (λfr Q e p=>(True)/\fr=[(1,[],i_ i),(2,[],p_ J),(4,[],.map (some c)),(5,[],.map (some d)),(18,[],.agg ⟨jG t⟩),(19,[],i_ ((j:Nat):Int))]/\e=[.obj c (bg keyZ.enc (jF ((atT t λj=>(slf a t j).1).take (j+1)))),.obj d (bg keyZ.enc (jF ((atT t λj=>(slf a t j).2).take (j+1))))]) ?_ (λfr av aw p ax s=>?_)
  .refine WW (.cut [0,1,2,3,4,5,6] (.alt 7 (.fin [8,9]) (.alt 8 (.fin [7,9]) .stop))) [] U U kr_ λR hB b Y=>V4 5 U<|V1 (bkT x 1) U8<|V2 U6<|WK Y U ⟨?_, ?_,trivial⟩
   .refine V1 (bkT x 1) U8 ?_
    first|refine D.mapUpdate keyZ (j:=0) rfl rfl rfl rfl rfl rfl rfl rfl rfl rfl kr_ ?_|refine D.mapUpdate keyZ (j:=1) rfl rfl rfl rfl rfl rfl rfl rfl rfl rfl kr_ ?_
    first|refine D.mapUpdate keyZ (j:=1) rfl rfl rfl rfl rfl rfl rfl rfl rfl rfl kr_ ?_|refine D.mapUpdate keyZ (j:=0) rfl rfl rfl rfl rfl rfl rfl rfl rfl rfl kr_ ?_
    refine V5 [1,2,4,5,18,19] b U<|G.perm (L':=[.obj c (bg keyZ.enc (jF ((atT t λj=>(slf a t j).1).take (j+1)))),.obj d (bg keyZ.enc (jF ((atT t λj=>(slf a t j).2).take (j+1))))]) (by
     rw[<- jE t (λj=>(slf a t j).1) j om_ ⟨h,k,l⟩,<- jE t (λj=>(slf a t j).2) j om_ ⟨h,k,l⟩]
     first|exact Sp _|exact List.Perm.swap _ _ _) ?_
    exact Wj 0 l_ (hn_ [1,2,4,5,18,19] U) ⟨trivial,U,U⟩
   first|refine D.mapUpdate keyZ (j:=0) rfl rfl rfl rfl rfl rfl rfl rfl rfl rfl kr_ ?_|refine D.mapUpdate keyZ (j:=1) rfl rfl rfl rfl rfl rfl rfl rfl rfl rfl kr_ ?_
   refine V1 (bkT x 1) U8 ?_
   first|refine D.mapUpdate keyZ (j:=1) rfl rfl rfl rfl rfl rfl rfl rfl rfl rfl kr_ ?_|refine D.mapUpdate keyZ (j:=0) rfl rfl rfl rfl rfl rfl rfl rfl rfl rfl kr_ ?_
   refine V5 [1,2,4,5,18,19] b U<|G.perm (L':=[.obj c (bg keyZ.enc (jF ((atT t λj=>(slf a t j).1).take (j+1)))),.obj d (bg keyZ.enc (jF ((atT t λj=>(slf a t j).2).take (j+1))))]) (by
    rw[<- jE t (λj=>(slf a t j).1) j om_ ⟨h,k,l⟩,<- jE t (λj=>(slf a t j).2) j om_ ⟨h,k,l⟩]
    first|exact Sp _|exact List.Perm.swap _ _ _) ?_
   exact Wj 0 l_ (hn_ [1,2,4,5,18,19] U) ⟨trivial,U,U⟩
  obtain⟨_,rfl,rfl⟩:=s;refine V3 λR b=>V8 _ U U6<|C6 1 [1,2,4,5,18,19] b U<|We (m':=3-(j+1)) om_ mup (hn_ [1,2,4,5,18,19] U) ⟨j+1,by omega,U,U,U⟩
 have w:j=3:=by
  simp only[SS]at v;omega
 subst w;refine G.freeze 0 U λCm ay Z=>G.freeze 0 U λCn az aa=>U0 5 [4,5,6] U<|Wd (G.dropAll (WP U4 ?_));exact⟨U,c,d,U,Mem.get Z mup,aa⟩
theorem rQ (C:Mem)(v:Value)(l:List Rat)(b:Sl C 1 v (l.map eH))(t:l.length<=1000000):Jog.Fn cx.P 50 [v] C [] λu _w e=>∃A n c,u=.slice A n c/\e=[.arr (.slice A n c) 32 1 l.length (l.map eH).flatten]:=by
 obtain⟨f,c0,rfl,m,x,y,o⟩:=id b;have z:=mx_
 simp only[au]at b m⊢;refine V7 func50 8 U3 λw0=>U0 1 [0] U<|U1 1 U λR d=>Xg U9<|V5 [0,4] d U<|G.cd (λh4=>?_) λh4=>?_
 .have p:f=none:=by
   cases f with
  |none=>rfl
  |some a=>cases h4
  have s:l=[]:=by
   cases l with
  |nil=>rfl
  |cons q r =>
    obtain⟨a,g,_⟩:=o 0 (eH q) rfl;rw[p]at g;cases g
  refine U0 1 [2] U<|G.nilArr 32 1<|Wd (WD U U ?_);exact⟨none,0,0,U,by rw[s];rfl⟩
 refine V3 λR d=>W0 [] U12 fl_ λB=>V2 U6<|WB (j:=0) U11 b.m_ (by simp[eH,kR,ae]) (by simp only[au,SZ,maxLen];omega) (by simp only[au,SZ];omega) fl_ λh i k=>C6 1 [2] d U<|Wk (L':=[.arr (.slice h i k) 32 1 l.length (l.map eH).flatten]) al<|Wd (WD U U ?_);exact⟨h,i,k,U,U⟩
theorem Je (C:Mem)(v:Value)(l:List Rat)(b:Sl C 1 v (l.map eH))(t:l.length<=1000000):Jog.Fn cx.P 48 [v] C [] λu _w e=>∃A n c,u=.slice A n c/\e=[.arr (.slice A n c) 32 1 l.length (l.map eH).flatten]:=by
 obtain⟨f,c0,rfl,m,x,y,o⟩:=id b;have z:=mx_
 simp only[au]at b m⊢;refine V7 func48 8 U3 λw0=>U0 1 [0] U<|U1 1 U λR d=>Xg U9<|V5 [0,4] d U<|G.cd (λh4=>?_) λh4=>?_
 .have p:f=none:=by
   cases f with
  |none=>rfl
  |some a=>cases h4
  have s:l=[]:=by
   cases l with
  |nil=>rfl
  |cons q r =>
    obtain⟨a,g,_⟩:=o 0 (eH q) rfl;rw[p]at g;cases g
  refine U0 1 [2] U<|G.nilArr 32 1<|Wd (WD U U ?_);exact⟨none,0,0,U,by rw[s];rfl⟩
 refine V3 λR d=>W0 [] U12 fl_ λB=>V2 U6<|WB (j:=0) U11 b.m_ (by simp[eH,kR,ae]) (by simp only[au,SZ,maxLen];omega) (by simp only[au,SZ];omega) fl_ λh i k=>C6 1 [2] d U<|Wk (L':=[.arr (.slice h i k) 32 1 l.length (l.map eH).flatten]) al<|Wd (WD U U ?_);exact⟨h,i,k,U,U⟩
def PY (r:RowQ):Prop:=(∀q∈r.f,QB 22 q)/\QB 22 r.b
theorem ir {a:List RowQ}{w:Value}{r:RowQ}(c:vs[i]?=some w)(d:a[i]?=some r):(aA vs a)[i]?=some [w,ae (qtx r.b)]:=by
 unfold aA;rw[List.getElem?_zipWith,c,d]
theorem FG (C:Mem)(hT:Tabs C)(v:Value)(a:List RowQ)(hv:RowsIn C v a)(e:∀r∈a,PY r)(ac:∀r∈a,r.f.length<=1000)(an:a.length<=100000) :
  Gives cx.P 249 [v] C (.tuple #[v,i_ 0]):=by
 obtain⟨vs,z,A⟩:=hv;obtain⟨l,c0,rfl,ad,ao,_⟩:=id A;have ap:=mx_
 simp only[bG z.1]at A ad⊢;refine V7 func249 32 U3 λw0=>U0 2 [0] U<|U0 3 [0,8,9,10] U<|G.loop (λfr B n o=>∃(i:Nat),(i<=a.length)/\fr=[(0,[],.slice l a.length c0),(8,[],.slice l a.length c0),(9,[],i_ a.length),(10,[],i_ i)]/\n=[]/\o=a.length-i) (hn_ [0,8,9,10] U) ⟨0,Sm _,U,U,U⟩ (λfr aq ar m _ p=>?_);obtain⟨i,hi,rfl,rfl,rfl⟩:=p;refine U0 1 [0,8,9,10,11] U<|G.cd (λI=>?_) λI=>?_
 .have J:i<a.length:=by simpa using I
  obtain⟨r,E⟩:∃r,a[i]?=some r:=⟨a[i],ah J⟩;obtain⟨w,K⟩:∃w,vs[i]?=some w:=⟨vs[i]'(by rw[z.1];exact J),ah _⟩;have L:=aJ E;obtain⟨af,ag⟩:=e r L;have av:=ac r L;have aw:(r.f++[r.b]).length<=1001:=by simp;omega
  have x:=z.2 i w r K E;obtain⟨Aw,cw,rfl,_⟩:=id x;refine V3 λR c=>Wf A.m_ U10 om_ (ir K E) fl_ λay ai=>V1 ai U8<|Wg U5 λb5=>Wa (j:=0) U12<|V5 [0,5,8,9,10] c U<|G.freeze 0 U λ_ _ F=>G.cut (λfr B n o=>∃(g:Option Addr)(k:Nat),(Sl B 1 (.slice g (r.f++[r.b]).length k) ((r.f++[r.b]).map eH))/\fr=[(0,[],.slice l a.length c0),(8,[],.slice l a.length c0),(9,[],i_ a.length),(10,[],i_ i),(20,[],.slice g (r.f++[r.b]).length k),(21,[],i_ (r.f++[r.b]).length),(22,[],i_ 0)]/\n=[]) ?_ (λfr az aA o aB p=>?_)
  .refine WW (.cut [0,1,3,8] (.alt 2 (.fin [4,5,6,7]) (.alt 4 (.cut [] (.alt 2 (.fin [5,6,7]) (.alt 5 (.fin [2,6,7]) .stop))) .stop))) [(2,3)] U U kr_ λR hB c M=>V2 U6<|V1 (bkT F 1) U8<|V4 2 U<|WK M U ⟨?_, ?_,trivial⟩
   .refine D.call (rQ _ _ r.f x.m_ om_) U (.inr dc_) U6 (Sp _) fl_ λN O Q _ s=>V1 (bkT F 1) U8<|Wq [eH r.b] U12 (λS T _ t=>?_);obtain⟨V,W,cc,rfl,rfl⟩:=s;refine WB (j:=0) U11 t.m_ (by simp[eH,kR,ae]) ax (by simp only[Sk];omega) fl_ λg X k=>C6 1 [0,8,9,10,20,21,22] c U<|G.freezeArr 0 ((r.f++[r.b]).map eH) ⟨rfl,al⟩ (by intro r e;obtain⟨y,_,rfl⟩:=Sn.1 e;rfl) al (λY Z d=>?_);obtain⟨Az,cz,u,_⟩:=id d;cases u
    simp only[au]at d⊢;exact G.dropAll<|Wj 0 mup (hn_ [0,8,9,10,20,21,22] U) ⟨_,_,d,U,U⟩
   refine V1 (bkT F 1) U8<|WK M U ⟨?_, ?_,trivial⟩
   .refine D.call (rQ _ _ r.f x.m_ om_) U (.inr dc_) U6 (Sp _) fl_ λN O Q _ s=>Wq [eH r.b] U12 (λS T _ t=>?_);obtain⟨V,W,cc,rfl,rfl⟩:=s;refine WB (j:=0) U11 t.m_ (by simp[eH,kR,ae]) ax (by simp only[Sk];omega) fl_ λg X k=>C6 1 [0,8,9,10,20,21,22] c U<|G.freezeArr 0 ((r.f++[r.b]).map eH) ⟨rfl,al⟩ (by intro r e;obtain⟨y,_,rfl⟩:=Sn.1 e;rfl) al (λY Z d=>?_);obtain⟨Az,cz,u,_⟩:=id d;cases u
    simp only[au]at d⊢;exact G.dropAll<|Wj 0 mup (hn_ [0,8,9,10,20,21,22] U) ⟨_,_,d,U,U⟩
   refine Wq [eH r.b] U12 λS T _ t=>D.call (rQ _ _ r.f x.m_ om_) U (.inr dc_) U6 (Sp _) fl_ (λN O Q _ s=>?_);obtain⟨V,W,cc,rfl,rfl⟩:=s;refine WB (j:=0) U11 t.m_ (by simp[eH,kR,ae]) ax (by simp only[Sk];omega) fl_ λg X k=>C6 1 [0,8,9,10,20,21,22] c U<|G.freezeArr 0 ((r.f++[r.b]).map eH) ⟨rfl,al⟩ (by intro r e;obtain⟨y,_,rfl⟩:=Sn.1 e;rfl) al (λY Z d=>?_);obtain⟨Az,cz,u,_⟩:=id d;cases u
   simp only[au]at d⊢;exact G.dropAll<|Wj 0 mup (hn_ [0,8,9,10,20,21,22] U) ⟨_,_,d,U,U⟩
  obtain⟨g,k,aj,rfl,rfl⟩:=p;refine G.loop (λfr B n o=>∃(j:Nat),(j<=(r.f++[r.b]).length)/\fr=[(0,[],.slice l a.length c0),(8,[],.slice l a.length c0),(9,[],i_ a.length),(10,[],i_ i),(20,[],.slice g (r.f++[r.b]).length k),(21,[],i_ (r.f++[r.b]).length),(22,[],i_ j)]/\n=[]/\o=(r.f++[r.b]).length-j) (hn_ [0,8,9,10,20,21,22] U) ⟨0,Sm _,U,U,U⟩ (λfr aC aD m _ p=>?_);obtain⟨j,hj,rfl,rfl,rfl⟩:=p;refine U0 1 [0,8,9,10,20,21,22,23] U<|G.cd (λaa=>?_) λaa=>?_
  .have ak:j<(r.f++[r.b]).length:=by
    have:=RD aa;omega
   obtain⟨q,hq⟩:∃q,(r.f++[r.b])[j]?=some q:=⟨(r.f++[r.b])[j],ah ak⟩;have ab:QB 22 q:=by
    rcases Sx.1 (aJ hq) with h|h
    .exact af q h
    rw[SD.1 h];exact ag
   refine V3 λR c=>Wf aj.m_ U10 om_ (cI hq) fl_ λaE am=>V1 am U8<|C6 1 [0,7,8,9,10,20,21,22] c U<|U1 1 U λR c=>Wb (dB _ hT.m_ _ (uP ab)) U7<|C6 1 [0,8,9,10,20,21,22,28] c U<|G.cd (λH=>?_) λH=>?_
   .exfalso;rw[yX ab]at H;exact absurd H dc_
   refine V3 λR c=>V8 _ U U6<|C6 1 [0,8,9,10,20,21,22] c U<|We (m':=(r.f++[r.b]).length-(j+1)) om_ mup (hn_ [0,8,9,10,20,21,22] U) ⟨j+1,om_,U,U,U⟩
  refine V3 λR c=>V8 _ U U6<|C6 1 [0,8,9,10] c U<|We (m':=a.length-(i+1)) om_ mup (hn_ [0,8,9,10] U) ⟨i+1,om_,U,U,U⟩
 refine U0 3 [2,3] U<|Wd (G.dropAll (Wu U3 ?_));exact⟨U,U⟩
def iq (s p k:Nat)(fm:List (Nat × Rat))(b sg:Rat):RowQ:=⟨Kz s p k fm sg,sg*b⟩
theorem jL (C:Mem)(O:Tabs C)(s p d b g v:Nat)(c:List (Nat × Rat))(e:Rat)(a:List Rat)(I w:Value)(n:List Value)(f:List RowQ)(ak:s*p<=60)(Q:d<s)(S:C v=some (.cells ⟨[i_ (s:Nat),i_ (p:Nat)]⟩ 196 (0,0)))(T:C b=some (bg keyZ.enc (jF c)))(V:(c.map (·.1)).Nodup)(W:∀x∈c,x.1<p)(X:∀x∈c,QB 23 x.2)(Y:QB 23 e)
  (y:Sl C 1 I (a.map eH)) (Z:∀q∈a,QB 1 q) (am:a.length<=2) (aa:RowsOk C n f) (an:f.length<=10000) :
  Jog.Fn cx.P 245 [i_ d,.map (some b),ae (qtx e),I,p_ g,p_ v] C [.obj g (.cells ⟨[w]⟩ 47 (0,0)),.arr w 140 2 f.length (aA n f).flatten]
   λu z k=>∃J w',u=.tuple #[]/\k=[.obj g (.cells ⟨[w']⟩ 47 (0,0)),.arr w' 140 2 (f++a.map (iq s p d c e)).length (aA J (f++a.map (iq s p d c e))).flatten]/\RowsOk z J (f++a.map (iq s p d c e)):=by
 obtain⟨A0,c0,rfl,ab,ao,_⟩:=id y;have ap:=mx_
 simp only[au]at y ab⊢;refine V7 func245 28 U3 λw0=>U0 3 [0,1,2,4,5,12,13,14] U<|Wk (L':=[.obj g (.cells ⟨[w]⟩ 47 (0,0)),.arr w 140 2 (f++(a.take 0).map (iq s p d c e)).length (aA n (f++(a.take 0).map (iq s p d c e))).flatten]) al<|G.loop (λfr z k μ=>∃(i:Nat)(h:List Value)(o:Value),(i<=a.length/\RowsOk z h (f++(a.take i).map (iq s p d c e)))/\fr=[(0,[],i_ d),(1,[],.map (some b)),(2,[],ae (qtx e)),(4,[],p_ g),(5,[],p_ v),(12,[],.slice A0 a.length c0),(13,[],i_ a.length),(14,[],i_ i)]/\k=[.obj g (.cells ⟨[o]⟩ 47 (0,0)),.arr o 140 2 (f++(a.take i).map (iq s p d c e)).length (aA h (f++(a.take i).map (iq s p d c e))).flatten]/\μ=a.length-i) (hn_ [0,1,2,4,5,12,13,14] U) ⟨0,n,w,⟨Sm _,by simpa using aa⟩,U,U,U⟩ (λfr aq ar m _ hI=>?_);obtain⟨i,h,o,⟨hi,t⟩,rfl,rfl,rfl⟩:=hI;refine U0 1 [0,1,2,4,5,12,13,14,15] U<|G.cd (λA=>?_) λA=>?_
 .have B:i<a.length:=by simpa using A
  obtain⟨sg,D⟩:∃sg,a[i]?=some sg:=⟨a[i],ah B⟩;have ac:=Z sg (aJ D);have av:(f++(a.take i).map (iq s p d c e)).length<=10002:=by
   rw[So,au,Sy];omega
  have K:f++(a.take (i+1)).map (iq s p d c e)=f++(a.take i).map (iq s p d c e)++[iq s p d c e sg]:=by
   rw[SH,D];simp
  refine V3 λR l=>Wf y.m_ U10 om_ (cI D) fl_ λaw ad=>V1 ad U8<|C6 1 [0,1,2,4,5,11,12,13,14] l U<|Wn [0,1,2,3,4,5,6,7,8,9] [] U kr_ λR hB l=>V9 ag U9<|V1 (bkT S 2) U8<|V4 4 U<|Ws (Qz _ O.m_ s p d b c sg e 23 dc_ dc_ om_ Q (Mem.get T mup) V W X (ac.le dc_) Y) U7 fl_ (λay _ _ af=>?_);obtain⟨fv,rfl,E⟩:=af;obtain⟨F,H,rfl,_⟩:=id E;simp only[au]at E⊢;refine Wq [[.slice F (Kz s p d c sg).length H,ae (qtx (sg*e))]] U12 λaz _ _ ai=>WB (j:=1) U11 ai.m_ U ax (by simp only[Sk];omega) fl_ λL M N=>Wa (j:=1) U12<|V5 [0,1,2,4,5,12,13,14] l U<|V3 λR l=>V8 _ U U6<|C6 1 [0,1,2,4,5,12,13,14] l U ?_;have aj:=RowsOk.snoc (r:=iq s p d c e sg) t.m_ E;refine Wk (L':=[.obj g (.cells ⟨[.slice L M N]⟩ 47 (0,0)),.arr (.slice L M N) 140 2 (f++(a.take (i+1)).map (iq s p d c e)).length (aA (h++[.slice F (Kz s p d c sg).length H]) (f++(a.take (i+1)).map (iq s p d c e))).flatten]) (by rw[K,ck t.1];simp[iq,aB];omega)<|We (m':=a.length-(i+1)) om_ mup (hn_ [0,1,2,4,5,12,13,14] U) ⟨i+1,h++[.slice F (Kz s p d c sg).length H],_,⟨by omega,by rw[K];exact aj.mono mup⟩,U,U,U⟩
 have B:i=a.length:=by
  have:¬ i<a.length:=by simpa using A
  omega
 rw[B,Ss]at t⊢;exact Xc U<|⟨h,o,U,U,t.mono mup⟩
noncomputable def rG (o:Obs):Rat:=-dt o.nx / dt o.nz
noncomputable def ju (o:Obs):Rat:=-dt o.ny / dt o.nz
def upN (B:Bk)(o:Obs):Nat:=(ib (isU o.upper) B.col 0).toNat
noncomputable def rowsO (B:Bk)(o:Obs)(p:Pt)(t:Tri)(z:Rat):List RowQ :=
 if o.kind=1 then (if 0<upN B o then [iq (bs B) (bp B) (upN B o-1) (atT t (wgt B.pts t p)) (lK o z) 1] else [])++(if upN B o<bs B then [iq (bs B) (bp B) (upN B o) (atT t (wgt B.pts t p)) (lK o z) (-1)] else [])
 else if o.kind=2 then (cR B.col o).flatMap λk=>[1, -1].map (iq (bs B) (bp B) k (atT t (wgt B.pts t p)) (lK o z))
 else (cR B.col o).flatMap λk=>[1, -1].map (iq (bs B) (bp B) k (atT t λj=>(slf B.pts t j).1) (rG o))++[1, -1].map (iq (bs B) (bp B) k (atT t λj=>(slf B.pts t j).2) (ju o))
structure Fine (B:Bk)(fs:List Rat)(o:Obs)(p:Pt)(ti:Nat)(t:Tri)(z:Rat):Prop where
 place:ObsAt o p
 loc:∃r,lj B.pts B.tris p=ti::r
 tri:B.tris[ti]?=some t
 val:FY B.pts B.tris fs p=.tuple #[ae (qtx z),.int .i64 0]
 qz:QB 22 z
 qh:QB 22 (lK o z)
 w:∀j,QB 22 (wgt B.pts t p j)
 up:0<=ib (isU o.upper) B.col 0
 sl:∀j,QP 22 (slf B.pts t j)
 nr:o.kind≠1->o.kind≠2->(aS o.nx=true/\aS o.ny=true/\aS o.nz=true)/\QB 11 (dt o.nx)/\QB 11 (dt o.ny)/\QB 11 (dt o.nz)/\dt o.nz≠0
 rows:∀r∈rowsO B o p t z,PY r
theorem Qr (h:Sl C 1 v [[ae [49]]]):Sl C 1 v (([1]:List Rat).map eH):=by rw[<- fR]at h;exact h
theorem Qs (h:Sl C 1 v [[ae [45,49]]]):Sl C 1 v (([-1]:List Rat).map eH):=by rw[<- fa]at h;exact h
theorem GQ (h:Sl C 1 v [[ae [49]],[ae [45,49]]]):Sl C 1 v (([1, -1]:List Rat).map eH):=by rw[<- fa,<- fR]at h;exact h
theorem Ql:∀q∈([1]:List Rat),QB 1 q:=by simp;exact QB_one
theorem Qm:∀q∈([-1]:List Rat),QB 1 q:=by simp;exact nL
theorem sT:∀q∈([1, -1]:List Rat),QB 1 q:=by
 intro q a;simp only[Sw,Tp,UG]at a;rcases a with rfl|rfl
 .exact QB_one
 exact nL
theorem gM {P:Nat × Rat->Prop}(b:P (t.1,f 0))(c:P (t.2.1,f 1))(d:P (t.2.2,f 2)):∀x∈atT t f,P x:=by
 intro x a;simp only[atT,Sw,Tp,UG]at a;rcases a with rfl|rfl|rfl <;> assumption
theorem J9 {a b:Int}(h:k∈xf a b n):k<n:=by
 unfold xf at h;rw[TP,SE]at h;exact h.1
theorem jD {a:Type}(f:α->List a){l:List α}{x:α}(h:l[j]?=some x):(l.take (j+1)).flatMap f=(l.take j).flatMap f++f x:=by
 rw[SH,h,List.flatMap_append];simp
theorem gc {a b:Type}{f:a->List b}{c:Nat}(h:∀x,(f x).length=c):∀l:List a,(l.flatMap f).length=c*l.length
|[]=>by simp
|x::l=>by rw[List.flatMap_cons,So,h,gc h l,SC,Nat.mul_succ,Uu]
theorem CJ :∀r∈rowsO B o p t z,r.f.length=bs B*bp B:=by
 have a:∀k d b sg,(iq (bs B) (bp B) k d b sg).f.length=bs B*bp B:=λk d b sg=>jY _ _;intro r hr;unfold rowsO at hr;split at hr
 .rcases Sx.1 hr with h|h
  .split at h
   .rw[SD.1 h];exact a _ _ _ _
   cases h
  split at h
  .rw[SD.1 h];exact a _ _ _ _
  cases h
 split at hr
 .obtain⟨k,_,c⟩:=List.mem_flatMap.1 hr;obtain⟨sg,_,rfl⟩:=Sn.1 c;exact a _ _ _ _
 obtain⟨k,_,c⟩:=List.mem_flatMap.1 hr;rcases Sx.1 c with h|h
 .obtain⟨sg,_,rfl⟩:=Sn.1 h;exact a _ _ _ _
 obtain⟨sg,_,rfl⟩:=Sn.1 h;exact a _ _ _ _
theorem xx (h:(cR B.col o).length<=60):(rowsO B o p t z).length<=240:=by
 unfold rowsO;split
 .rw[So];have h1:∀(c:Prop)[Decidable c] (r:RowQ),(if c then [r] else []).length<=1:=λc _ r=>by split <;> simp
  have:=h1 (0<upN B o) (iq (bs B) (bp B) (upN B o-1) (atT t (wgt B.pts t p)) (lK o z) 1);have:=h1 (upN B o<bs B) (iq (bs B) (bp B) (upN B o) (atT t (wgt B.pts t p)) (lK o z) (-1));omega
 split
 .rw[gc (c:=2) (λk=>by simp)];omega
 rw[gc (c:=4) (λk=>by simp)];omega
abbrev zaf:=λc w=>Ent.obj c (.cells ⟨[w]⟩ 47 (0,0))
theorem N5 (C:Mem)(d:Tabs C)(bv:Value)(B:Bk)(fs:List Rat)(i:Nat)(o:Obs)(p:Pt)(ti:Nat)(t:Tri)(z:Rat)(M:BookIn C bv B)(S:Good B.pts B.tris)(am:BookR B)(aN:iV B=0)(hF:Terr B fs)(W:B.obs[i]?=some o)(b:Fine B fs o p ti t z)(T:bs B*bp B<=60)(a6:sH B.col=0)(bU:bs B+1=B.col.length)(bV:B.col.length<=60) :
  Pur cx.P 183 [gu (bs B) (bp B),bv,i_ i] C λu D=>∃v,u=.tuple #[v,i_ 0]/\RowsIn D v (rowsO B o p t z):=by
 have an:=M;have hM:=S.ok;obtain⟨r,a7⟩:=b.loc;have aO:=aJ b.tri;have l:=hM.ins t aO;have ao:=uz hM aO;have bW:=(aT.1 W).1;have X:=b.place;obtain⟨u,Y⟩:∃u:Nat,ib (isU o.upper) B.col 0=(u:Nat):=⟨_,(Int.toNat_of_nonneg b.up).symm⟩;have a8:upN B o=u:=by unfold upN;rw[Y];rfl
 have bX:u<B.col.length:=by
  rcases ia (isU o.upper) B.col with⟨h,_⟩|⟨k,x,h,h2,_⟩
  .rw[Y]at h;omega
  have:=(aT.1 h2).1;rw[Y]at h;omega
 have ap:=rV (wgt B.pts t p) ao;have aq:∀x∈atT t (wgt B.pts t p),x.1<bp B:=gM (P:=λx=>x.1<bp B) l.1 l.2.1 l.2.2;have ar:∀x∈atT t (wgt B.pts t p),QB 23 x.2:=gM (P:=λx=>QB 23 x.2) ((b.w 0).le dc_) ((b.w 1).le dc_) ((b.w 2).le dc_);have av:QB 23 (lK o z):=b.qh.le dc_;have a9:(cR B.col o).length<=bs B:=by
  unfold cR xf;refine Su (TV _ _) ?_;rw[Tn];unfold bs;omega
 have aP:∀k∈cR B.col o,k<bs B:=λk hk=>J9 hk;obtain⟨v1,v2,tv,cv,ov,rfl,h1,h2,h3,h4,h5⟩:=id M.ex;have aQ:MeshIn C (.agg ⟨[v1,v2]⟩) B.pts B.tris:=⟨v1,v2,rfl,h1,h2⟩;obtain⟨A5,c5,rfl,ba,bY,_⟩:=id h5;have bZ:=mx_
 simp only[au]at h5 ba an⊢;refine V7 func183 172 U3 λw0=>V3 λR a=>Wi U6 λn=>Wi U6 λb4=>C6 2 [2,3,4] a U<|G.freeze 1 U λ_ _ N=>G.freeze 0 U λ_ _ O=>U1 1 U λR a=>V1 (bkT O 1) U8<|V2 U6<|Wf h5.m_ U10 om_ (cI W) fl_ λb0 bb=>V1 bb U8<|Wg U5 λb8=>Wa (j:=0) U12<|V5 [2,3,4,8] a U<|G.freeze 0 U λC8 _ E=>U1 1 U λR a=>V1 (bkT O 2) U8<|V2 U6<|V1 (bkT E 2) U8<|Ws (by have h:=FD C8 d.m_ _ B.pts B.tris p ti r t aQ.m_ S X.q X.r a7 b.tri b.w;rw[<- yl X]at h;exact h) U7 fl_ (λb1 _ _ bc=>?_);obtain⟨V,rfl,aw⟩:=bc;refine C6 7 [2,3,4,8,9,10,11] a U<|U0 2 [2,3,4,8,9,10,11,45] U<|G.cd (λaR=>?_) λaR=>?_
 .exact absurd aR dc_
 refine V3 λR a=>V1 (bkT O 5) U8<|V2 U6<|Wb (Fg _ d.m_ _ B fs i o p z an.m_ S am aN hF W X b.val b.qz b.qh) U7<|C6 5 [2,3,4,8,9,10,11,12] a U<|U0 2 [2,3,4,8,9,10,11,12,54] U<|G.cd (λaS=>?_) λaS=>?_
 .exact absurd aS dc_
 refine V3 λR a=>V1 (bkT O 5) U8<|V2 U6<|Wz (xd _ d.m_ _ B i o an.m_ S am aN W) U7 (λb2 _ _ bd=>?_);obtain⟨lv,rfl,ax⟩:=bd;obtain⟨Al,cl,aU,_⟩:=id ax;rw[au]at aU;subst aU;refine C6 5 [3,4,8,9,10,11,12,13] a U<|U0 2 [3,4,8,9,10,11,12,13,63] U<|G.cd (λaW=>?_) λaW=>?_
 .exact absurd aW dc_
 refine V3 λR a=>Wg U5 λc=>V5 [3,4,8,9,10,12,13,14] a U<|G.nilArr 140 2 (G.perm (L':=[.obj c (.cells ⟨[.slice none 0 0]⟩ 47 (0,0)),.arr (.slice none 0 0) 140 2 0 []]) (List.Perm.swap _ _ _) ?_);refine U0 2 [3,4,8,9,10,12,13,14,15] U<|U1 1 U λR a=>V1 (bkT E 1) U8<|V5 [3,4,8,9,10,12,13,14,15,67] a U<|U0 2 [3,4,8,9,10,12,13,14,15,67,120] U<|G.cut (λfr F y H=>∃(vs:List Value)(w:Value),(RowsOk F vs (rowsO B o p t z))/\fr=[(14,[],p_ c)]/\y=[zaf c w,.arr w 140 2 (rowsO B o p t z).length (aA vs (rowsO B o p t z)).flatten]) ?_ (λfr _ b5 H _ I=>?_)
 .refine G.cd (λZ=>?_) λZ=>?_
  .have hk:o.kind=1:=dZ Z;obtain⟨s,Q⟩:∃s,(if 0<u then [iq (bs B) (bp B) (u-1) (atT t (wgt B.pts t p)) (lK o z) 1] else [])=s:=⟨_,rfl⟩;have A:rowsO B o p t z=s++(if u<bs B then [iq (bs B) (bp B) u (atT t (wgt B.pts t p)) (lK o z) (-1)] else []):=by unfold rowsO;rw[aK hk,a8,Q]
   refine U1 1 U λR a=>V1 (bkT O 1) U8<|V2 U6<|V1 (bkT E 1) U8<|Wb (Bj _ d.m_ _ B.col o.upper h4.m_ am.col a6 u Y) U7<|C6 7 [3,9,12,14,15,16,18] a U<|U0 2 [3,9,12,14,15,16,18,132] U<|G.cd (λaX=>?_) λaX=>?_
   .exact absurd aX dc_
   refine U0 2 [3,9,12,14,15,16,135] U<|G.cut (λfr F y H=>∃(vs:List Value)(w:Value),(RowsOk F vs s)/\fr=[(3,[],p_ n),(9,[],.map (some V)),(12,[],ae (qtx (lK o z))),(14,[],p_ c),(15,[],.func (.func 245) #[] #[p_ c,p_ n]),(16,[],i_ u)]/\y=[zaf c w,.arr w 140 2 s.length (aA vs s).flatten]) ?_ (λfr _ b6 H _ I=>?_)
   .refine G.cd (λay=>?_) λay=>?_
    .have az:0<u:=by
      have:=RD ay;omega
     rw[aK az]at Q;subst Q;refine Wt [(6,3)] U λR a=>V4 2 U<|Wx (((u-1:Nat):Int)) U4 om_ om_ om_ U2<|V4 2 U<|Wq [[ae [49]]] U12 λb7 _ _ bf=>D.call (jL _ d.m_ (bs B) (bp B) (u-1) V c n (atT t (wgt B.pts t p)) (lK o z) [1] _ (.slice none 0 0) [] [] T om_ (Mem.get N mup) (Mem.get aw mup) ap aq ar av ((Qr bf).mono mup) Ql dc_ (RowsOk.nil _) dc_) U (.inr dc_) U6 (Sp _) fl_ λb9 _ ca _ bg=>V5 [3,9,12,14,15,16] a U ?_;clear a R;obtain⟨bh,w1,rfl,rfl,bi⟩:=bg;refine Wj 0 mup (hn_ [3,9,12,14,15,16] U) ⟨bh,w1,bi,U,U⟩
    have az:¬ 0<u:=by
     have:=Si ay;omega
    rw[aF az]at Q;subst Q;refine Wj 0 l_ (hn_ [3,9,12,14,15,16] U) ⟨[],.slice none 0 0,RowsOk.nil _,U,U⟩
   obtain⟨vs ,w,aB,rfl,rfl⟩:=I;refine U1 2 U λR a=>V1 (bkT N 1) U8<|C6 1 [9,12,14,15,16,146] a U<|G.cd (λaC=>?_) λaC=>?_
   .have aa:u<bs B:=by
     have:=RD aC;omega
    rw[aK aa]at A;have cb:s.length<=1:=by rw[<- Q];split <;> simp
    refine Wt [(5,3)] U λR a=>V4 4 U<|Wq [[ae [45,49]]] U12 λcc _ _ bj=>D.call (jL _ d.m_ (bs B) (bp B) u V c n (atT t (wgt B.pts t p)) (lK o z) [-1] _ w vs s T aa (Mem.get N mup) (Mem.get aw mup) ap aq ar av ((Qs bj).mono mup) Qm dc_ aB.m_ om_) U (.inr dc_) U6 (Sp _) fl_ λce _ cf _ bk=>V5 [14] a U ?_;clear a R;obtain⟨bl,w2,rfl,rfl,aY⟩:=bk;rw[show s++([-1]:List Rat).map (iq (bs B) (bp B) u (atT t (wgt B.pts t p)) (lK o z))=rowsO B o p t z from A.symm]at aY⊢;refine Wj 0 mup (hn_ [14] U) ⟨bl,w2,aY,U,U⟩
   have aa:¬ u<bs B:=by
    have:=Si aC;omega
   rw[aF aa,SF]at A;rw[<- A]at aB⊢;refine Wj 0 mup (hn_ [14] U) ⟨vs,w,aB.mono mup,U,U⟩
  have aD:¬ o.kind=1:=by
   intro e;rw[show((o.kind == 1)=true) by rw[e];rfl]at Z;cases Z
  refine U0 2 [4,8,9,10,12,13,14,15,153] U<|G.cd (λab=>?_) λab=>?_
  .have ac:o.kind=2:=dZ ab;obtain⟨f,aE⟩:∃f,(λk=>([1, -1]:List Rat).map (iq (bs B) (bp B) k (atT t (wgt B.pts t p)) (lK o z)))=f:=⟨_,rfl⟩;have A:rowsO B o p t z=(cR B.col o).flatMap f:=by unfold rowsO;rw[aF aD,aK ac,<- aE]
   have bm:∀k,(f k).length=2:=λk=>by rw[<- aE];rfl
   refine U0 3 [9,12,14,15,155,156,157] U<|G.loop (λfr F y H=>∃(j:Nat)(vs:List Value)(w:Value),(j<=(cR B.col o).length/\RowsOk F vs (((cR B.col o).take j).flatMap f))/\fr=[(9,[],.map (some V)),(12,[],ae (qtx (lK o z))),(14,[],p_ c),(15,[],.func (.func 245) #[] #[p_ c,p_ n]),(155,[],.slice Al (cR B.col o).length cl),(156,[],i_ (cR B.col o).length),(157,[],i_ j)]/\y=[zaf c w,.arr w 140 2 (((cR B.col o).take j).flatMap f).length (aA vs (((cR B.col o).take j).flatMap f)).flatten]/\H=(cR B.col o).length-j) (hn_ [9,12,14,15,155,156,157] U) ⟨0,[],.slice none 0 0,⟨Sm _,RowsOk.nil _⟩,U,U,U⟩ (λfr cg ch m _ I=>?_);obtain⟨j,vs,w,⟨hj,J⟩,rfl,rfl,rfl⟩:=I;refine U0 1 [9,12,14,15,155,156,157,158] U<|G.cd (λaG=>?_) λaG=>?_
   .have K:j<(cR B.col o).length:=by
     have:=RD aG;omega
    obtain⟨k,L⟩:∃k,(cR B.col o)[j]?=some k:=⟨(cR B.col o)[j],ah K⟩;have ad:=aP k (aJ L);have af:=gc bm ((cR B.col o).take j);rw[Sy]at af;have aH:=jD f L;refine V3 λR a=>Wf ax.m_ U10 om_ (cI L) fl_ λci bo=>V1 bo U8<|C6 1 [9,12,14,15,20,155,156,157] a U<|Wt [(5,3)] U λR a=>V4 4 U<|Wq [[ae [49]],[ae [45,49]]] U12 λcj _ _ bq=>D.call (jL _ d.m_ (bs B) (bp B) k V c n (atT t (wgt B.pts t p)) (lK o z) [1, -1] _ w vs _ T ad (Mem.get N mup) (Mem.get aw mup) ap aq ar av ((GQ bq).mono mup) sT dc_ J.m_ om_) U (.inr dc_) U6 (Sp _) fl_ λck _ cm _ br=>V5 [9,12,14,15,155,156,157] a U<|V3 λR a=>V8 _ U U6<|C6 1 [9,12,14,15,155,156,157] a U ?_;clear a R;obtain⟨aI,w3,rfl,rfl,ai⟩:=br;rw[show((cR B.col o).take j).flatMap f++([1, -1]:List Rat).map (iq (bs B) (bp B) k (atT t (wgt B.pts t p)) (lK o z))=((cR B.col o).take (j+1)).flatMap f by rw[aH,<- aE]]at ai⊢;refine We (m':=(cR B.col o).length-(j+1)) om_ mup (hn_ [9,12,14,15,155,156,157] U) ⟨j+1,aI,w3,⟨by omega,ai⟩,U,U,U⟩
   have K:j=(cR B.col o).length:=by
    have:=Si aG;omega
   rw[K,Ss,<- A]at J⊢;refine Wj 0 mup (hn_ [14] U) ⟨vs,w,J.mono mup,U,U⟩
  have ac:¬ o.kind=2:=by
   intro e;rw[show((o.kind == 2)=true) by rw[e];rfl]at ab;cases ab
  obtain⟨⟨bt,bu,bx⟩,aZ,a0,aj,ak⟩:=b.nr aD ac;obtain⟨e1,q1⟩:=dE bt;obtain⟨e2,q2⟩:=dE bu;obtain⟨e3,q3⟩:=dE bx;have a1:(qtx (dt o.nx)).length<=1000000:=Su (aV q1 dc_) dc_;have bz:(qtx (dt o.ny)).length<=1000000:=Su (aV q2 dc_) dc_;have bA:QB 23 (rG o):=(jN (eO aZ) aj ak).le dc_;have bB:QB 23 (ju o):=(jN (eO a0) aj ak).le dc_;obtain⟨g,aL⟩:∃g,(λk=>([1, -1]:List Rat).map (iq (bs B) (bp B) k (atT t λj=>(slf B.pts t j).1) (rG o))++([1, -1]:List Rat).map (iq (bs B) (bp B) k (atT t λj=>(slf B.pts t j).2) (ju o)))=g:=⟨_,rfl⟩;have A:rowsO B o p t z=(cR B.col o).flatMap g:=by unfold rowsO;rw[aF aD,aF ac,<- aL]
  have bC:∀k,(g k).length=4:=λk=>by rw[<- aL];rfl
  have bD:=rV (λj=>(slf B.pts t j).1) ao;have bE:=rV (λj=>(slf B.pts t j).2) ao;have bF:∀x∈atT t (λj=>(slf B.pts t j).1),x.1<bp B:=gM (P:=λx=>x.1<bp B) l.1 l.2.1 l.2.2;have bH:∀x∈atT t (λj=>(slf B.pts t j).2),x.1<bp B:=gM (P:=λx=>x.1<bp B) l.1 l.2.1 l.2.2;have bI:∀x∈atT t (λj=>(slf B.pts t j).1),QB 23 x.2:=gM (P:=λx=>QB 23 x.2) ((b.sl 0).1.le dc_) ((b.sl 1).1.le dc_) ((b.sl 2).1.le dc_);have bJ:∀x∈atT t (λj=>(slf B.pts t j).2),QB 23 x.2:=gM (P:=λx=>QB 23 x.2) ((b.sl 0).2.le dc_) ((b.sl 1).2.le dc_) ((b.sl 2).2.le dc_);refine U1 1 U λR a=>V1 (bkT O 2) U8<|V2 U6<|Wz (Fy _ d.m_ _ B.pts B.tris ti t aQ.m_ S b.tri b.sl) U7 (λcn al _ bK=>?_);obtain⟨be,bn,rfl,bL,bM⟩:=bK;refine C6 7 [8,13,14,15,21,22,23] a U<|U0 2 [8,13,14,15,21,22,23,77] U<|G.cd (λa2=>?_) λa2=>?_
  .exact absurd a2 dc_
  refine Wn [0,1,2,3,4,5,6,7,8,9,10,11,12] [(3,1),(7,1)] U kr_ λR M a=>V4 2 U<|V1 (bkT E 1) U8<|Wo (λ_=>(by have h:=fq al (dt o.nx) a1;rw[<- e1]at h;exact h)) U9<|V4 2 U<|V1 (bkT E 1) U8<|Wo (λ_=>(by have h:=iu al d.m_ (-dt o.nx) (dt o.nz) 11 dc_ dc_ (eO aZ) aj ak;rw[<- e3]at h;exact h)) U9<|V4 5 U<|V5 [8,13,14,15,21,22,24] a U<|Wn [0,1,2,3,4,5,6,7,8,9,10,11,12] [(3,1),(7,1)] U kr_ λR M a=>V4 2 U<|V1 (bkT E 1) U8<|Wo (λ_=>(by have h:=fq al (dt o.ny) bz;rw[<- e2]at h;exact h)) U9<|V4 2 U<|V1 (bkT E 1) U8<|Wo (λ_=>(by have h:=iu al d.m_ (-dt o.ny) (dt o.nz) 11 dc_ dc_ (eO a0) aj ak;rw[<- e3]at h;exact h)) U9<|V4 5 U<|V5 [13,14,15,21,22,24,26] a U<|U0 3 [14,15,21,22,24,26,101,102,103] U<|G.loop (λfr F y H=>∃(j:Nat)(vs:List Value)(w:Value),(j<=(cR B.col o).length/\RowsOk F vs (((cR B.col o).take j).flatMap g))/\fr=[(14,[],p_ c),(15,[],.func (.func 245) #[] #[p_ c,p_ n]),(21,[],.map (some be)),(22,[],.map (some bn)),(24,[],ae (qtx (rG o))),(26,[],ae (qtx (ju o))),(101,[],.slice Al (cR B.col o).length cl),(102,[],i_ (cR B.col o).length),(103,[],i_ j)]/\y=[zaf c w,.arr w 140 2 (((cR B.col o).take j).flatMap g).length (aA vs (((cR B.col o).take j).flatMap g)).flatten]/\H=(cR B.col o).length-j) (hn_ [14,15,21,22,24,26,101,102,103] U) ⟨0,[],.slice none 0 0,⟨Sm _,RowsOk.nil _⟩,U,U,U⟩ (λfr cp cq m a1 I=>?_);obtain⟨j,vs,w,⟨hj,J⟩,rfl,rfl,rfl⟩:=I;refine U0 1 [14,15,21,22,24,26,101,102,103,104] U<|G.cd (λaM=>?_) λaM=>?_
  .have K:j<(cR B.col o).length:=by
    have:=RD aM;omega
   obtain⟨k,L⟩:∃k,(cR B.col o)[j]?=some k:=⟨(cR B.col o)[j],ah K⟩;have ad:=aP k (aJ L);have af:=gc bC ((cR B.col o).take j);rw[Sy]at af;have aH:=jD g L;refine V3 λR a=>Wf ax.m_ U10 om_ (cI L) fl_ λcr bN=>V1 bN U8<|C6 1 [14,15,21,22,24,26,29,101,102,103] a U<|Wt [(5,3)] U λR a=>V4 4 U<|Wq [[ae [49]],[ae [45,49]]] U12 λcs _ _ bO=>D.call (jL _ d.m_ (bs B) (bp B) k be c n (atT t λj=>(slf B.pts t j).1) (rG o) [1, -1] _ w vs _ T ad (Mem.get N mup) (Mem.get bL mup) bD bF bI bA ((GQ bO).mono mup) sT dc_ J.m_ om_) U (.inr dc_) U6 (Sp _) fl_ λct _ cu _ bP=>V5 [14,15,21,22,24,26,29,101,102,103] a U ?_;clear a R;obtain⟨aI,w3,rfl,rfl,ai⟩:=bP;refine Wt [(5,3)] U λR a=>V4 4 U<|Wq [[ae [49]],[ae [45,49]]] U12 λcw _ _ bQ=>D.call (jL _ d.m_ (bs B) (bp B) k bn c n (atT t λj=>(slf B.pts t j).2) (ju o) [1, -1] _ w3 aI _ T ad (Mem.get N mup) (Mem.get bM mup) bE bH bJ bB ((GQ bQ).mono mup) sT dc_ ai.m_ (by rw[So,af];simp;omega)) U (.inr dc_) U6 (Sp _) fl_ λcy _ cz _ bR=>V5 [14,15,21,22,24,26,101,102,103] a U<|V3 λR a=>V8 _ U U6<|C6 1 [14,15,21,22,24,26,101,102,103] a U ?_;clear a R;obtain⟨bS,w4,rfl,rfl,a3⟩:=bR;rw[show((cR B.col o).take j).flatMap g++([1, -1]:List Rat).map (iq (bs B) (bp B) k (atT t λj=>(slf B.pts t j).1) (rG o))++([1, -1]:List Rat).map (iq (bs B) (bp B) k (atT t λj=>(slf B.pts t j).2) (ju o))=((cR B.col o).take (j+1)).flatMap g by rw[aH,<- aL,SX]]at a3⊢;refine We (m':=(cR B.col o).length-(j+1)) om_ mup (hn_ [14,15,21,22,24,26,101,102,103] U) ⟨j+1,bS,w4,⟨by omega,a3⟩,U,U,U⟩
  have K:j=(cR B.col o).length:=by
   have:=Si aM;omega
  rw[K,Ss,<- A]at J⊢;refine Wj 0 mup (hn_ [14] U) ⟨vs,w,J.mono mup,U,U⟩
 obtain⟨vs ,w,a4,rfl,rfl⟩:=I;refine G.freezeArr 1 (aA vs (rowsO B o p t z)) U2 (co _ _) (bG a4.1) (λCr cA bT=>?_);have a5:RowsIn Cr w (rowsO B o p t z):=⟨vs,a4.mono mup,bT⟩;refine V3 λR a=>V9 ag U9<|Wc (FG _ d.m_ w (rowsO B o p t z) a5.m_ b.rows (λr hr=>by rw[CJ r hr];omega) (Su (xx (by unfold bs at a9;omega)) dc_)) U7 fl_<|C6 4 [6,7] a U<|Wd (G.dropAll (Wu U3 ?_));exact⟨U,w,U,a5.mono mup⟩
structure Rich (B:Bk)(fs:List Rat)(RO:Nat->List RowQ):Prop where
 good:Good B.pts B.tris
 br:BookR B
 bz:iV B=0
 terr:Terr B fs
 h60:bs B*bp B<=60
 fine:∀i o,B.obs[i]?=some o->∃p ti t z,Fine B fs o p ti t z/\RO i=rowsO B o p t z
theorem mZ (h:iV B=0):sH B.col=0:=by
 unfold iV at h;split at h
 .rename_i h1;exact absurd h h1
 split at h
 .rename_i h1;exact absurd h h1
 rename_i h1;exact SQ h1
theorem vW {l:List Lay}(h:sH l=0):l≠[]/\l.length<=60:=by
 unfold sH at h;split at h
 .exact absurd h dc_
 rename_i h0;split at h
 .exact absurd h dc_
 exact⟨h0,by omega⟩
theorem Rich.bookz {a:Value}{d:Nat->List RowQ}(h:Rich B fs d)(e:Tabs C)(b:BookIn C a B):BookZ C a B 0 :=
 ⟨b,λD c=>by have h2:=rR D (e.mono c) a B (b.mono c) h.good h.br;rwa [h.bz]at h2,λ_=>(vW (mZ h.bz)).1,Su (vW (mZ h.bz)).2 dc_,h.good.ok.lp⟩
theorem Rich.scol {a:Nat->List RowQ}(h:Rich B fs a):bs B+1=B.col.length/\B.col.length<=60:=by
 obtain⟨h1,h2⟩:=vW (mZ h.bz);have:=S7.2 h1;unfold bs;omega
theorem RV (C:Mem)(f:Tabs C)(b:Value)(B:Bk)(c:List Rat)(d:Nat->List RowQ)(i:Nat)(g:BookIn C b B)(a:Rich B c d)(j:i<B.obs.length) :
  Pur cx.P 183 [gu (bs B) (bp B),b,i_ i] C λu D=>∃v,u=.tuple #[v,i_ 0]/\RowsIn D v (d i):=by
 have e:B.obs[i]?=some B.obs[i]:=ah j;obtain⟨p,k,t,z,l,m⟩:=a.fine i _ e;have h:=N5 C f b B c i _ p k t z g a.good a.br a.bz a.terr e l a.h60 (mZ a.bz) a.scol.1 a.scol.2
 rwa [<- m]at h
theorem qC {a:Nat->List RowQ}(b:Rich B fs a)(c:i<B.obs.length):(a i).length<=240/\∀r∈a i,r.f.length=bs B*bp B:=by
 have d:B.obs[i]?=some B.obs[i]:=ah c;obtain⟨p,h,t,z,j,e⟩:=b.fine i _ d;have g:(cR B.col B.obs[i]).length<=60:=by
  unfold cR xf;refine Su (TV _ _) ?_;rw[Tn];have:=b.scol.2;omega
 rw[e];exact⟨xx g,CJ⟩
def bJ (B:Bk):List RowQ:=bQ (bs B) (bp B) B.col (B.col.length-2)
theorem Er {b:Nat->List RowQ}(a:Rich B fs b):(bJ B).length<=120:=by
 have h:=nA (bs B) (bp B) B.col (B.col.length-2);have h1:=a.scol.1;have h2:(B.col.length-2)*bp B<=bs B*bp B:=SY _ om_;have h3:=a.h60;unfold bJ;omega
structure SrcQ where
 n:Int
 r:RowQ
def bY (vs:List Value)(l:List SrcQ):List (List Value):=List.zipWith (λw (s:SrcQ)=>[.int .i64 s.n,w,ae (qtx s.r.b)]) vs l
def SrcsOk (C:Mem)(vs:List Value)(l:List SrcQ):Prop:=RowsOk C vs (l.map SrcQ.r)
def D9 (C:Mem)(v:Value)(l:List SrcQ):Prop:=∃vs,SrcsOk C vs l/\Sl C 3 v (bY vs l)
theorem SrcsOk.mono {C D:Mem}{a:List Value}{l:List SrcQ}(h:SrcsOk C a l)(b:C.le D):SrcsOk D a l:=RowsOk.mono h b
theorem SrcsOk.m_ {D:Mem}{l:List SrcQ}(h:SrcsOk C vs l)(a:C.le D:=by exact mup):SrcsOk D vs l:=SrcsOk.mono h a
theorem SrcsOk.snoc {C:Mem}{a:List Value}{l:List SrcQ}{v:Value}{s:SrcQ}(h:SrcsOk C a l)(b:Sl C 1 v (s.r.f.map eH)):SrcsOk C (a++[v]) (l++[s]):=by
 unfold SrcsOk at h⊢;rw[SV];exact RowsOk.snoc h b
theorem jT {l:List SrcQ}(h:SrcsOk C vs l):vs.length=l.length:=by have:=h.1;simpa using this
theorem lV {l:List SrcQ}(h:vs.length=l.length)(v:Value)(s:SrcQ):bY (vs++[v]) (l++[s])=bY vs l++[[i_ s.n,v,ae (qtx s.r.b)]]:=by
 unfold bY;rw[List.zipWith_append h];rfl
theorem ot {l:List SrcQ}(h:vs.length=l.length):(bY vs l).length=l.length:=by simp[bY,h]
theorem sr (b:List Value)(l:List SrcQ):∀r∈bY b l,r.length=3:=by
 intro r hr;unfold bY at hr;obtain⟨i,a⟩:=TR hr;rw[List.getElem?_zipWith]at a;cases h1:b[i]? <;> cases h2:l[i]? <;> rw[h1,h2]at a <;> simp at a
 subst a;rfl
def kV (n:Int)(l:List RowQ):List SrcQ:=l.map λr=>⟨n,r⟩
def bU (T:List RowQ)(RO:Nat->List RowQ)(l:List Nat):List SrcQ:=kV (-1) T++l.flatMap λi=>kV (i:Nat) (RO i)
theorem lU {n:Int}{l:List RowQ}{r:RowQ}(h:l[i]?=some r):kV n (l.take (i+1))=kV n (l.take i)++[⟨n,r⟩]:=by
 unfold kV;rw[SH,h,SV];rfl
theorem yV {T:List RowQ}{RO:Nat->List RowQ}:∀{l:List Nat},(∀i∈l,(RO i).length<=240)->l.length<=100->T.length<=120->(bU T RO l).length<=120+240*l.length:=by
 intro l h e hT;unfold bU;rw[So];have b:∀l:List Nat,(∀i∈l,(RO i).length<=240)->(l.flatMap λi=>kV (i:Nat) (RO i)).length<=240*l.length:=by
  intro l;induction l with
 |nil=>intro _;simp
 |cons a l c =>
   intro h;have h1:=h a Sj;have h2:=c λi d=>h i (Sv _ d);rw[List.flatMap_cons,So,SC];have:(kV (a:Nat) (RO a)).length=(RO a).length:=by simp[kV]
   omega
 have h1:=b l h;have:(kV (-1) T).length=T.length:=by simp[kV]
 omega
theorem Jf (C:Mem)(hT:Tabs C)(bv lv:Value)(B:Bk)(fs:List Rat)(c:Nat->List RowQ)(l:List Nat)(hB:BookIn C bv B)(o:Rich B fs c)(M:Sl C 1 lv (l.map aW))(ad:∀i∈l,i<B.obs.length)(aP:l.length<=100)(aQ:(bU (bJ B) c l).length<=300) :
  Pur cx.P 114 [gu (bs B) (bp B),bv,lv] C λu D=>∃v,u=.tuple #[v,i_ 0]/\D9 D v (bU (bJ B) c l):=by
 have aw:=hB;have ay:=Er o;obtain⟨v1,v2,tv,cv,ov,rfl,h1,h2,h3,h4,h5⟩:=id hB.ex;obtain⟨N,O,rfl,az,aR,_⟩:=id M;have aS:=mx_
 simp only[au]at M az⊢;have aA:=λm:List Nat=>λhm:∀i∈m,i<B.obs.length=>λaB:m.length<=100=>yV (T:=bJ B) (RO:=c) (l:=m) (λi F=>(qC o (hm i F)).1) aB ay;refine V7 func114 66 U3 λw0=>V3 λR d=>Wi U6 λQ=>Wi U6 λS=>C6 2 [2,3,4] d U<|G.freeze 1 U λ_ _ af=>G.freeze 0 U λ_ _ ai=>U0 1 [2,3,4,8] U<|V3 λR d=>V1 (bkT af 2) U8<|V2 U6<|V1 (bkT ai 1) U8<|Wz (wZ _ hT.m_ _ (bs B) (bp B) B.col h4.m_ o.scol.1 o.h60 o.br.col) U7 (λaT _ _ aC=>?_);obtain⟨aj,V,H⟩:=aC;rw[show bQ (bs B) (bp B) B.col (B.col.length-2)=bJ B from rfl]at V H;have ak:=V.1;obtain⟨At,ct,rfl,aD,aU,_⟩:=id H;simp only[bG ak]at H aD⊢;refine C6 2 [2,3,4,8,20,21,22] d U<|G.nilArr 142 3<|G.loop (λfr x e y=>∃(i:Nat)(vs:List Value)(w:Value),(i<=(bJ B).length/\SrcsOk x vs (kV (-1) ((bJ B).take i)))/\fr=[(2,[],.slice N l.length O),(3,[],p_ Q),(4,[],p_ S),(8,[],w),(20,[],.slice At (bJ B).length ct),(21,[],i_ (bJ B).length),(22,[],i_ i)]/\e=[.arr w 142 3 (kV (-1) ((bJ B).take i)).length (bY vs (kV (-1) ((bJ B).take i))).flatten]/\y=(bJ B).length-i) (hn_ [2,3,4,8,20,21,22] U) ⟨0,[],_,⟨Sm _,RowsOk.nil _⟩,U,U,U⟩ (λfr aV aX m _ z=>?_);obtain⟨i,vs,w,⟨F,I⟩,rfl,rfl,rfl⟩:=z;refine U0 1 [2,3,4,8,20,21,22,23] U<|G.cd (λW=>?_) λW=>?_
 .have J:i<(bJ B).length:=by
   have:=RD W;omega
  obtain⟨r,g⟩:∃r,(bJ B)[i]?=some r:=⟨(bJ B)[i],ah J⟩;obtain⟨p,q⟩:∃p,aj[i]?=some p:=⟨aj[i]'(by rw[ak];exact J),ah _⟩;have t:=V.2 i p r q g;obtain⟨h,n,rfl,_⟩:=id t;simp only[au]at t q;have aE:(kV (-1) ((bJ B).take i)).length=i:=by simp[kV];omega
  refine V3 λR d=>Wf H.m_ U10 om_ (ir q g) fl_ λaY aF=>V1 aF U8<|Wg U5 λaZ=>Wa (j:=0) U12<|V5 [2,3,4,8,10,20,21,22] d U<|U1 1 U λR d=>V9 ag U9<|Wm [i_ (-1),.slice h r.f.length n,ae (qtx r.b)] U8<|Wq [[i_ (-1),.slice h r.f.length n,ae (qtx r.b)]] U12 λa0 _ _ aG=>D.append (j:=1) U11 aG U ax (by simp only[Sk];omega) fl_ λal=>C6 1 [2,3,4,8,20,21,22] d U<|V3 λR d=>V8 _ U U6<|C6 1 [2,3,4,8,20,21,22] d U ?_;have A:=SrcsOk.snoc (s:=⟨-1,r⟩) I.m_ t.m_;rw[<- lU g]at A;refine WH 1 U<|Wk (L':=[.arr al 142 3 (kV (-1) ((bJ B).take (i+1))).length (bY (vs++[.slice h r.f.length n]) (kV (-1) ((bJ B).take (i+1)))).flatten]) (by rw[lU g,lV (jT I)];simp)<|We (m':=(bJ B).length-(i+1)) om_ mup (hn_ [2,3,4,8,20,21,22] U) ⟨i+1,vs++[.slice h r.f.length n],al,⟨by omega,A.mono mup⟩,U,U,U⟩
 have J:i=(bJ B).length:=by
  have:=Si W;omega
 rw[J,Ss]at I⊢;refine U0 3 [3,4,8,32,33,34] U<|Wk (L':=[.arr w 142 3 (bU (bJ B) c (l.take 0)).length (bY vs (bU (bJ B) c (l.take 0))).flatten]) (by simp[bU])<|G.loop (λfr x e y=>∃(j:Nat)(vs:List Value)(w:Value),(j<=l.length/\SrcsOk x vs (bU (bJ B) c (l.take j)))/\fr=[(3,[],p_ Q),(4,[],p_ S),(8,[],w),(32,[],.slice N l.length O),(33,[],i_ l.length),(34,[],i_ j)]/\e=[.arr w 142 3 (bU (bJ B) c (l.take j)).length (bY vs (bU (bJ B) c (l.take j))).flatten]/\y=l.length-j) (hn_ [3,4,8,32,33,34] U) ⟨0,vs,w,⟨Sm _,by simpa [bU] using I⟩,U,U,U⟩ (λfr a1 a2 m _ z=>?_);obtain⟨j,vs,w,⟨hj,E⟩,rfl,rfl,rfl⟩:=z;refine U0 1 [3,4,8,32,33,34,35] U<|G.cd (λX=>?_) λX=>?_
 .have Y:j<l.length:=by
   have:=RD X;omega
  obtain⟨a,Z⟩:∃a,l[j]?=some a:=⟨l[j],ah Y⟩;have am:=ad a (aJ Z);have aH:=aA (l.take j) (λi F=>ad i (To F)) (by rw[Sy];omega);rw[Sy]at aH;have aI:bU (bJ B) c (l.take (j+1))=bU (bJ B) c (l.take j)++kV (a:Nat) (c a):=by
   unfold bU;rw[jD _ Z,SX]
  have a3:=(qC o am).1;refine V3 λR d=>Wf M.m_ U10 om_ (cI Z) fl_ λa4 aK=>V1 aK U8<|C6 1 [3,4,8,12,32,33,34] d U<|V3 λR d=>V1 (bkT af 2) U8<|V1 (bkT ai 5) U8<|V2 U6<|Wz (RV _ hT.m_ _ B fs c a aw.m_ o am) U7 (λa5 _ _ aL=>?_);obtain⟨rv,rfl,an,ao,aa⟩:=aL;have ap:=ao.1;obtain⟨Ar,cr,rfl,aM,a6,_⟩:=id aa;simp only[bG ap]at aa aM⊢;refine C6 5 [3,4,8,12,13,14,32,33,34] d U<|U0 2 [3,4,8,12,13,14,32,33,34,46] U<|G.cd (λaq=>?_) λaq=>?_
  .exact absurd aq dc_
  refine U0 3 [3,4,8,12,32,33,34,48,49,50] U<|Wk (L':=[.arr w 142 3 (bU (bJ B) c (l.take j)++kV (a:Nat) ((c a).take 0)).length (bY vs (bU (bJ B) c (l.take j)++kV (a:Nat) ((c a).take 0))).flatten]) (by simp[kV])<|G.loop (λfr x e y=>∃(k:Nat)(vs:List Value)(w:Value),(k<=(c a).length/\SrcsOk x vs (bU (bJ B) c (l.take j)++kV (a:Nat) ((c a).take k)))/\fr=[(3,[],p_ Q),(4,[],p_ S),(8,[],w),(12,[],i_ a),(32,[],.slice N l.length O),(33,[],i_ l.length),(34,[],i_ j),(48,[],.slice Ar (c a).length cr),(49,[],i_ (c a).length),(50,[],i_ k)]/\e=[.arr w 142 3 (bU (bJ B) c (l.take j)++kV (a:Nat) ((c a).take k)).length (bY vs (bU (bJ B) c (l.take j)++kV (a:Nat) ((c a).take k))).flatten]/\y=(c a).length-k) (hn_ [3,4,8,12,32,33,34,48,49,50] U) ⟨0,vs,w,⟨Sm _,by rw[show kV (a:Nat) ((c a).take 0)=[] from U,SF];exact E.mono mup⟩,U,U,U⟩ (λfr a7 a8 m _ z=>?_);obtain⟨k,vs,w,⟨hk,K⟩,rfl,rfl,rfl⟩:=z;refine U0 1 [3,4,8,12,32,33,34,48,49,50,51] U<|G.cd (λab=>?_) λab=>?_
  .have L:k<(c a).length:=by
    have:=RD ab;omega
   obtain⟨r,g⟩:∃r,(c a)[k]?=some r:=⟨(c a)[k],ah L⟩;obtain⟨p,q⟩:∃p,an[k]?=some p:=⟨an[k]'(by rw[ap];exact L),ah _⟩;have t:=ao.2 k p r q g;obtain⟨h,n,rfl,_⟩:=id t;simp only[au]at t q;have aE:(kV (a:Nat) ((c a).take k)).length<=240:=by simp[kV];omega
   have a9:(bU (bJ B) c (l.take j)++kV (a:Nat) ((c a).take k)).length<=100000:=by rw[So];omega
   refine V3 λR d=>Wf aa.m_ U10 om_ (ir q g) fl_ λba aN=>V1 aN U8<|Wg U5 λbb=>Wa (j:=0) U12<|V5 [3,4,8,12,16,32,33,34,48,49,50] d U<|U1 2 U λR d=>V9 ag U9<|Wm [i_ (a:Nat),.slice h r.f.length n,ae (qtx r.b)] U8<|Wq [[i_ (a:Nat),.slice h r.f.length n,ae (qtx r.b)]] U12 λbc _ _ aO=>D.append (j:=1) U11 aO U ax (by simp only[Sk];omega) fl_ λar=>C6 1 [3,4,8,12,32,33,34,48,49,50] d U<|V3 λR d=>V8 _ U U6<|C6 1 [3,4,8,12,32,33,34,48,49,50] d U ?_;have A:=SrcsOk.snoc (s:=⟨(a:Nat),r⟩) K.m_ t.m_;rw[SX,<- lU g]at A;refine WH 1 U<|Wk (L':=[.arr ar 142 3 (bU (bJ B) c (l.take j)++kV (a:Nat) ((c a).take (k+1))).length (bY (vs++[.slice h r.f.length n]) (bU (bJ B) c (l.take j)++kV (a:Nat) ((c a).take (k+1)))).flatten]) (by rw[lU g,<- SX,lV (jT K)];simp;omega)<|We (m':=(c a).length-(k+1)) om_ mup (hn_ [3,4,8,12,32,33,34,48,49,50] U) ⟨k+1,vs++[.slice h r.f.length n],ar,⟨by omega,A.mono mup⟩,U,U,U⟩
  have L:k=(c a).length:=by
   have:=Si ab;omega
  rw[L,Ss,<- aI]at K⊢;refine V3 λR d=>V8 _ U U6<|C6 1 [3,4,8,32,33,34] d U<|We (m':=l.length-(j+1)) om_ mup (hn_ [3,4,8,32,33,34] U) ⟨j+1,vs,w,⟨by omega,K⟩,U,U,U⟩
 have Y:j=l.length:=by
  have:=Si X;omega
 rw[Y,Ss]at E⊢;refine G.freezeArr 0 (bY vs (bU (bJ B) c l)) U2 (sr _ _) (ot (jT E)) (λCg hg ac=>?_);obtain⟨Ag,cg,rfl,_⟩:=id ac;rw[ot (jT E)]at ac⊢;refine U0 3 [8,64] U<|G.cd (λav=>?_) λav=>?_
 .exfalso;have:=RD av;omega
 refine U0 3 [6,7] U<|Wd (G.dropAll (Wu U3 ?_));exact⟨U,_,U,vs,E.mono mup,ac.mono mup⟩
theorem Nr (C:Mem)(g:Tabs C)(h:Value)(B:Bk)(k:List Rat)(b:Nat->List RowQ)(c:BookIn C h B)(d:Rich B k b)(x:B.obs.length<=100)(z:(bU (bJ B) b (List.range B.obs.length)).length<=300) :
  Pur cx.P 54 [h] C λu D=>∃v,u=.tuple #[v,i_ 0]/\D9 D v (bU (bJ B) b (List.range B.obs.length)):=by
 have l:=c;have n:=d.bookz g c;obtain⟨Q,S,T,V,W,rfl,h1,h2,h3,h4,h5⟩:=id c.ex;obtain⟨X,Y,rfl,A,Z,_⟩:=id h5;have aa:=mx_
 simp only[au]at h5 A l n⊢;refine V7 func54 33 U3 λw0=>V3 λR a=>Wi U6 λE=>C6 2 [1] a U<|G.freeze 0 U λ_ _ e=>V3 λR a=>V1 (bkT e 5) U8<|Wb (OM _ _ B n.m_ d.h60) U7<|V4 3 U<|Wg U5 λF=>Wa (j:=0) U12<|C6 1 [1,4,5] a U<|U0 2 [1,4,5,14] U<|G.cd (λo=>?_) λo=>?_
 .exact absurd o dc_
 refine U0 1 [1,4,6] U<|U1 1 U λR a=>V1 (bkT e 1) U8<|C6 2 [1,4,6,18,19] a U<|G.freeze 0 U λ_ _ H=>G.nilArr 3 1<|G.loop (λfr C' p I=>∃(i:Nat)(w:Value),(i<=B.obs.length)/\fr=[(1,[],p_ E),(4,[],p_ F),(6,[],w),(18,[],i_ B.obs.length),(19,[],i_ i)]/\p=[.arr w 3 1 (List.range i).length ((List.range i).map aW).flatten]/\I=B.obs.length-i) (hn_ [1,4,6,18,19] U) ⟨0,_,Sm _,U,U,U⟩ (λfr ab ac m _ J=>?_);obtain⟨i,w,q,rfl,rfl,rfl⟩:=J;refine U0 1 [1,4,6,18,19,20] U<|G.cd (λf=>?_) λf=>?_
 .have s:i<B.obs.length:=by
   have:=RD f;omega
  have ad:(List.range i).length<=100:=by simp;omega
  refine U0 2 [1,4,6,7,18,19] U<|U1 2 U λR a=>Wq [aW i] U12 λae _ _ K=>D.append (j:=0) U11 K U ax (by simp only[Sk];omega) fl_ λt=>C6 1 [1,4,6,18,19] a U<|V3 λR a=>V8 _ U U6<|C6 1 [1,4,6,18,19] a U<|Wk (L':=[.arr t 3 1 (List.range (i+1)).length ((List.range (i+1)).map aW).flatten]) (by rw[Tz];simp[aW])<|We (m':=B.obs.length-(i+1)) om_ mup (hn_ [1,4,6,18,19] U) ⟨i+1,t,om_,U,U,U⟩
 have s:i=B.obs.length:=by
  have:=Si f;omega
 subst s;refine G.freezeArr 0 ((List.range B.obs.length).map aW) U2 (by intro r hr;obtain⟨y,_,rfl⟩:=Sn.1 hr;rfl) al λCg hg L=>V3 λR a=>V1 (bkT H 2) U8<|V1 (bkT e 5) U8<|V2 U6<|Ws (Jf _ g.m_ _ _ B k b (List.range B.obs.length) l.m_ d L.m_ (λi q=>SE.1 q) (by simpa using x) z) U7 fl_ (λaf _ _ M=>?_);obtain⟨N,rfl,O⟩:=M;refine C6 4 [2,3] a U<|Wd (G.dropAll (Wu U3 ?_));exact⟨U,N,U,O⟩
def cD (err:Nat->Int):Nat->Int
|0=>0
|n+1=>if cD err n≠0 then cD err n else err n
theorem mL {a:Nat->Int}{n:Nat}(h:cD a n≠0):∀m,n<=m->cD a m=cD a n
|0,hm=>by rw[show n=0 by omega]
|m+1,hm=>by
  rcases SP m n with h1|h1
  .rw[show n=m+1 by omega]
  have b:=mL h m h1;simp only[cD,b];rw[aK h]
theorem yH (a:cD err i=0)(b:err i≠0)(c:i<n):cD err n=err i:=by
 have h1:cD err (i+1)=err i:=by simp only[cD,a];rw[aF dc_]
 rw[mL (n:=i+1) (by rw[h1];exact b) n om_,h1]
theorem mK (a:cD err i=0)(b:err i=0):cD err (i+1)=0:=by
 simp only[cD,a];rw[aF dc_,b]
theorem iK {a:Nat->Int}:∀{n:Nat},cD a n=0->∀i,i<n->a i=0
|0,_,i,b=>by omega
|n+1,h,i,b=>by
  by_cases h0:cD a n=0
  .rcases SP i n with h1|h1
   .exact iK h0 i h1
   have:i=n:=by omega
   subst this;simp only[cD,h0]at h
   rwa [aF dc_]at h
  simp only[cD]at h;rw[aK h0]at h;exact absurd h h0
theorem rB {a:Nat->Int}:∀{n:Nat},(∀i,i<n->a i=0)->cD a n=0
|0,_=>rfl
|n+1,h=>mK (rB λi b=>h i om_) (h n om_)
def FieldsIn (C:Mem)(v:Value)(ls:List (List Str)):Prop:=∃vs:List Value,vs.length=ls.length/\(∀(i:Nat)(w:Value)(l:List Str),vs[i]?=some w->ls[i]?=some l->Sl C 1 w (l.map dC))/\Sl C 1 v (vs.map λw=>[w])
theorem FieldsIn.mono {C D:Mem}{v:Value}{a:List (List Str)}(h:FieldsIn C v a)(b:C.le D):FieldsIn D v a:=by
 obtain⟨vs,h1,h2,h3⟩:=h;exact⟨vs,h1,λi w l h4 h5=>(h2 i w l h4 h5).mono b,h3.mono b⟩
theorem FieldsIn.m_ {D:Mem}{a:List (List Str)}(h:FieldsIn C v a)(b:C.le D:=by exact mup):FieldsIn D v a:=FieldsIn.mono h b
def oQ (s p:Nat)(ls:List (List Str)):Int:=if ls.length=s then cD (λj=>oB p (ls.getD j [])) ls.length else 5
theorem DD {p:Nat}{l:List Str}(h:oB p l=0):l.length=p:=by
 unfold oB at h;split at h
 .assumption
 cases h
theorem DE {p:Nat}:∀{ls:List (List Str)},(∀l∈ls,l.length=p)->ls.flatten.length=p*ls.length
|[],_=>by simp
|l::ls,h=>by rw[Tu,So,h l Sj,DE λx a=>h x (Sv _ a),SC,Nat.mul_succ,Uu]
theorem IJ {a:List (List α)}{l:List α}(h:a[j]?=some l):(a.take (j+1)).flatten=(a.take j).flatten++l:=by
 rw[SH,h,SI];simp
theorem Gg (C:Mem)(S:Tabs C)(H v:Value)(B:Bk)(s:Nat)(a:List (List Str))(T:BookIn C H B)(I:Good B.pts B.tris)(V:FieldsIn C v a)(W:∀l∈a,∀x∈l,x.length<=999998)(hl:a.length<=1000) :
  Pur cx.P 150 [gu s (bp B),H,v] C λu D=>∃w,u=.tuple #[w,i_ (oQ s (bp B) a)]/\Sl D 1 w ((if oQ s (bp B) a=0 then a.flatten else []).map dC):=by
 obtain⟨vs,J,X,q⟩:=V;have am:=I.ok.lp;obtain⟨K,L,tv,cv,ov,rfl,h1,h2,h3,h4,h5⟩:=id T.ex;have hm:MeshIn C (.agg ⟨[K,L]⟩) B.pts B.tris:=⟨K,L,rfl,h1,h2⟩;obtain⟨Y,c0,rfl,Z,an,_⟩:=id q;have ao:=mx_
 simp only[au,J]at q Z⊢;refine V7 func150 35 U3 λw0=>V3 λR b=>Wi U6 λb3=>Wi U6 λb4=>C6 2 [2,3,4] b U<|G.freeze 1 U λ_ _ aa=>G.freeze 0 U λ_ _ ab=>U1 3 U λR b=>V1 (bkT aa 1) U8<|C6 1 [2,4,16] b U<|G.cd (λg=>?_) λg=>?_
 .have ac:a.length≠s:=by
   intro e;rw[e]at g;simp at g
  have c:oQ s (bp B) a=5:=by unfold oQ;rw[aF ac]
  refine U0 2 [6,7] U<|Wd (G.dropAll (Wu U3 ?_));exact⟨U,.slice none 0 0,by rw[c],by rw[c];exact Sl.nil _ _⟩
 have M:a.length=s:=by
  have h:((a.length:Nat):Int)=(s:Nat):=by simpa using g
  omega
 refine U0 1 [2,4,8] U<|U0 3 [4,8,17,18,19] U<|G.nilArr 32 1<|G.loop (λfr C' N μ=>∃(j:Nat)(w:Value),(j<=a.length/\cD (λj=>oB (bp B) (a.getD j [])) j=0)/\fr=[(4,[],p_ b4),(8,[],w),(17,[],.slice Y a.length c0),(18,[],i_ a.length),(19,[],i_ j)]/\N=[.arr w 32 1 (a.take j).flatten.length ((a.take j).flatten.map dC).flatten]/\μ=a.length-j) (hn_ [4,8,17,18,19] U) ⟨0,_,⟨Sm _,U⟩,U,U,U⟩ (λfr ap aq m _ hI=>?_);obtain⟨j,w,⟨hj,k⟩,rfl,rfl,rfl⟩:=hI;refine U0 1 [4,8,17,18,19,20] U<|G.cd (λt=>?_) λt=>?_
 .have d:j<a.length:=by
   have:=RD t;omega
  obtain⟨l,n⟩:∃l,a[j]?=some l:=⟨a[j],ah d⟩;obtain⟨z,A⟩:∃z,vs[j]?=some z:=⟨vs[j]'(by rw[J];exact d),ah _⟩;have o:=X j z l A n;obtain⟨Aw,cw,rfl,_⟩:=id o;simp only[au]at o A;have E:a.getD j []=l:=by rw[ak,n,TD]
  have ad:(vs.map λw=>[w])[j]?=some [.slice Aw l.length cw]:=by rw[Sh,A];rfl
  have af:∀x∈a.take j,x.length=bp B:=by
   intro x hx;obtain⟨i,F⟩:=TR hx;have ag:=(aT.1 F).1;rw[Sy]at ag;rw[Tb,aK om_]at F;have h:=iK k i om_;simp only[ak,F,TD]at h;exact DD h
  have O:=DE af;rw[Sy]at O;have ai:bp B<=400:=by unfold bp;omega
  have ar:(a.take j).flatten.length<=400*1000:=by rw[O];exact TA ai om_
  refine V3 λR b=>Wf q.m_ U10 om_ ad fl_ λav aj=>V1 aj U8<|C6 1 [4,8,10,17,18,19] b U<|U1 1 U λR b=>V1 (bkT ab 2) U8<|V2 U6<|Wb (mM _ S.m_ _ _ B.pts B.tris l hm.m_ I o.m_ (W l (aJ n))) U7<|C6 1 [4,8,10,11,17,18,19] b U<|U0 2 [4,8,10,11,17,18,19,28] U<|G.cd (λp=>?_) λp=>?_
  .have f:oB (bp B) l≠0:=by
    intro e;rw[show oB B.pts.length l=0 from e]at p;exact absurd p dc_
   have c:oQ s (bp B) a=oB (bp B) l:=by
    unfold oQ;rw[aK M,yH (i:=j) k (by simp only[E];exact f) d];simp only[E]
   refine U0 3 [6,7] U<|Wd (G.dropAll (Wu U3 ?_));exact⟨U,.slice none 0 0,by rw[c];rfl,by rw[c,aF f];exact Sl.nil _ _⟩
  have f:oB (bp B) l=0:=by
   have h:oB B.pts.length l=0:=by simpa using p
   exact h
  have aw:=DD f;refine U1 2 U λR b=>Ym (j:=0) U U U U U U U U U U U U U o.m_ (by simp[dC,kR,ae]) (by simp only[au,maxLen];omega) (by simp only[au];omega) fl_ λQ=>C6 1 [4,8,17,18,19] b U<|V3 λR b=>V8 _ U U6<|C6 1 [4,8,17,18,19] b U<|Wk (L':=[.arr Q 32 1 (a.take (j+1)).flatten.length ((a.take (j+1)).flatten.map dC).flatten]) (by rw[IJ n,SV,SI,So,au];rfl)<|We (m':=a.length-(j+1)) om_ mup (hn_ [4,8,17,18,19] U) ⟨j+1,Q,⟨by omega,mK k (by simp only[E];exact f)⟩,U,U,U⟩
 have d:j=a.length:=by
  have:=Si t;omega
 subst d;have c:oQ s (bp B) a=0:=by unfold oQ;rw[aK M];exact k
 rw[Ss];refine U0 3 [6,7] U<|G.freezeArr 0 (a.flatten.map dC) U2 (by intro r hr;obtain⟨y,_,rfl⟩:=Sn.1 hr;rfl) (by rw[au]) λCg hg al=>Wd (G.dropAll (Wu U3 ?_));exact⟨U,_,by rw[c],by rw[aK c];exact al⟩
theorem sN (C:Mem)(f:Tabs C)(c v:Value)(B:Bk)(a:List (List Str))(d:BookIn C c B)(g:Good B.pts B.tris)(h:BookZ C c B 0)(i:bs B*bp B<=60)(k:FieldsIn C v a)(m:∀l∈a,∀x∈l,x.length<=999998)(n:a.length<=1000) :
  Pur cx.P 82 [c,v] C λu D=>∃w,u=.tuple #[w,i_ (oQ (bs B) (bp B) a)]/\Sl D 1 w ((if oQ (bs B) (bp B) a=0 then a.flatten else []).map dC):=by
 have o:=d;obtain⟨s,t,y,z,A,rfl,h1,h2,h3,h4,h5⟩:=id d.ex;refine V7 func82 22 U3 λw0=>V3 λR b=>Wi U6 λE=>C6 2 [1,2] b U<|V3 λR b=>V9 ag U9<|Wb (OM _ _ B h.m_ i) U7<|V4 3 U<|Wg U5 λF=>Wa (j:=0) U12<|C6 1 [1,2,6,7] b U<|U0 2 [1,2,6,7,14] U<|G.cd (λe=>?_) λe=>?_
 .exact absurd e dc_
 refine V3 λR b=>V9 ag U9<|V9 af U9<|V2 U6<|Wz (Gg _ f.m_ _ _ B (bs B) a o.m_ g k.m_ m n) U7 (λH _ _ p=>?_);obtain⟨q,rfl,r⟩:=p;refine C6 4 [4,5] b U<|Wd (G.dropAll (Wu U3 ?_));exact⟨U,q,U,r⟩
def sz (s p:Nat)(l:List Str):Int:=if l.length=s*p then oc (l.all aS) else 5
def yU (p:Nat)(l:List Str)(j:Nat):List Str:=(l.take ((j+1)*p)).drop (j*p)
def chunks (s p:Nat)(l:List Str):List (List Str):=(List.range s).map (yU p l)
theorem Ol {l:List Str}(h:l.all aS=true):l=(l.map dt).map qtx:=by
 rw[Th];symm;have e:∀s∈l,(qtx ∘ dt) s=id s:=λs hs=>(dE (SA.1 h s hs)).1.symm;rw[List.map_congr_left e,List.map_id]
theorem yJ (C:Mem)(hT:Tabs C)(E v:Value)(B:Bk)(l:List Str)(hB:BookIn C E B)(F:BookZ C E B 0)(aa:bs B*bp B<=60)(f:Sl C 1 v (l.map dC))(hs:∀x∈l,x.length<=999998)(_ar:l.length<=100000) :
  Pur cx.P 81 [E,v] C λu D=>∃w,u=.tuple #[w,i_ (sz (bs B) (bp B) l)]/\FieldsIn D w (if sz (bs B) (bp B) l=0 then chunks (bs B) (bp B) l else []):=by
 have av:=F.lc;have aw:=F.lp;have ay:bs B<=1000:=by unfold bs;omega
 have az:bp B<=400:=by unfold bp;omega
 obtain⟨v1,v2,tv,cv,ov,rfl,h1,h2,h3,h4,h5⟩:=id hB.ex;obtain⟨c,c0,rfl,ab,aA,_⟩:=id f;have aB:=mx_
 simp only[au]at f ab⊢;refine V7 func81 60 U3 λw0=>V3 λR a=>Wi U6 λb2=>C6 2 [1,2] a U<|V3 λR a=>V9 ag U9<|Wb (OM _ _ B F.m_ aa) U7<|V4 3 U<|Wg U5 λN=>Wa (j:=0) U12<|C6 1 [1,6,7] a U<|U0 2 [1,6,7,19] U<|G.cd (λO=>?_) λO=>?_
 .exact absurd O dc_
 refine G.freeze 0 U λ_ _ g=>U1 2 U λR a=>V1 (bkT g 2) U8<|Wc (jo _ (bs B) (bp B) om_) U7 fl_<|C6 1 [1,6,25] a U<|G.cd (λk=>?_) λk=>?_
 .have ac:l.length≠bs B*bp B:=by
   intro e;rw[e]at k;simp at k
  have b:sz (bs B) (bp B) l=5:=by unfold sz;rw[aF ac]
  refine U0 2 [4,5] U<|Wd (G.dropAll (Wu U3 ?_));exact⟨U,.slice none 0 0,by rw[b],by rw[b];exact⟨[],U,λi w l h1 _=>by simp at h1,Sl.nil _ _⟩⟩
 have Q:l.length=bs B*bp B:=by
  have h:((l.length:Nat):Int)=((bs B*bp B:Nat):Int):=by simpa using k
  omega
 refine U0 3 [1,6,26,27,28] U<|G.dropAll<|G.loop (λfr S n H=>∃(i:Nat),(i<=l.length/\(l.take i).all aS=true)/\fr=[(1,[],.slice c l.length c0),(6,[],p_ N),(26,[],.slice c l.length c0),(27,[],i_ l.length),(28,[],i_ i)]/\n=[]/\H=l.length-i) (hn_ [1,6,26,27,28] U) ⟨0,⟨Sm _,by simp⟩,U,U,U⟩ (λfr aC aD m ad I=>?_);obtain⟨i,⟨o,p⟩,rfl,rfl,rfl⟩:=I;refine U0 1 [1,6,26,27,28,29] U<|G.cd (λJ=>?_) λJ=>?_
 .have K:i<l.length:=by
   have:=RD J;omega
  obtain⟨s,t⟩:∃s,l[i]?=some s:=⟨l[i],ah K⟩;refine V3 λR a=>Wf f.m_ U10 om_ (cI t) fl_ λaE ae=>V1 ae U8<|C6 1 [1,6,9,26,27,28] a U<|U1 1 U λR a=>Wb (dB _ hT.m_ s (hs s (aJ t))) U7<|C6 1 [1,6,10,26,27,28] a U<|U0 2 [1,6,10,26,27,28,35] U<|G.cd (λd=>?_) λd=>?_
  .have T:aS s=false:=by
    rcases eN (aS s) with⟨h1,h2⟩|⟨h1,h2⟩
    .rw[h1]at d;exact absurd d dc_
    exact h2
   have b:sz (bs B) (bp B) l=2:=by
    unfold sz;rw[aK Q,show l.all aS=false from UJ.2 ⟨s,aJ t,by rw[T];decide⟩];rfl
   refine U0 3 [4,5] U<|Wd (G.dropAll (Wu U3 ?_));exact⟨U,.slice none 0 0,by rw[b,T];rfl,by rw[b];exact⟨[],U,λi w l h1 _=>by simp at h1,Sl.nil _ _⟩⟩
  have af:aS s=true:=by
   rcases eN (aS s) with⟨h1,h2⟩|⟨h1,h2⟩
   .exact h2
   rw[h1]at d;exact absurd d dc_
  refine V3 λR a=>V8 _ U U6<|C6 1 [1,6,26,27,28] a U<|We (m':=l.length-(i+1)) om_ ad (hn_ [1,6,26,27,28] U) ⟨i+1,⟨by omega,by rw[SH,t,VU,p];simp[af]⟩,U,U,U⟩
 have K:i=l.length:=by
  have:=Si J;omega
 subst K;rw[Ss]at p;have b:sz (bs B) (bp B) l=0:=by unfold sz;rw[aK Q,p];rfl
 have ai:=Ol p;refine U0 1 [1,6,11] U<|U1 1 U λR a=>V1 (bkT g 1) U8<|C6 1 [1,6,11,39,40] a U<|G.nilArr 41 1<|G.loop (λfr S n H=>∃(j:Nat)(vs:List Value)(w:Value),(j<=bs B/\vs.length=j/\(∀(i:Nat)(w:Value),vs[i]?=some w->Sl S 1 w ((yU (bp B) l i).map dC)))/\fr=[(1,[],.slice c l.length c0),(6,[],p_ N),(11,[],w),(39,[],i_ (bs B:Nat)),(40,[],i_ j)]/\n=[.arr w 41 1 vs.length (vs.map λw=>[w]).flatten]/\H=bs B-j) (hn_ [1,6,11,39,40] U) ⟨0,[],_,⟨Sm _,U,λi w h=>by simp at h⟩,U,U,U⟩ (λfr aG aH m _ I=>?_);obtain⟨j,vs,w,⟨hj,V,W⟩,rfl,rfl,rfl⟩:=I;refine U0 1 [1,6,11,39,40,41] U<|G.cd (λL=>?_) λL=>?_
 .have M:j<bs B:=by
   have:=RD L;omega
  have aI:(j+1)*bp B<=bs B*bp B:=SY _ M;have aL:(j+1)*bp B=j*bp B+bp B:=Nat.succ_mul _ _;have aj:=Sl.sub f (l:=j*bp B) (h:=(j+1)*bp B) (m:=c0) om_ am om_ (Sg _);have X:yU (bp B) l j=(((l.map dt).take ((j+1)*bp B)).drop (j*bp B)).map qtx:=by
   unfold yU
   conv=>lhs;rw[ai]
   rw[List.map_drop,Us]
  have ak:Sl C 1 (.slice (if c0=j*bp B then c else c.map (·.add (j*bp B*1))) ((j+1)*bp B-j*bp B) (c0-j*bp B)) ((((l.map dt).take ((j+1)*bp B)).drop (j*bp B)).map eH):=by
   rw[nT,<- X];unfold yU;rw[List.map_drop,Us];exact aj
  refine U0 2 [1,6,11,12,39,40] U<|Wt [(12,3)] U λR a=>V4 4 U<|V1 (bkT g 1) U8<|V8 (((j*bp B:Nat):Int)) (SK _ _) U6<|V2 U6<|Wx (((j+1:Nat):Int)) U4 om_ om_ om_ U2<|V2 U6<|V1 (bkT g 1) U8<|V8 ((((j+1)*bp B:Nat):Int)) (SK _ _) U6<|WN (j*bp B) ((j+1)*bp B) c0 U12 (λ_=>⟨.inr ⟨_,U⟩,.inr ⟨_,U⟩,.inl ⟨U,U⟩,by omega,by omega,by omega⟩) U2<|D.call (Je _ _ _ ak.m_ am) U (.inr dc_) U6 (Sp _) fl_ (λaM _ aN _ an=>?_);obtain⟨z,A,cc,rfl,rfl⟩:=an;refine Wq [[.slice z A cc]] U12 λaO _ _ ao=>D.append (j:=1) U11 ao U ax (by simp only[Sk];omega) fl_ λY=>C6 1 [1,6,11,39,40] a U<|V3 λR a=>V8 _ U U6<|C6 1 [1,6,11,39,40] a U<|G.freezeArr 1 ((((l.map dt).take ((j+1)*bp B)).drop (j*bp B)).map eH) U2 (by intro r hr;obtain⟨y,_,rfl⟩:=Sn.1 hr;rfl) (by rw[au]) (λCz b Z=>?_);rw[nT,<- X]at Z;refine Wk (L':=[.arr Y 41 1 (vs++[Value.slice z A cc]).length ((vs++[Value.slice z A cc]).map λw=>[w]).flatten]) al<|We (m':=bs B-(j+1)) om_ mup (hn_ [1,6,11,39,40] U) ⟨j+1,vs++[.slice z A cc],Y,⟨by omega,by simp[V],λi w h=>by
   rcases SP i vs.length with h1|h1
   .rw[Ta h1]at h;exact(W i w h).mono mup
   rw[SR h1]at h;cases o:i-vs.length with
  |zero =>
    rw[o]at h;simp at h;subst h;rw[show i=j by omega];exact Z
  |succ q=>rw[o]at h;simp at h⟩,rfl,rfl,rfl⟩
 have M:j=bs B:=by
  have:=Si L;omega
 have ap:(chunks (bs B) (bp B) l).length=bs B:=by simp[chunks]
 refine U0 3 [4,5] U<|G.freezeArr 0 (vs.map λw=>[w]) U2 (by intro r hr;obtain⟨y,_,rfl⟩:=Sn.1 hr;rfl) (by rw[au]) λCg hg aq=>Wd (G.dropAll (Wu U3 ?_));refine⟨U,_,by rw[b], ?_⟩;rw[aK b];refine⟨vs,by rw[ap,V,M],λi w l2 h1 h2=>?_,aq⟩;unfold chunks at h2;rw[Sh]at h2;have o:=(aT.1 h1).1;rw[SU om_]at h2;simp only[TU,S6]at h2;subst h2;exact(W i w h1).mono mup
def dotV (f x:List Rat):Nat->Rat
|0=>0
|n+1=>dotV f x n+f.getD n 0*x.getD n 0
structure DotOk (r:RowQ)(x:List Rat):Prop where
 f:∀q∈r.f,QB 22 q
 b:QB 22 r.b
 len:r.f.length=x.length
 s:∀n,QB 2000 (dotV r.f x n)
theorem vw (C:Mem)(v:Value)(l:List RowQ)(g:Nat)(h:List Value)(a:RowQ->Bool)(s:RowsIn C v l)(_L:Jog.Enters cx.P g=true)
  (t:∀x∈l,∀(D:Mem)(q:Value),C.le D->Sl D 1 q (x.f.map eH)->Gives cx.P g (.agg ⟨[q,ae (qtx x.b)]⟩::h) D (.bool (a x))) :
  Gives cx.P 152 [v,.func (.func g) #[] ⟨h⟩] C (i_ (ib a l 0)):=by
 obtain⟨vs,j,k⟩:=s;obtain⟨u,c0,rfl,z,M,_⟩:=id k;have N:=mx_
 simp only[bG j.1]at k z⊢;refine V7 func152 19 U3 λw0=>U0 1 [0,1] U<|U0 3 [0,1,7,8] U<|G.loop (λfr O A B=>∃(i:Nat),(i<=l.length/\∀y∈l.take i,a y=false)/\fr=[(0,[],.slice u l.length c0),(1,[],.func (.func g) #[] ⟨h⟩),(7,[],i_ l.length),(8,[],i_ i)]/\A=[]/\B=l.length-i) (hn_ [0,1,7,8] U) ⟨0,⟨Sm _,by simp⟩,U,U,U⟩ (λfr Q S m E F=>?_);obtain⟨i,⟨T,d⟩,rfl,rfl,rfl⟩:=F;refine U0 1 [0,1,7,8,9] U<|G.cd (λn=>?_) λn=>?_
 .have e:i<l.length:=by simpa using n
  obtain⟨x,c⟩:∃x,l[i]?=some x:=⟨l[i],ah e⟩;obtain⟨w,r⟩:∃w,vs[i]?=some w:=⟨vs[i]'(by rw[j.1];exact e),ah _⟩;have H:=j.2 i w x r c;refine U0 2 [0,1,5,7,8] U<|U1 3 U λR o=>Wf k.m_ U10 om_ (ir r c) fl_ λV I=>V1 I U8<|Wb (t x (aJ c) _ w mup H.m_) U7<|V5 [0,1,5,7,8,16] o U<|G.cd (λp=>?_) λp=>?_
  .have J:a x=true:=p;exact U0 2 [4] U<|V6 U2<|⟨by rw[mI c J d,Tw],U⟩
  have K:a x=false:=p;refine V3 λR o=>V8 _ U U6<|C6 1 [0,1,7,8] o U<|We (m':=l.length-(i+1)) om_ E (hn_ [0,1,7,8] U) ⟨i+1,⟨by omega,λy hy=>by
   rw[SH,c]at hy;rcases Sx.1 hy with hy|hy
   .exact d y hy
   simp only[TE,SD]at hy;subst hy;exact K⟩,U,U,U⟩
 have e:i=l.length:=by
  have:¬ i<l.length:=by simpa using n
  omega
 exact U0 1 [4] U<|V6 U2<|⟨by rw[e,Ss]at d;rw[jA d],U⟩
theorem oN (C:Mem)(v:Value)(l:List RowQ)(g:Nat)(d:List Value)(a:RowQ->Bool)(e:RowsIn C v l)(h:Jog.Enters cx.P g=true)
  (j:∀x∈l,∀(D:Mem)(c:Value),C.le D->Sl D 1 c (x.f.map eH)->Gives cx.P g (.agg ⟨[c,ae (qtx x.b)]⟩::d) D (.bool (a x))) :
  Gives cx.P 87 [v,.func (.func g) #[] ⟨d⟩] C (.bool (l.any a)):=by
 refine V7 func87 9 U3 λw0=>U0 1 [0,1] U<|U1 2 U λR k=>Wb (vw _ v l g d a e.m_ h (λx m D c n=>j x m D c (Mem.le.trans mup n))) U7<|C6 2 [4] k U<|V6 U2<|⟨?_,U⟩;congr 1;rcases ia a l with⟨h1,h2⟩|⟨i,x,h1,h2,h3,_⟩
 .rw[h1,List.any_eq_false.2 (λy hy=>by rw[h2 y hy];decide)];rfl
 rw[h1,UM.2 ⟨x,aJ h2,h3⟩];exact SB om_
def txs (lq:List (List Rat)):List (List Str):=lq.map λl=>l.map qtx
end Go.Proofs.YtfjcldheldflbaaGreatDoor
