import Derived.Test.YtfjcldheldflbaaGreatDoorG9
set_option maxHeartbeats 4000000
namespace Go.Proofs.YtfjcldheldflbaaGreatDoor
open Go.Proofs.Tryz
open Go Go.Jog
set_option maxRecDepth 100000
variable {B:Bk}{C:Mem}{a b:Nat}{err:Nat->Int}{f:Nat->Rat}{fs:List Rat}{i j k n:Nat}{o:Obs}{p:Pt}{t:Tri}{v:Value}{vs:List Value}{z:Rat}{α:Type}
structure RowQ where
 f:List Rat
 b:Rat
def aB (vs:List Value)(rows:List RowQ):List (List Value):=List.zipWith (λw (r:RowQ)=>[w,ag (qtx r.b)]) vs rows
def RowsOk (C:Mem)(vs:List Value)(rows:List RowQ):Prop:=vs.length=rows.length/\∀(i:Nat)(w:Value)(r:RowQ),vs[i]?=some w->rows[i]?=some r->Sl C 1 w (r.f.map dH)
theorem RowsOk.mono {C D:Mem}{a:List Value}{b:List RowQ}(h:RowsOk C a b)(c:C.le D):RowsOk D a b:=⟨h.1,λi w r h1 h2=>(h.2 i w r h1 h2).mono c⟩
theorem RowsOk.m_ {D:Mem}{a:List RowQ}(h:RowsOk C vs a)(b:C.le D:=by exact mup):RowsOk D vs a:=RowsOk.mono h b
theorem RowsOk.nil (C:Mem):RowsOk C [] []:=⟨rfl,λi w r h1 _=>by simp at h1⟩
theorem RowsOk.snoc {a:List RowQ}{r:RowQ}(h:RowsOk C vs a)(c:Sl C 1 v (r.f.map dH)):RowsOk C (vs++[v]) (a++[r]):=by
 have h0:=h.1;refine⟨by simp[h0],λj w r' h1 h2=>?_⟩;rcases Th j vs.length with d|e
 .rw[Tz d]at h1;rw[Tz om_]at h2;exact h.2 j w r' h1 h2
 rw[Tj e]at h1;rw[Tj om_,<- h0]at h2;cases b:j-vs.length with
|zero=>rw[b]at h1 h2;simp at h1 h2;subst h1;subst h2;exact c
|succ q=>rw[b]at h1;simp at h1
theorem cm {a:List RowQ}(h:vs.length=a.length)(v:Value)(r:RowQ):aB (vs++[v]) (a++[r])=aB vs a++[[v,ag (qtx r.b)]]:=by
 unfold aB;rw[List.zipWith_append h];rfl
theorem bI {a:List RowQ}(h:vs.length=a.length):(aB vs a).length=a.length:=by simp[aB,h]
theorem cC (b:List Value)(c:List RowQ):∀r∈aB b c,r.length=2:=by
 intro r hr;unfold aB at hr;let⟨i,a⟩:=Uh hr;rw[List.getElem?_zipWith]at a;cases h1:b[i]? <;> cases h2:c[i]? <;> rw[h1,h2]at a <;> simp at a
 subst a;rfl
def RowsIn (C:Mem)(v:Value)(rows:List RowQ):Prop:=∃vs:List Value,RowsOk C vs rows/\Sl C 2 v (aB vs rows)
theorem RowsIn.mono {C D:Mem}{v:Value}{a:List RowQ}(h:RowsIn C v a)(b:C.le D):RowsIn D v a:=by
 let⟨vs,h1,h2⟩:=h;exact⟨vs,h1.mono b,h2.mono b⟩
theorem RowsIn.m_ {D:Mem}{a:List RowQ}(h:RowsIn C v a)(b:C.le D:=by exact mup):RowsIn D v a:=RowsIn.mono h b
def Gc (s p:Nat)(x:Lay)(i k:Nat):RowQ:=⟨tm (s*p) [(i*p+k, -1),((i-1)*p+k,1)], -x.min⟩
def ID (s p:Nat)(m:Rat)(i k:Nat):RowQ:=⟨tm (s*p) [(i*p+k,1),((i-1)*p+k, -1)],m⟩
def kP (s p:Nat)(x:Lay)(i k:Nat):List RowQ :=
 Gc s p x i k::(match x.max with
 |none=>[]
 |some m=>[ID s p m i k])
def ci (s p:Nat)(x:Lay)(i:Nat):Nat->List RowQ
|0=>[]
|k+1=>ci s p x i k++kP s p x i k
def bR (s p:Nat)(col:List Lay):Nat->List RowQ
|0=>[]
|n+1=>bR s p col n++ci s p (col.getD (n+1) ⟨[],0,none⟩) (n+1) p
theorem nK (s p:Nat)(x:Lay)(i:Nat):∀k,(ci s p x i k).length<=2*k
|0=>SH _
|k+1=>by
  have:=nK s p x i k;have h2:(kP s p x i k).length<=2:=by unfold kP;split <;> simp
  simp only[ci,SP];omega
theorem nJ (s p:Nat)(a:List Lay):∀n,(bR s p a n).length<=2*(n*p)
|0=>by simp[bR]
|n+1=>by
  have:=nJ s p a n;have h2:=nK s p (a.getD (n+1) ⟨[],0,none⟩) (n+1) p;simp only[bR,SP,Nat.succ_mul];omega
theorem fe:qtx (-1)=[45,49]:=by
 rw[fj (q:=1) dc_ dc_,fT]
theorem st2 (c d:Rat)(e:a<n)(f:b<n):aC (aC (List.replicate n (ag [48])) [ag (qtx c)] a) [ag (qtx d)] b=sx n [(b,d),(a,c)]:=by
 rw[vI,kv _ _ e,kv _ _ f]
theorem st2' (c d:Rat)(e:a<n)(f:b<n)(g:a≠b):aC (aC (List.replicate n (ag [48])) [ag (qtx d)] b) [ag (qtx c)] a=sx n [(b,d),(a,c)]:=by
 rw[st2 d c f e];unfold sx;rw[xH (List.Perm.swap _ _ _) (by simp;exact g)]
theorem rJ (n:Nat)(d:List (Nat × Rat)):sx n d=((tm n d).map dH).flatten:=(eF (λq=>ag (qtx q)) _).symm
theorem jZ (n:Nat)(d:List (Nat × Rat)):(tm n d).length=n:=by simp[tm]
theorem xf (C:Mem)(_aM:Tabs C)(v:Value)(s p:Nat)(c:List Lay)(A:Sl C 3 v (c.map pq))(hs:s+1=c.length)(aN:s*p<=60)(af:∀x∈c,Qj x) :
  Pur cx.P 182 [gu s p,v] C λu D=>RowsIn D u (bR s p c (c.length-2)):=by
 obtain⟨M,c0,rfl,ai,aO,_⟩:=id A;have aP:=mx_
 simp only[ar]at A ai⊢;refine Wy func182 81 U3 λw0=>?_;refine Wu λR d=>?_;refine WH U6 (λN=>?_);refine C6 1 [1,2] d U ?_;clear d R;refine G.freeze 0 U (λ_ _ B=>?_);refine U0 1 [1,2,5] U ?_;refine U0 1 [1,2,5,6] U ?_;refine G.nilArr 140 2 ?_;refine G.loop (λfr K f E=>∃(i:Nat)(vs:List Value)(w:Value),(1<=i/\(i+1<=c.length∨i=1)/\RowsOk K vs (bR s p c (i-1)))/\fr=[(1,[],.slice M c.length c0),(2,[],p_ N),(5,[],w),(6,[],i_ i)]/\f=[.arr w 140 2 (bR s p c (i-1)).length (aB vs (bR s p c (i-1))).flatten]/\E=c.length-i) (hn_ [1,2,5,6] U) ⟨1,[],_,⟨SH _,.inr U,RowsOk.nil _⟩,U,U,U⟩ (λfr aQ aR m _ F=>?_);obtain⟨i,vs,w,⟨aS,aU,L⟩,rfl,rfl,rfl⟩:=F;refine U1 1 U λR d=>?_;refine Wz _ U U6 ?_;refine C6 3 [1,2,5,6,15] d U ?_;clear d R;refine G.cd (λO=>?_) λO=>?_
 .have X:i+1<c.length:=by
   have:=aT O;omega
  let⟨x,H⟩:∃x,c[i]?=some x:=⟨c[i]'om_,aj om_⟩;let⟨Y,aV,aW⟩:=af x (aK H);have aX:=nJ s p c (i-1);refine U1 1 U λR d=>?_;refine Ws (bkT B 1) U8 ?_;refine C6 1 [1,2,5,6,19,20] d U ?_;clear d R;refine WK (L':=[.arr w 140 2 (bR s p c (i-1)++ci s p x i 0).length (aB vs (bR s p c (i-1)++ci s p x i 0)).flatten]) (by simp[ci]) ?_;refine G.loop (λfr K f E=>∃(k:Nat)(g:List Value)(o:Value),(k<=p/\RowsOk K g (bR s p c (i-1)++ci s p x i k))/\fr=[(1,[],.slice M c.length c0),(2,[],p_ N),(5,[],o),(6,[],i_ i),(19,[],i_ p),(20,[],i_ k)]/\f=[.arr o 140 2 (bR s p c (i-1)++ci s p x i k).length (aB g (bR s p c (i-1)++ci s p x i k)).flatten]/\E=p-k) (hn_ [1,2,5,6,19,20] U) ⟨0,vs,w,⟨SM _,by simpa [ci] using L⟩,U,U,U⟩ (λfr aY aZ m _ F=>?_);obtain⟨k,g,o,⟨hk,Q⟩,rfl,rfl,rfl⟩:=F;refine U0 1 [1,2,5,6,19,20,21] U ?_;refine G.cd (λS=>?_) λS=>?_
  .have Z:k<p:=by simpa using S
   have a0:i*p+p<=s*p:=by
    rw[<- Nat.succ_mul];exact To _ om_
   have a1:(i-1)*p+p=i*p:=by
    rw[<- Nat.succ_mul,show(i-1).succ=i by omega]
   have a2:=nK s p x i k;have a3:(i-1)*p<=60:=by omega
   have aa:(bR s p c (i-1)++ci s p x i k).length<=400:=by
    rw[SP];omega
   refine U0 2 [1,2,5,6,7,19,20] U ?_;refine WM [0,1,2,3,4,5,6,7,8,9,10] [(4,1),(8,1)] U kr_ (λR e d=>?_);refine Ws (bkT B 2) U8 ?_;refine Wt U6 ?_;refine WW (((i-1:Nat):Int)) U4 om_ om_ om_ U2 ?_;refine Wt U6 ?_;refine WN (λ_=>(Aj _ s p (i-1) k om_)) U9 ?_;refine Ws (bkT B 2) U8 ?_;refine Wv 2 U ?_;refine WN (λ_=>(Aj _ s p i k om_)) U9 ?_;refine Wv 2 U ?_;refine Ww [1,2,5,6,8,9,19,20] d U ?_;clear d e R;refine G.cut (λfr K f E=>∃(bz h:Nat),(True)/\fr=[(1,[],.slice M c.length c0),(2,[],p_ N),(5,[],o),(6,[],i_ i),(8,[],i_ ((((i-1)*p+k:Nat)):Int)),(9,[],i_ (((i*p+k:Nat)):Int)),(10,[],p_ h),(19,[],i_ p),(20,[],i_ k)]/\f=[.arr (s_ bz (s*p) (s*p)) 32 1 (s*p) (List.replicate (s*p) (ag [48])),.obj h (.cells ⟨[s_ bz (s*p) (s*p),ag (qtx (-x.min))]⟩ 140 (0,0)),.arr o 140 2 (bR s p c (i-1)++ci s p x i k).length (aB g (bR s p c (i-1)++ci s p x i k)).flatten]) ?_ (λfr a4 a5 E a6 F=>?_)
   .refine Xt (.cut [0,2,3,4,5,6] (.alt 1 (.fin [7,8,9,10]) (.alt 9 (.fin [1,7,8,10]) .stop))) [(7,1),(1,3),(6,0)] U U kr_ (λR e d T=>?_);refine Ws (bkT B 2) U8 ?_;refine Wv 2 U ?_;refine WG A.m_ U10 om_ (cM H) fl_ (λa7 ak=>?_);refine Xv ak U10 fl_ (λa8 al=>?_);refine W9 (λ_=>(al.mono e)) U9 ?_;refine Xh T U ⟨?_, ?_,trivial⟩
    .refine D.call (oX _ s p om_) U (.inr dc_) U6 (SQ _) fl_ (λam an ao _ V=>?_);refine W5 (λ_=>(fu _ x.min (OI Y))) U9 ?_;obtain⟨bz,rfl,rfl⟩:=V;refine WL [s_ bz (s*p:Nat) (s*p:Nat),ag (qtx (-x.min))] U8 ?_;refine WI U5 (λh=>?_)
     first|refine XC (j:=0) U12 ?_|refine XC (j:=1) U12 ?_
     refine Ww [1,2,5,6,8,9,10,19,20] d U ?_;clear d e T R;refine G.perm (L':=[.arr (s_ bz (s*p) (s*p)) 32 1 (s*p) (List.replicate (s*p) (ag [48])),.obj h (.cells ⟨[s_ bz (s*p) (s*p),ag (qtx (-x.min))]⟩ 140 (0,0)),.arr o 140 2 (bR s p c (i-1)++ci s p x i k).length (aB g (bR s p c (i-1)++ci s p x i k)).flatten]) (by first|exact SQ _|exact List.Perm.swap _ _ _) ?_;exact WJ 0 mup (hn_ [1,2,5,6,8,9,10,19,20] U) ⟨bz,h,trivial,U,U⟩
    refine WI U5 (λh=>?_);refine D.call (oX _ s p om_) U (.inr dc_) U6 (SQ _) fl_ (λam an ao _ V=>?_);refine W5 (λ_=>(fu _ x.min (OI Y))) U9 ?_;obtain⟨bz,rfl,rfl⟩:=V;refine WL [s_ bz (s*p:Nat) (s*p:Nat),ag (qtx (-x.min))] U8 ?_
    first|refine XC (j:=0) U12 ?_|refine XC (j:=1) U12 ?_
    refine Ww [1,2,5,6,8,9,10,19,20] d U ?_;clear d e T R;refine G.perm (L':=[.arr (s_ bz (s*p) (s*p)) 32 1 (s*p) (List.replicate (s*p) (ag [48])),.obj h (.cells ⟨[s_ bz (s*p) (s*p),ag (qtx (-x.min))]⟩ 140 (0,0)),.arr o 140 2 (bR s p c (i-1)++ci s p x i k).length (aB g (bR s p c (i-1)++ci s p x i k)).flatten]) (by first|exact SQ _|exact List.Perm.swap _ _ _) ?_;exact WJ 0 mup (hn_ [1,2,5,6,8,9,10,19,20] U) ⟨bz,h,trivial,U,U⟩
   obtain⟨bz,h,_,rfl,rfl⟩:=F;refine X6 1 U [0,1,2,3,4,5,6,7,8,9] [(1,0),(4,0)] U kr_ (λa9 R ba ab e d=>?_);refine Wt U6 ?_;refine W9 (λ_=>(PtrTo.block ab _).mono e) U9 ?_;refine Wv 2 U ?_;refine W9 (λ_=>(PtrTo.block ab _).mono e) U9 ?_;refine Wt U6 ?_;refine WV (((i-1)*p+k)) U10 (λ_=>⟨by omega,by omega,(T0 _).symm⟩) U2 ?_;refine WZ (j:=0) U11 (by simp[];omega) ?_;refine WV ((i*p+k)) U10 (λ_=>⟨by omega,by omega,(T0 _).symm⟩) U2 ?_;refine WZ (j:=0) U11 (by simp[aC];omega) ?_;refine Xp [(1,[],_),(2,[],_),(5,[],_),(6,[],_),(8,[],_),(9,[],_),(10,[],_),(19,[],_),(20,[],_)] ⟨U,U,U,U,U,U,U,U,U,trivial⟩ (d _ _ _ U (λbb bc=>?_));clear d e R;refine G.perm (L':=[.arr (s_ bz (s*p) (s*p)) 32 1 (s*p) (sx (s*p) [(i*p+k, -1),((i-1)*p+k,1)]),.obj h (.cells ⟨[s_ bz (s*p) (s*p),ag (qtx (-x.min))]⟩ 140 (0,0)),.arr o 140 2 (bR s p c (i-1)++ci s p x i k).length (aB g (bR s p c (i-1)++ci s p x i k)).flatten]) (by
    first
   |(rw[<- st2 (n:=s*p) 1 (-1) om_ om_,fT,fe];exact List.Perm.swap _ _ _)
   |(rw[<- st2' (n:=s*p) 1 (-1) om_ om_ om_,fT,fe];exact List.Perm.swap _ _ _)) ?_
   refine G.freezeArr 0 ((tm (s*p) [(i*p+k, -1),((i-1)*p+k,1)]).map dH) rfl (rJ _ _) (by intro r hr;obtain⟨y,_,rfl⟩:=SL.1 hr;rfl) (by simp[jZ]) (λCz hz ap=>?_);have aq:=Q.1;have W:=RowsOk.snoc (r:=Gc s p x i k) Q.m_ ap;have au:=cm aq (s_ bz (s*p) (s*p)) (Gc s p x i k);refine U1 1 U λR d=>?_;refine WA ah U9 ?_;refine WP [[s_ bz (s*p:Nat) (s*p:Nat),ag (qtx (-x.min))]] U12 (λbd _ _ av=>?_);refine D.append (j:=1) U11 av U ay (by simp only[SN];omega) fl_ (λI=>?_);refine C6 1 [1,2,5,6,8,9,10,19,20] d U ?_;clear d R;refine WK (L':=[.arr I 140 2 (bR s p c (i-1)++ci s p x i k++[Gc s p x i k]).length (aB (g++[s_ bz (s*p) (s*p)]) (bR s p c (i-1)++ci s p x i k++[Gc s p x i k])).flatten,.obj h (.cells ⟨[s_ bz (s*p) (s*p),ag (qtx (-x.min))]⟩ 140 (0,0))]) (by rw[au];simp[Gc];omega) ?_;refine U1 2 U λR d=>?_;refine WG A.m_ U10 om_ (cM H) fl_ (λbe aw=>?_);refine Xv aw U10 fl_ (λbf ax=>?_);refine Ws ax U8 ?_;refine C6 1 [1,2,5,6,8,9,10,19,20,58] d U ?_;clear d R;refine G.cd (λz=>?_) λz=>?_
   .let⟨m,hm⟩:∃m,x.max=some m:=by
     rw[rb]at z;exact VT.1 z
    have J:kP s p x i k=[Gc s p x i k,ID s p m i k]:=by unfold kP;rw[hm]
    have az:E7 x.max=qtx m:=by rw[hm];rfl
    refine WM [0,2,3,4,5,6,1,7,8] [(1,3),(6,0)] U kr_ (λR e d=>?_);refine Ws (bkT B 2) U8 ?_;refine Wv 2 U ?_;refine WG A.m_ U10 om_ (cM H) fl_ (λbg aA=>?_);refine Xv aA U10 fl_ (λbh aD=>?_);refine W9 (λ_=>(aD.mono e)) U9 ?_;refine D.call (oX _ s p om_) U (.inr dc_) U6 (SQ _) fl_ (λbi _ bj _ aE=>?_);obtain⟨t,rfl,rfl⟩:=aE;refine WL [s_ t (s*p:Nat) (s*p:Nat),ag (E7 x.max)] U8 ?_;refine WB (j:=2) U12 ?_;refine Ww [1,2,5,6,8,9,10,19,20] d U ?_;clear d e R;refine G.perm (L':=[.arr (s_ t (s*p) (s*p)) 32 1 (s*p) (List.replicate (s*p) (ag [48])),.obj h (.cells ⟨[s_ t (s*p) (s*p),ag (E7 x.max)]⟩ 140 (0,0)),.arr I 140 2 (bR s p c (i-1)++ci s p x i k++[Gc s p x i k]).length (aB (g++[s_ bz (s*p) (s*p)]) (bR s p c (i-1)++ci s p x i k++[Gc s p x i k])).flatten]) (by first|exact SQ _|exact List.Perm.swap _ _ _) ?_;refine X6 1 U [0,1,2,3,4,5,6,7,8,9] [(1,0),(4,0)] U kr_ (λbk R bl ac e d=>?_);refine Wt U6 ?_;refine W9 (λ_=>(PtrTo.block ac _).mono e) U9 ?_;refine Wv 2 U ?_;refine W9 (λ_=>(PtrTo.block ac _).mono e) U9 ?_;refine Wt U6 ?_;refine WV (((i-1)*p+k)) U10 (λ_=>⟨by omega,by omega,(T0 _).symm⟩) U2 ?_;refine WZ (j:=0) U11 (by simp[];omega) ?_;refine WV ((i*p+k)) U10 (λ_=>⟨by omega,by omega,(T0 _).symm⟩) U2 ?_;refine WZ (j:=0) U11 (by simp[aC];omega) ?_;refine Xp [(1,[],_),(2,[],_),(5,[],_),(6,[],_),(10,[],_),(19,[],_),(20,[],_)] ⟨U,U,U,U,U,U,U,trivial⟩ (d _ _ _ U (λbm bn=>?_));clear d e R;refine G.perm (L':=[.arr (s_ t (s*p) (s*p)) 32 1 (s*p) (sx (s*p) [(i*p+k,1),((i-1)*p+k, -1)]),.obj h (.cells ⟨[s_ t (s*p) (s*p),ag (E7 x.max)]⟩ 140 (0,0)),.arr I 140 2 (bR s p c (i-1)++ci s p x i k++[Gc s p x i k]).length (aB (g++[s_ bz (s*p) (s*p)]) (bR s p c (i-1)++ci s p x i k++[Gc s p x i k])).flatten]) (by
     first
    |(rw[<- st2 (n:=s*p) (-1) 1 om_ om_,fT,fe];exact List.Perm.swap _ _ _)
    |(rw[<- st2' (n:=s*p) (-1) 1 om_ om_ om_,fT,fe];exact List.Perm.swap _ _ _)) ?_
    refine G.freezeArr 0 ((tm (s*p) [(i*p+k,1),((i-1)*p+k, -1)]).map dH) rfl (rJ _ _) (by intro r hr;obtain⟨y,_,rfl⟩:=SL.1 hr;rfl) (by simp[jZ]) (λbo bp aF=>?_);have aG:=RowsOk.snoc (r:=ID s p m i k) W.m_ aF;have aH:=cm W.1 (s_ t (s*p) (s*p)) (ID s p m i k);refine U1 1 U λR d=>?_;refine WA ah U9 ?_;refine WP [[s_ t (s*p:Nat) (s*p:Nat),ag (E7 x.max)]] U12 (λbq _ _ aI=>?_);refine D.append (j:=1) U11 aI U (by simp only[SP,SN,maxLen]at aa⊢;omega) (by simp only[SP,SN]at aa⊢;omega) fl_ (λad=>?_);refine C6 1 [1,2,5,6,19,20] d U ?_;clear d R;refine Wu λR d=>?_;refine Wz _ U U6 ?_;refine C6 1 [1,2,5,6,19,20] d U ?_;clear d R;refine Xb 1 U ?_;refine WK (L':=[.arr ad 140 2 (bR s p c (i-1)++ci s p x i (k+1)).length (aB (g++[s_ bz (s*p) (s*p)]++[s_ t (s*p) (s*p)]) (bR s p c (i-1)++ci s p x i (k+1))).flatten]) (by
     rw[ci,J,<- Tn,show ∀(l:List RowQ)(a b:RowQ),l++[a,b]=l++[a]++[b] from λl a b=>by simp,aH,az];simp[ID];omega) ?_
    refine WF (m':=p-(k+1)) om_ mup (hn_ [1,2,5,6,19,20] U) ⟨k+1,_,ad,⟨by omega,by
     rw[ci,J,<- Tn,show ∀(l:List RowQ)(a b:RowQ),l++[a,b]=l++[a]++[b] from λl a b=>by simp];exact aG.mono mup⟩,U,U,U⟩
   have hm:x.max=none:=by
    rw[rb]at z;cases aJ:x.max with
   |none=>rfl
   |some q=>rw[aJ]at z;cases z
   have J:kP s p x i k=[Gc s p x i k]:=by unfold kP;rw[hm]
   refine Wu λR d=>?_;refine Wz _ U U6 ?_;refine C6 1 [1,2,5,6,19,20] d U ?_;clear d R;refine Xb 1 U ?_;refine WK (L':=[.arr I 140 2 (bR s p c (i-1)++ci s p x i (k+1)).length (aB (g++[s_ bz (s*p) (s*p)]) (bR s p c (i-1)++ci s p x i (k+1))).flatten]) (by rw[ci,J,<- Tn];rfl) ?_;refine WF (m':=p-(k+1)) om_ mup (hn_ [1,2,5,6,19,20] U) ⟨k+1,_,I,⟨by omega,by
    rw[ci,J,<- Tn];exact W.mono mup⟩,U,U,U⟩
  have Z:k=p:=by
   have:¬ k<p:=by simpa using S
   omega
  have ae:bR s p c (i-1)++ci s p x i k=bR s p c i:=by
   obtain⟨j,rfl⟩:∃j,i=j+1:=⟨i-1,by omega⟩;rw[Z,UX,bR,Nj H]
  refine U1 1 U λR d=>?_;refine Wz _ U U6 ?_;refine C6 1 [1,2,5,6] d U ?_;clear d R;refine WK (L':=[.arr o 140 2 (bR s p c (i+1-1)).length (aB g (bR s p c (i+1-1))).flatten]) (by rw[ae];rfl) ?_;refine WF (m':=c.length-(i+1)) om_ mup (hn_ [1,2,5,6] U) ⟨i+1,g,o,⟨by omega,.inl om_,by rw[UX,<- ae];exact Q⟩,U,U,U⟩
 have X:i-1=c.length-2:=by
  have:=SJ O;omega
 refine U0 2 [4] U ?_;rw[X]at L⊢;refine G.freezeArr 0 (aB vs (bR s p c (c.length-2))) U U (cC _ _) (bI L.1) (λCg hg aL=>?_);refine Wx U2 ?_;exact⟨U,vs,L.mono mup,aL⟩
theorem vK {l:List (Nat × Rat)}(q:Rat)(h:k ∉ l.map (·.1)):jd (jI l) ((k:Nat):Int) (ag (qtx q))=jI (l++[(k,q)]):=by
 rw[km (by
  rw[cQ];unfold jI;rw[TH];intro hm;let⟨x,a,b⟩:=SL.1 hm;have:x.1=k:=by
   have h2:((x.1:Nat):Int)=(k:Int):=b;omega
  exact h (this ▸ US (f:=(·.1)) a))]
 simp[jI]
theorem se (a c:Pt):dQ a a c=0/\dQ c a a=0/\dQ a c a=0:=by
 unfold dQ;refine⟨?_, ?_, ?_⟩ <;> grind
theorem uF {a:List Pt}{b:List Tri}(c:MeshOk a b)(d:t∈b):t.1≠t.2.1/\t.1≠t.2.2/\t.2.1≠t.2.2:=by
 have h:=kr c d;refine⟨λe=>h ?_,λe=>h ?_,λe=>h ?_⟩
 .have:cor a t 1=cor a t 0:=by show a.getD t.2.1 _=a.getD t.1 _;rw[e]
  rw[this];exact(se _ _).1
 .have:cor a t 2=cor a t 0:=by show a.getD t.2.2 _=a.getD t.1 _;rw[e]
  rw[this];exact(se _ _).2.2
 have:cor a t 2=cor a t 1:=by show a.getD t.2.2 _=a.getD t.2.1 _;rw[e]
 rw[this];exact(se _ _).2.1
def atT (t:Tri)(f:Nat->Rat):List (Nat × Rat):=[(t.1,f 0),(t.2.1,f 1),(t.2.2,f 2)]
theorem sa (f:Nat->Rat)(h:t.1≠t.2.1/\t.1≠t.2.2/\t.2.1≠t.2.2):((atT t f).map (·.1)).Nodup:=by
 simp[atT,h.1,h.2.1,h.2.2]
theorem zP (t:Tri)(h:j<3):(jJ t)[j]?=some (i_ (pY t j:Nat)):=by
 rcases(by omega:j=0∨j=1∨j=2) with rfl|rfl|rfl <;> rfl
theorem MO {a:TypeId}(h:C b=some (.cells ⟨[ag (qtx (f 0)),ag (qtx (f 1)),ag (qtx (f 2))]⟩ a (0,0)))(c:k<3):PtrTo C (.pointer (some ⟨b,k,none⟩)) [ag (qtx (f k))]:=by
 rcases(by omega:k=0∨k=1∨k=2) with rfl|rfl|rfl <;> exact PtrTo.blockT h _ 1
theorem jH (t:Tri)(f:Nat->Rat)(j:Nat)(a:j<3)(h:t.1≠t.2.1/\t.1≠t.2.2/\t.2.1≠t.2.2):jd (jI ((atT t f).take j)) ((pY t j:Nat):Int) (ag (qtx (f j)))=jI ((atT t f).take (j+1)):=by
 rcases(by omega:j=0∨j=1∨j=2) with rfl|rfl|rfl
 .exact vK (l:=[]) _ am
 .exact vK (l:=[(t.1,f 0)]) (k:=t.2.1) _ (by simpa using h.1.symm)
 exact vK (l:=[(t.1,f 0),(t.2.1,f 1)]) (k:=t.2.2) _ (by simp[h.2.1.symm,h.2.2.symm])
theorem FM (C:Mem)(s:Tabs C)(v:Value)(c:List Pt)(d:List Tri)(p:Pt)(i:Nat)(r:List Nat)(t:Tri)(w:MeshIn C v c d)(l:Good c d)(x:QP 23 p)(y:PtR p)(I:lu c d p=i::r)(k:d[i]?=some t)(J:∀j,QB 22 (wgt c t p j)) :
  Pur cx.P 242 [v,ptV p] C λu D=>∃b,u=.tuple #[.map (some b),i_ (i:Nat),i_ 0]/\D b=some (bh keyZ.enc (jI (atT t (wgt c t p)))):=by
 have K:=l.ok;have n:=w;have af:=(R0.1 k).1;let⟨L,M,N⟩:=uF K (aK k);obtain⟨v1,v2,rfl,h1,h2⟩:=id w.ex;obtain⟨A2,c2,rfl,O,ag,_⟩:=id h2;have ah:=mx_
 simp only[ar]at h2 n O⊢;refine Wy func242 54 U3 λw0=>Wu λR a=>WH U6 λb2=>WH U6 λb3=>C6 3 [2,3] a U<|G.freeze 1 U λ_ _ o=>G.freeze 0 U λ_ _ z=>Wu λR a=>Ws (bkT o 2) U8<|Ws (bkT z 2) U8<|WY (mG _ s.m_ _ c d p n.m_ l x y) U7 (λai _ _ Q=>?_);obtain⟨wv,rfl,e⟩:=Q;rw[I]at e;let⟨S,T,A,_⟩:=id e;rw[ar]at A;subst A;refine C6 5 [2,3,6,7] a U<|U0 2 [2,3,6,7,18] U<|G.cd (λB=>?_) λB=>?_
 .exact absurd B dc_
 refine WM [0,1,2,3,4,5,6,7,8,9,10,11] [(5,1)] U kr_ λR E a=>Ws (bkT o 2) U8<|Wt U6<|WG e.m_ U10 om_ (rfl:(List.map aX (i::r))[0]?=some (aX i)) fl_ λaj V=>Ws V U8<|Ws (bkT z 2) U8<|W5 (λ_=>(xu _ s.m_ _ c d p i t n.m_ l x y k J)) U9<|Wv 3 U<|WI U5 λW=>WB (j:=0) U12<|C6 1 [2,6,7,8] a U<|U0 2 [2,6,7,8,30] U<|G.cd (λF=>?_) λF=>?_
 .exact absurd F dc_
 refine G.freeze 0 U λ_ _ X=>Wu λR a=>D.makeMap keyZ U U U U fl_ λg=>C6 1 [2,4,7,8] a U<|WM [0,1,2,3,4,5,6,7] [] U kr_ λR E a=>Wt U6<|Ws (bkT o 1) U8<|Wt U6<|WG e.m_ U10 om_ (rfl:(List.map aX (i::r))[0]?=some (aX i)) fl_ λak Y=>Ws Y U8<|WG h2.m_ U10 om_ (cM k) fl_ λal Z=>Ws Z U8<|C6 1 [4,7,8,39,40] a U<|G.loop (λfr C' H μ=>∃(j:Nat),(j<=3)/\fr=[(4,[],.map (some g)),(7,[],.slice S (i::r).length T),(8,[],p_ W),(39,[],.agg ⟨jJ t⟩),(40,[],i_ j)]/\H=[.obj g (bh keyZ.enc (jI ((atT t (wgt c t p)).take j)))]/\μ=3-j) (hn_ [4,7,8,39,40] U) ⟨0,SM _,U,U,U⟩ (λfr aa am m ab hI=>?_);obtain⟨j,hj,rfl,rfl,rfl⟩:=hI;refine U0 1 [4,7,8,39,40,41] U<|G.cd (λq=>?_) λq=>?_
 .have h:j<3:=by
   simp only[SS]at q;omega
  have ac:=MO (f:=wgt c t p) (Mem.get (D:=aa) X mup) h;refine U1 1 U λR a=>Xx U11 (λ_=>⟨by omega,by omega,zP t (j:=j) h⟩) U2<|C6 2 [4,7,8,9,10,39,40] a U<|U1 3 U λR a=>WO (j) U9 (λ_=>⟨by omega,by omega,by show j=0+(j:Int).toNat*1;omega⟩) U2<|Ws ac.m_ U8<|D.mapUpdate keyZ (j:=0) U U U U U U U U U U kr_<|Ww [4,7,8,39,40] a U<|Wu λR a=>Wz _ U U6<|C6 1 [4,7,8,39,40] a U<|WK (L':=[.obj g (bh keyZ.enc (jI ((atT t (wgt c t p)).take (j+1))))]) (congrArg (λm=>[Ent.obj g (bh keyZ.enc m)]) (jH t _ j h ⟨L,M,N⟩))<|WF (m':=3-(j+1)) om_ ab (hn_ [4,7,8,39,40] U) ⟨j+1,by omega,U,U,U⟩
 have h:j=3:=by
  simp only[Tk]at q;omega
 subst h;refine G.freeze 0 U λCm an ad=>WM [0,1,2,3,4,5,6] [] U kr_ λR E a=>Wv 2 U<|WG e.m_ U10 om_ (rfl:(List.map aX (i::r))[0]?=some (aX i)) fl_ λao ae=>Ws ae U8<|C6 3 [4,5,6] a U<|WE (G.dropAll (Xj U4 ?_));exact⟨U,g,U,ad⟩
def wY (n k:Nat):List Rat:=tm n [(k,1)]
def slf (pts:List Pt)(t:Tri)(j:Nat):Pt:=dY pts (wY pts.length (pY t j)) t
theorem wX (n k:Nat):(wY n k).length=n:=jZ n _
theorem Ci :∀q∈wY n k,q=0∨q=1:=by
 intro q a;unfold wY tm at a;obtain⟨j,_,rfl⟩:=SL.1 a;simp only[eh];split
 .exact .inr U
 exact .inl U
theorem Ch :∀q∈wY n k,QB 1 q:=by
 intro q a;rcases Ci q a with rfl|rfl
 .exact QB_zero
 exact QB_one
theorem FI (C:Mem)(L:Tabs C)(z:Value)(a:List Pt)(g:List Tri)(i:Nat)(t:Tri)(A:MeshIn C z a g)(B:Good a g)(f:g[i]?=some t)(M:∀j,QP 22 (slf a t j)) :
  Pur cx.P 248 [z,i_ i] C λu D=>∃E F,u=.tuple #[.map (some E),.map (some F),i_ 0]/\D E=some (bh keyZ.enc (jI (atT t λj=>(slf a t j).1)))/\D F=some (bh keyZ.enc (jI (atT t λj=>(slf a t j).2))):=by
 have n:=B.ok;have H:=A;have ab:=n.lp;have I:=n.ins t (aK f);let⟨ac,ad,ae⟩:=id I;have af:=(R0.1 f).1;let⟨h,k,l⟩:=uF n (aK f);obtain⟨v1,v2,rfl,h1,h2⟩:=id A.ex;obtain⟨A1,c1,rfl,ah,ai,_⟩:=id h1;obtain⟨A2,c2,rfl,N,aj,_⟩:=id h2;have ak:=mx_
 simp only[ar]at h1 h2 H N⊢;refine Wy func248 51 U3 λw0=>Wu λR b=>WH U6 λJ=>C6 3 [1,2] b U<|G.freeze 0 U λ_ _ o=>Wu λR b=>D.makeMap keyZ U U U U fl_ λc=>D.makeMap keyZ U U U U fl_ λd=>C6 2 [1,2,4,5] b U<|U1 1 U λR b=>Ws (bkT o 1) U8<|Wt U6<|WG h2.m_ U10 om_ (cM f) fl_ λal O=>Ws O U8<|C6 1 [1,2,4,5,18,19] b U<|G.perm (L':=[.obj c (bh keyZ.enc (jI [])),.obj d (bh keyZ.enc (jI []))]) (List.Perm.swap _ _ _)<|G.loop (λfr Q e p=>∃(j:Nat),(j<=3)/\fr=[(1,[],i_ i),(2,[],p_ J),(4,[],.map (some c)),(5,[],.map (some d)),(18,[],.agg ⟨jJ t⟩),(19,[],i_ j)]/\e=[.obj c (bh keyZ.enc (jI ((atT t λj=>(slf a t j).1).take j))),.obj d (bh keyZ.enc (jI ((atT t λj=>(slf a t j).2).take j)))]/\p=3-j) (hn_ [1,2,4,5,18,19] U) ⟨0,SM _,U,U,U⟩ (λfr am an m _ s=>?_);obtain⟨j,hj,rfl,rfl,rfl⟩:=s;refine U0 1 [1,2,4,5,18,19,20] U<|G.cd (λv=>?_) λv=>?_
 .have w:j<3:=by
   simp only[SS]at v;omega
  refine Wu λR b=>Xx U11 (λ_=>⟨by omega,by omega,zP t (j:=j) w⟩) U2<|C6 1 [1,2,4,5,8,18,19] b U<|WQ [(4,3)] U λR b=>WP [[ag [48]]] U12 λao _ _ S=>Wt U6<|Ws (bkT o 1) U8<|Wt U6<|D.call (EW _ _ a.length [48] S.m_ om_) U (.inr dc_) U6 (SQ _) fl_ λap _ aq _ T=>C6 1 [1,2,4,5,8,9,18,19] b U ?_;obtain⟨bz,rfl,rfl⟩:=T;have V:pY t j<a.length:=fM I j;refine WK (L':=[.arr (s_ bz a.length a.length) 32 1 a.length (sx a.length []),.obj c (bh keyZ.enc (jI ((atT t λj=>(slf a t j).1).take j))),.obj d (bh keyZ.enc (jI ((atT t λj=>(slf a t j).2).take j)))]) (by rw[vI];rfl)<|U1 2 U λR b=>WV ((pY t j)) U10 (λ_=>⟨by omega,by omega,(T0 _).symm⟩) U2<|WZ (j:=0) U11 (by rw[vJ];simp;omega)<|Ww [1,2,4,5,8,9,18,19] b U<|WK (L':=[.arr (s_ bz a.length a.length) 32 1 a.length (sx a.length [(pY t j,1)]),.obj c (bh keyZ.enc (jI ((atT t λj=>(slf a t j).1).take j))),.obj d (bh keyZ.enc (jI ((atT t λj=>(slf a t j).2).take j)))]) (by rw[<- kv [] 1 V,fT];rfl)<|G.freezeArr 0 ((wY a.length (pY t j)).map dH) rfl (rJ _ _) (by intro r hr;obtain⟨y,_,rfl⟩:=SL.1 hr;rfl) (by rw[ar,wX]) λCz hz W=>Wu λR b=>Ws (bkT o 2) U8<|Wv 2 U<|WC (Ks _ L.m_ _ _ a g (wY a.length (pY t j)) 1 dc_ dc_ H.m_ B W.m_ (wX _ _) Ch (λq X=>bA ((Ch q X).le dc_)) i t f (M j)) U7 fl_<|Wv 3 U<|WI U5 λau=>WB (j:=0) U12<|C6 1 [1,2,4,5,8,10,11,18,19] b U<|U0 2 [1,2,4,5,8,10,11,18,19,38] U<|G.cd (λK=>?_) λK=>?_
  .exact absurd K dc_
  refine G.freeze 0 U λ_ _ x=>G.cut (λfr Q e p=>(True)/\fr=[(1,[],i_ i),(2,[],p_ J),(4,[],.map (some c)),(5,[],.map (some d)),(18,[],.agg ⟨jJ t⟩),(19,[],i_ ((j:Nat):Int))]/\e=[.obj c (bh keyZ.enc (jI ((atT t λj=>(slf a t j).1).take (j+1)))),.obj d (bh keyZ.enc (jI ((atT t λj=>(slf a t j).2).take (j+1))))]) ?_ (λfr av aw p ax s=>?_)
  .refine Xt (.cut [0,1,2,3,4,5,6] (.alt 7 (.fin [8,9]) (.alt 8 (.fin [7,9]) .stop))) [] U U kr_ λR hB b Y=>Wv 5 U<|Ws (bkT x 1) U8<|Wt U6<|Xh Y U ⟨?_, ?_,trivial⟩
   .refine Ws (bkT x 1) U8 ?_
    first|refine D.mapUpdate keyZ (j:=0) rfl rfl rfl rfl rfl rfl rfl rfl rfl rfl kr_ ?_|refine D.mapUpdate keyZ (j:=1) rfl rfl rfl rfl rfl rfl rfl rfl rfl rfl kr_ ?_
    first|refine D.mapUpdate keyZ (j:=1) rfl rfl rfl rfl rfl rfl rfl rfl rfl rfl kr_ ?_|refine D.mapUpdate keyZ (j:=0) rfl rfl rfl rfl rfl rfl rfl rfl rfl rfl kr_ ?_
    refine Ww [1,2,4,5,18,19] b U<|G.perm (L':=[.obj c (bh keyZ.enc (jI ((atT t λj=>(slf a t j).1).take (j+1)))),.obj d (bh keyZ.enc (jI ((atT t λj=>(slf a t j).2).take (j+1))))]) (by
     rw[<- jH t (λj=>(slf a t j).1) j om_ ⟨h,k,l⟩,<- jH t (λj=>(slf a t j).2) j om_ ⟨h,k,l⟩]
     first|exact SQ _|exact List.Perm.swap _ _ _) ?_
    exact WJ 0 l_ (hn_ [1,2,4,5,18,19] U) ⟨trivial,U,U⟩
   first|refine D.mapUpdate keyZ (j:=0) rfl rfl rfl rfl rfl rfl rfl rfl rfl rfl kr_ ?_|refine D.mapUpdate keyZ (j:=1) rfl rfl rfl rfl rfl rfl rfl rfl rfl rfl kr_ ?_
   refine Ws (bkT x 1) U8 ?_
   first|refine D.mapUpdate keyZ (j:=1) rfl rfl rfl rfl rfl rfl rfl rfl rfl rfl kr_ ?_|refine D.mapUpdate keyZ (j:=0) rfl rfl rfl rfl rfl rfl rfl rfl rfl rfl kr_ ?_
   refine Ww [1,2,4,5,18,19] b U<|G.perm (L':=[.obj c (bh keyZ.enc (jI ((atT t λj=>(slf a t j).1).take (j+1)))),.obj d (bh keyZ.enc (jI ((atT t λj=>(slf a t j).2).take (j+1))))]) (by
    rw[<- jH t (λj=>(slf a t j).1) j om_ ⟨h,k,l⟩,<- jH t (λj=>(slf a t j).2) j om_ ⟨h,k,l⟩]
    first|exact SQ _|exact List.Perm.swap _ _ _) ?_
   exact WJ 0 l_ (hn_ [1,2,4,5,18,19] U) ⟨trivial,U,U⟩
  obtain⟨_,rfl,rfl⟩:=s;refine Wu λR b=>Wz _ U U6<|C6 1 [1,2,4,5,18,19] b U<|WF (m':=3-(j+1)) om_ mup (hn_ [1,2,4,5,18,19] U) ⟨j+1,by omega,U,U,U⟩
 have w:j=3:=by
  simp only[Tk]at v;omega
 subst w;refine G.freeze 0 U λCm ay Z=>G.freeze 0 U λCn az aa=>U0 5 [4,5,6] U<|WE (G.dropAll (Xj U4 ?_));exact⟨U,c,d,U,Mem.get Z mup,aa⟩
theorem ni (C:Mem)(v:Value)(l:List Rat)(b:Sl C 1 v (l.map dH))(t:l.length<=1000000):Jog.Fn cx.P 50 [v] C [] λu _w e=>∃A n c,u=.slice A n c/\e=[.arr (.slice A n c) 32 1 l.length (l.map dH).flatten]:=by
 obtain⟨f,c0,rfl,m,x,y,o⟩:=id b;have z:=mx_
 simp only[ar]at b m⊢;refine Wy func50 8 U3 λw0=>U0 1 [0] U<|U1 1 U λR d=>XH U9<|Ww [0,4] d U<|G.cd (λh4=>?_) λh4=>?_
 .have p:f=none:=by
   cases f with
  |none=>rfl
  |some a=>cases h4
  have s:l=[]:=by
   cases l with
  |nil=>rfl
  |cons q r =>
    let⟨a,g,_⟩:=o 0 (dH q) rfl;rw[p]at g;cases g
  refine U0 1 [2] U<|G.nilArr 32 1<|WE (W6 U U ?_);exact⟨none,0,0,U,by rw[s];rfl⟩
 refine Wu λR d=>Xu [] U12 fl_ λB=>Wt U6<|W0 (j:=0) U11 b.m_ (by simp[dH,kS,ag]) (by simp only[ar,Tp,maxLen];omega) (by simp only[ar,Tp];omega) fl_ λh i k=>C6 1 [2] d U<|WK (L':=[.arr (.slice h i k) 32 1 l.length (l.map dH).flatten]) am<|WE (W6 U U ?_);exact⟨h,i,k,U,U⟩
theorem zc (C:Mem)(v:Value)(l:List Rat)(b:Sl C 1 v (l.map dH))(t:l.length<=1000000):Jog.Fn cx.P 48 [v] C [] λu _w e=>∃A n c,u=.slice A n c/\e=[.arr (.slice A n c) 32 1 l.length (l.map dH).flatten]:=by
 obtain⟨f,c0,rfl,m,x,y,o⟩:=id b;have z:=mx_
 simp only[ar]at b m⊢;refine Wy func48 8 U3 λw0=>U0 1 [0] U<|U1 1 U λR d=>XH U9<|Ww [0,4] d U<|G.cd (λh4=>?_) λh4=>?_
 .have p:f=none:=by
   cases f with
  |none=>rfl
  |some a=>cases h4
  have s:l=[]:=by
   cases l with
  |nil=>rfl
  |cons q r =>
    let⟨a,g,_⟩:=o 0 (dH q) rfl;rw[p]at g;cases g
  refine U0 1 [2] U<|G.nilArr 32 1<|WE (W6 U U ?_);exact⟨none,0,0,U,by rw[s];rfl⟩
 refine Wu λR d=>Xu [] U12 fl_ λB=>Wt U6<|W0 (j:=0) U11 b.m_ (by simp[dH,kS,ag]) (by simp only[ar,Tp,maxLen];omega) (by simp only[ar,Tp];omega) fl_ λh i k=>C6 1 [2] d U<|WK (L':=[.arr (.slice h i k) 32 1 l.length (l.map dH).flatten]) am<|WE (W6 U U ?_);exact⟨h,i,k,U,U⟩
def Qh (r:RowQ):Prop:=(∀q∈r.f,QB 22 q)/\QB 22 r.b
theorem iu {a:List RowQ}{w:Value}{r:RowQ}(c:vs[i]?=some w)(d:a[i]?=some r):(aB vs a)[i]?=some [w,ag (qtx r.b)]:=by
 unfold aB;rw[List.getElem?_zipWith,c,d]
theorem FP (C:Mem)(hT:Tabs C)(v:Value)(a:List RowQ)(hv:RowsIn C v a)(e:∀r∈a,Qh r)(ac:∀r∈a,r.f.length<=1000)(an:a.length<=100000) :
  Gives cx.P 249 [v] C (.tuple #[v,i_ 0]):=by
 let⟨vs,z,A⟩:=hv;obtain⟨l,c0,rfl,ad,ao,_⟩:=id A;have ap:=mx_
 simp only[bI z.1]at A ad⊢;refine Wy func249 32 U3 λw0=>U0 2 [0] U<|U0 3 [0,8,9,10] U<|G.loop (λfr B n o=>∃(i:Nat),(i<=a.length)/\fr=[(0,[],.slice l a.length c0),(8,[],.slice l a.length c0),(9,[],i_ a.length),(10,[],i_ i)]/\n=[]/\o=a.length-i) (hn_ [0,8,9,10] U) ⟨0,SM _,U,U,U⟩ (λfr aq au m _ p=>?_);obtain⟨i,hi,rfl,rfl,rfl⟩:=p;refine U0 1 [0,8,9,10,11] U<|G.cd (λI=>?_) λI=>?_
 .have J:i<a.length:=by simpa using I
  let⟨r,E⟩:∃r,a[i]?=some r:=⟨a[i],aj J⟩;let⟨w,K⟩:∃w,vs[i]?=some w:=⟨vs[i]'(by rw[z.1];exact J),aj _⟩;have L:=aK E;let⟨ae,af⟩:=e r L;have av:=ac r L;have aw:(r.f++[r.b]).length<=1001:=by simp;omega
  have x:=z.2 i w r K E;obtain⟨Aw,cw,rfl,_⟩:=id x;refine Wu λR c=>WG A.m_ U10 om_ (iu K E) fl_ λax ah=>Ws ah U8<|WI U5 λb5=>WB (j:=0) U12<|Ww [0,5,8,9,10] c U<|G.freeze 0 U λ_ _ F=>G.cut (λfr B n o=>∃(g:Option Addr)(k:Nat),(Sl B 1 (.slice g (r.f++[r.b]).length k) ((r.f++[r.b]).map dH))/\fr=[(0,[],.slice l a.length c0),(8,[],.slice l a.length c0),(9,[],i_ a.length),(10,[],i_ i),(20,[],.slice g (r.f++[r.b]).length k),(21,[],i_ (r.f++[r.b]).length),(22,[],i_ 0)]/\n=[]) ?_ (λfr az aA o aB p=>?_)
  .refine Xt (.cut [0,1,3,8] (.alt 2 (.fin [4,5,6,7]) (.alt 4 (.cut [] (.alt 2 (.fin [5,6,7]) (.alt 5 (.fin [2,6,7]) .stop))) .stop))) [(2,3)] U U kr_ λR hB c M=>Wt U6<|Ws (bkT F 1) U8<|Wv 2 U<|Xh M U ⟨?_, ?_,trivial⟩
   .refine D.call (ni _ _ r.f x.m_ om_) U (.inr dc_) U6 (SQ _) fl_ λN O Q _ s=>Ws (bkT F 1) U8<|WP [dH r.b] U12 (λS T _ t=>?_);obtain⟨V,W,cc,rfl,rfl⟩:=s;refine W0 (j:=0) U11 t.m_ (by simp[dH,kS,ag]) ay (by simp only[SN];omega) fl_ λg X k=>C6 1 [0,8,9,10,20,21,22] c U<|G.freezeArr 0 ((r.f++[r.b]).map dH) rfl am (by intro r e;obtain⟨y,_,rfl⟩:=SL.1 e;rfl) am (λY Z d=>?_);let⟨Az,cz,u,_⟩:=id d;cases u
    simp only[ar]at d⊢;exact G.dropAll<|WJ 0 mup (hn_ [0,8,9,10,20,21,22] U) ⟨_,_,d,U,U⟩
   refine Ws (bkT F 1) U8<|Xh M U ⟨?_, ?_,trivial⟩
   .refine D.call (ni _ _ r.f x.m_ om_) U (.inr dc_) U6 (SQ _) fl_ λN O Q _ s=>WP [dH r.b] U12 (λS T _ t=>?_);obtain⟨V,W,cc,rfl,rfl⟩:=s;refine W0 (j:=0) U11 t.m_ (by simp[dH,kS,ag]) ay (by simp only[SN];omega) fl_ λg X k=>C6 1 [0,8,9,10,20,21,22] c U<|G.freezeArr 0 ((r.f++[r.b]).map dH) rfl am (by intro r e;obtain⟨y,_,rfl⟩:=SL.1 e;rfl) am (λY Z d=>?_);let⟨Az,cz,u,_⟩:=id d;cases u
    simp only[ar]at d⊢;exact G.dropAll<|WJ 0 mup (hn_ [0,8,9,10,20,21,22] U) ⟨_,_,d,U,U⟩
   refine WP [dH r.b] U12 λS T _ t=>D.call (ni _ _ r.f x.m_ om_) U (.inr dc_) U6 (SQ _) fl_ (λN O Q _ s=>?_);obtain⟨V,W,cc,rfl,rfl⟩:=s;refine W0 (j:=0) U11 t.m_ (by simp[dH,kS,ag]) ay (by simp only[SN];omega) fl_ λg X k=>C6 1 [0,8,9,10,20,21,22] c U<|G.freezeArr 0 ((r.f++[r.b]).map dH) rfl am (by intro r e;obtain⟨y,_,rfl⟩:=SL.1 e;rfl) am (λY Z d=>?_);let⟨Az,cz,u,_⟩:=id d;cases u
   simp only[ar]at d⊢;exact G.dropAll<|WJ 0 mup (hn_ [0,8,9,10,20,21,22] U) ⟨_,_,d,U,U⟩
  obtain⟨g,k,ai,rfl,rfl⟩:=p;refine G.loop (λfr B n o=>∃(j:Nat),(j<=(r.f++[r.b]).length)/\fr=[(0,[],.slice l a.length c0),(8,[],.slice l a.length c0),(9,[],i_ a.length),(10,[],i_ i),(20,[],.slice g (r.f++[r.b]).length k),(21,[],i_ (r.f++[r.b]).length),(22,[],i_ j)]/\n=[]/\o=(r.f++[r.b]).length-j) (hn_ [0,8,9,10,20,21,22] U) ⟨0,SM _,U,U,U⟩ (λfr aC aD m _ p=>?_);obtain⟨j,hj,rfl,rfl,rfl⟩:=p;refine U0 1 [0,8,9,10,20,21,22,23] U<|G.cd (λaa=>?_) λaa=>?_
  .have ak:j<(r.f++[r.b]).length:=by
    have:=aT aa;omega
   let⟨q,hq⟩:∃q,(r.f++[r.b])[j]?=some q:=⟨(r.f++[r.b])[j],aj ak⟩;have ab:QB 22 q:=by
    rcases SZ.1 (aK hq) with h|h
    .exact ae q h
    rw[S6.1 h];exact af
   refine Wu λR c=>WG ai.m_ U10 om_ (cM hq) fl_ λaE al=>Ws al U8<|C6 1 [0,7,8,9,10,20,21,22] c U<|U1 1 U λR c=>WD (dD _ hT.m_ _ (uT ab)) U7<|C6 1 [0,8,9,10,20,21,22,28] c U<|G.cd (λH=>?_) λH=>?_
   .exfalso;rw[zh ab]at H;exact absurd H dc_
   refine Wu λR c=>Wz _ U U6<|C6 1 [0,8,9,10,20,21,22] c U<|WF (m':=(r.f++[r.b]).length-(j+1)) om_ mup (hn_ [0,8,9,10,20,21,22] U) ⟨j+1,om_,U,U,U⟩
  refine Wu λR c=>Wz _ U U6<|C6 1 [0,8,9,10] c U<|WF (m':=a.length-(i+1)) om_ mup (hn_ [0,8,9,10] U) ⟨i+1,om_,U,U,U⟩
 refine U0 3 [2,3] U<|WE (zD U3 ?_);exact⟨U,U⟩
def ir (s p k:Nat)(fm:List (Nat × Rat))(b sg:Rat):RowQ:=⟨KJ s p k fm sg,sg*b⟩
theorem jN (C:Mem)(O:Tabs C)(s p d b g v:Nat)(c:List (Nat × Rat))(e:Rat)(a:List Rat)(I w:Value)(n:List Value)(f:List RowQ)(ak:s*p<=60)(Q:d<s)(S:C v=some (.cells ⟨[i_ (s:Nat),i_ (p:Nat)]⟩ 196 (0,0)))(T:C b=some (bh keyZ.enc (jI c)))(V:(c.map (·.1)).Nodup)(W:∀x∈c,x.1<p)(X:∀x∈c,QB 23 x.2)(Y:QB 23 e)
  (y:Sl C 1 I (a.map dH)) (Z:∀q∈a,QB 1 q) (al:a.length<=2) (aa:RowsOk C n f) (an:f.length<=10000) :
  Jog.Fn cx.P 245 [i_ d,.map (some b),ag (qtx e),I,p_ g,p_ v] C [.obj g (.cells ⟨[w]⟩ 47 (0,0)),.arr w 140 2 f.length (aB n f).flatten]
   λu z k=>∃J w',u=.tuple #[]/\k=[.obj g (.cells ⟨[w']⟩ 47 (0,0)),.arr w' 140 2 (f++a.map (ir s p d c e)).length (aB J (f++a.map (ir s p d c e))).flatten]/\RowsOk z J (f++a.map (ir s p d c e)):=by
 obtain⟨A0,c0,rfl,ab,ao,_⟩:=id y;have ap:=mx_
 simp only[ar]at y ab⊢;refine Wy func245 28 U3 λw0=>U0 3 [0,1,2,4,5,12,13,14] U<|WK (L':=[.obj g (.cells ⟨[w]⟩ 47 (0,0)),.arr w 140 2 (f++(a.take 0).map (ir s p d c e)).length (aB n (f++(a.take 0).map (ir s p d c e))).flatten]) am<|G.loop (λfr z k μ=>∃(i:Nat)(h:List Value)(o:Value),(i<=a.length/\RowsOk z h (f++(a.take i).map (ir s p d c e)))/\fr=[(0,[],i_ d),(1,[],.map (some b)),(2,[],ag (qtx e)),(4,[],p_ g),(5,[],p_ v),(12,[],.slice A0 a.length c0),(13,[],i_ a.length),(14,[],i_ i)]/\k=[.obj g (.cells ⟨[o]⟩ 47 (0,0)),.arr o 140 2 (f++(a.take i).map (ir s p d c e)).length (aB h (f++(a.take i).map (ir s p d c e))).flatten]/\μ=a.length-i) (hn_ [0,1,2,4,5,12,13,14] U) ⟨0,n,w,⟨SM _,by simpa using aa⟩,U,U,U⟩ (λfr aq au m _ hI=>?_);obtain⟨i,h,o,⟨hi,t⟩,rfl,rfl,rfl⟩:=hI;refine U0 1 [0,1,2,4,5,12,13,14,15] U<|G.cd (λA=>?_) λA=>?_
 .have B:i<a.length:=by simpa using A
  let⟨sg,D⟩:∃sg,a[i]?=some sg:=⟨a[i],aj B⟩;have ac:=Z sg (aK D);have av:(f++(a.take i).map (ir s p d c e)).length<=10002:=by
   rw[SP,ar,S2];omega
  have K:f++(a.take (i+1)).map (ir s p d c e)=f++(a.take i).map (ir s p d c e)++[ir s p d c e sg]:=by
   rw[S9,D];simp
  refine Wu λR l=>WG y.m_ U10 om_ (cM D) fl_ λaw ad=>Ws ad U8<|C6 1 [0,1,2,4,5,11,12,13,14] l U<|WM [0,1,2,3,4,5,6,7,8,9] [] U kr_ λR hB l=>WA ah U9<|Ws (bkT S 2) U8<|Wv 4 U<|WT (QW _ O.m_ s p d b c sg e 23 dc_ dc_ om_ Q (Mem.get T mup) V W X (ac.le dc_) Y) U7 fl_ (λax _ _ ae=>?_);obtain⟨fv,rfl,E⟩:=ae;obtain⟨F,H,rfl,_⟩:=id E;simp only[ar]at E⊢;refine WP [[.slice F (KJ s p d c sg).length H,ag (qtx (sg*e))]] U12 λaz _ _ af=>W0 (j:=1) U11 af.m_ U ay (by simp only[SN];omega) fl_ λL M N=>WB (j:=1) U12<|Ww [0,1,2,4,5,12,13,14] l U<|Wu λR l=>Wz _ U U6<|C6 1 [0,1,2,4,5,12,13,14] l U ?_;have ai:=RowsOk.snoc (r:=ir s p d c e sg) t.m_ E;refine WK (L':=[.obj g (.cells ⟨[.slice L M N]⟩ 47 (0,0)),.arr (.slice L M N) 140 2 (f++(a.take (i+1)).map (ir s p d c e)).length (aB (h++[.slice F (KJ s p d c sg).length H]) (f++(a.take (i+1)).map (ir s p d c e))).flatten]) (by rw[K,cm t.1];simp[ir,aC];omega)<|WF (m':=a.length-(i+1)) om_ mup (hn_ [0,1,2,4,5,12,13,14] U) ⟨i+1,h++[.slice F (KJ s p d c sg).length H],_,⟨by omega,by rw[K];exact ai.mono mup⟩,U,U,U⟩
 have B:i=a.length:=by
  have:¬ i<a.length:=by simpa using A
  omega
 rw[B,SU]at t⊢;exact XD U<|⟨h,o,U,U,t.mono mup⟩
noncomputable def rN (o:Obs):Rat:=-dx o.nx / dx o.nz
noncomputable def jz (o:Obs):Rat:=-dx o.ny / dx o.nz
def upN (B:Bk)(o:Obs):Nat:=(ic (isU o.upper) B.col 0).toNat
noncomputable def rowsO (B:Bk)(o:Obs)(p:Pt)(t:Tri)(z:Rat):List RowQ :=
 if o.kind=1 then (if 0<upN B o then [ir (bs B) (bp B) (upN B o-1) (atT t (wgt B.pts t p)) (lM o z) 1] else [])++(if upN B o<bs B then [ir (bs B) (bp B) (upN B o) (atT t (wgt B.pts t p)) (lM o z) (-1)] else [])
 else if o.kind=2 then (cT B.col o).flatMap λk=>[1, -1].map (ir (bs B) (bp B) k (atT t (wgt B.pts t p)) (lM o z))
 else (cT B.col o).flatMap λk=>[1, -1].map (ir (bs B) (bp B) k (atT t λj=>(slf B.pts t j).1) (rN o))++[1, -1].map (ir (bs B) (bp B) k (atT t λj=>(slf B.pts t j).2) (jz o))
structure Fine (B:Bk)(fs:List Rat)(o:Obs)(p:Pt)(ti:Nat)(t:Tri)(z:Rat):Prop where
 place:ObsAt o p
 loc:∃r,lu B.pts B.tris p=ti::r
 tri:B.tris[ti]?=some t
 val:F7 B.pts B.tris fs p=.tuple #[ag (qtx z),.int .i64 0]
 qz:QB 22 z
 qh:QB 22 (lM o z)
 w:∀j,QB 22 (wgt B.pts t p j)
 up:0<=ic (isU o.upper) B.col 0
 sl:∀j,QP 22 (slf B.pts t j)
 nr:o.kind≠1->o.kind≠2->(aS o.nx=true/\aS o.ny=true/\aS o.nz=true)/\QB 11 (dx o.nx)/\QB 11 (dx o.ny)/\QB 11 (dx o.nz)/\dx o.nz≠0
 rows:∀r∈rowsO B o p t z,Qh r
theorem QK (h:Sl C 1 v [[ag [49]]]):Sl C 1 v (([1]:List Rat).map dH):=by rw[<- fT]at h;exact h
theorem QL (h:Sl C 1 v [[ag [45,49]]]):Sl C 1 v (([-1]:List Rat).map dH):=by rw[<- fe]at h;exact h
theorem GZ (h:Sl C 1 v [[ag [49]],[ag [45,49]]]):Sl C 1 v (([1, -1]:List Rat).map dH):=by rw[<- fe,<- fT]at h;exact h
theorem QE:∀q∈([1]:List Rat),QB 1 q:=by simp;exact QB_one
theorem QF:∀q∈([-1]:List Rat),QB 1 q:=by simp;exact nU
theorem ta:∀q∈([1, -1]:List Rat),QB 1 q:=by
 intro q a;simp only[SY,TQ,Vf]at a;rcases a with rfl|rfl
 .exact QB_one
 exact nU
theorem gN {P:Nat × Rat->Prop}(b:P (t.1,f 0))(c:P (t.2.1,f 1))(d:P (t.2.2,f 2)):∀x∈atT t f,P x:=by
 intro x a;simp only[atT,SY,TQ,Vf]at a;rcases a with rfl|rfl|rfl <;> assumption
theorem Ki {a b:Int}(h:k∈xj a b n):k<n:=by
 unfold xj at h;rw[Uf,S7]at h;exact h.1
theorem jG {a:Type}(f:α->List a){l:List α}{x:α}(h:l[j]?=some x):(l.take (j+1)).flatMap f=(l.take j).flatMap f++f x:=by
 rw[S9,h,List.flatMap_append];simp
theorem gd {a b:Type}{f:a->List b}{c:Nat}(h:∀x,(f x).length=c):∀l:List a,(l.flatMap f).length=c*l.length
|[]=>by simp
|x::l=>by rw[List.flatMap_cons,SP,h,gd h l,S5,Nat.mul_succ,UT]
theorem CQ :∀r∈rowsO B o p t z,r.f.length=bs B*bp B:=by
 have a:∀k d b sg,(ir (bs B) (bp B) k d b sg).f.length=bs B*bp B:=λk d b sg=>jZ _ _;intro r hr;unfold rowsO at hr;split at hr
 .rcases SZ.1 hr with h|h
  .split at h
   .rw[S6.1 h];exact a _ _ _ _
   cases h
  split at h
  .rw[S6.1 h];exact a _ _ _ _
  cases h
 split at hr
 .let⟨k,_,c⟩:=List.mem_flatMap.1 hr;obtain⟨sg,_,rfl⟩:=SL.1 c;exact a _ _ _ _
 let⟨k,_,c⟩:=List.mem_flatMap.1 hr;rcases SZ.1 c with h|h
 .obtain⟨sg,_,rfl⟩:=SL.1 h;exact a _ _ _ _
 obtain⟨sg,_,rfl⟩:=SL.1 h;exact a _ _ _ _
theorem xE (h:(cT B.col o).length<=60):(rowsO B o p t z).length<=240:=by
 unfold rowsO;split
 .rw[SP];have h1:∀(c:Prop)[Decidable c] (r:RowQ),(if c then [r] else []).length<=1:=λc _ r=>by split <;> simp
  have:=h1 (0<upN B o) (ir (bs B) (bp B) (upN B o-1) (atT t (wgt B.pts t p)) (lM o z) 1);have:=h1 (upN B o<bs B) (ir (bs B) (bp B) (upN B o) (atT t (wgt B.pts t p)) (lM o z) (-1));omega
 split
 .rw[gd (c:=2) (λk=>by simp)];omega
 rw[gd (c:=4) (λk=>by simp)];omega
abbrev zaf:=λc w=>Ent.obj c (.cells ⟨[w]⟩ 47 (0,0))
theorem Ol (C:Mem)(d:Tabs C)(bv:Value)(B:Bk)(fs:List Rat)(i:Nat)(o:Obs)(p:Pt)(ti:Nat)(t:Tri)(z:Rat)(M:BookIn C bv B)(S:Good B.pts B.tris)(am:BookR B)(aN:iX B=0)(hF:Terr B fs)(W:B.obs[i]?=some o)(b:Fine B fs o p ti t z)(T:bs B*bp B<=60)(a6:sN B.col=0)(bU:bs B+1=B.col.length)(bV:B.col.length<=60) :
  Pur cx.P 183 [gu (bs B) (bp B),bv,i_ i] C λu D=>∃v,u=.tuple #[v,i_ 0]/\RowsIn D v (rowsO B o p t z):=by
 have an:=M;have hM:=S.ok;let⟨r,a7⟩:=b.loc;have aO:=aK b.tri;have l:=hM.ins t aO;have ao:=uF hM aO;have bW:=(R0.1 W).1;have X:=b.place;let⟨u,Y⟩:∃u:Nat,ic (isU o.upper) B.col 0=(u:Nat):=⟨_,(Int.toNat_of_nonneg b.up).symm⟩;have a8:upN B o=u:=by unfold upN;rw[Y];rfl
 have bX:u<B.col.length:=by
  rcases ib (isU o.upper) B.col with⟨h,_⟩|⟨k,x,h,h2,_⟩
  .rw[Y]at h;omega
  have:=(R0.1 h2).1;rw[Y]at h;omega
 have ap:=sa (wgt B.pts t p) ao;have aq:∀x∈atT t (wgt B.pts t p),x.1<bp B:=gN (P:=λx=>x.1<bp B) l.1 l.2.1 l.2.2;have au:∀x∈atT t (wgt B.pts t p),QB 23 x.2:=gN (P:=λx=>QB 23 x.2) ((b.w 0).le dc_) ((b.w 1).le dc_) ((b.w 2).le dc_);have av:QB 23 (lM o z):=b.qh.le dc_;have a9:(cT B.col o).length<=bs B:=by
  unfold cT xj;refine SV (Ul _ _) ?_;rw[TO];unfold bs;omega
 have aP:∀k∈cT B.col o,k<bs B:=λk hk=>Ki hk;obtain⟨v1,v2,tv,cv,ov,rfl,h1,h2,h3,h4,h5⟩:=id M.ex;have aQ:MeshIn C (.agg ⟨[v1,v2]⟩) B.pts B.tris:=⟨v1,v2,rfl,h1,h2⟩;obtain⟨A5,c5,rfl,ba,bY,_⟩:=id h5;have bZ:=mx_
 simp only[ar]at h5 ba an⊢;refine Wy func183 172 U3 λw0=>Wu λR a=>WH U6 λn=>WH U6 λb4=>C6 2 [2,3,4] a U<|G.freeze 1 U λ_ _ N=>G.freeze 0 U λ_ _ O=>U1 1 U λR a=>Ws (bkT O 1) U8<|Wt U6<|WG h5.m_ U10 om_ (cM W) fl_ λb0 bb=>Ws bb U8<|WI U5 λb8=>WB (j:=0) U12<|Ww [2,3,4,8] a U<|G.freeze 0 U λC8 _ E=>U1 1 U λR a=>Ws (bkT O 2) U8<|Wt U6<|Ws (bkT E 2) U8<|WT (by have h:=FM C8 d.m_ _ B.pts B.tris p ti r t aQ.m_ S X.q X.r a7 b.tri b.w;rw[<- yq X]at h;exact h) U7 fl_ (λb1 _ _ bc=>?_);obtain⟨V,rfl,aw⟩:=bc;refine C6 7 [2,3,4,8,9,10,11] a U<|U0 2 [2,3,4,8,9,10,11,45] U<|G.cd (λaR=>?_) λaR=>?_
 .exact absurd aR dc_
 refine Wu λR a=>Ws (bkT O 5) U8<|Wt U6<|WD (Fq _ d.m_ _ B fs i o p z an.m_ S am aN hF W X b.val b.qz b.qh) U7<|C6 5 [2,3,4,8,9,10,11,12] a U<|U0 2 [2,3,4,8,9,10,11,12,54] U<|G.cd (λaS=>?_) λaS=>?_
 .exact absurd aS dc_
 refine Wu λR a=>Ws (bkT O 5) U8<|Wt U6<|WY (xh _ d.m_ _ B i o an.m_ S am aN W) U7 (λb2 _ _ bd=>?_);obtain⟨lv,rfl,ax⟩:=bd;let⟨Al,cl,aU,_⟩:=id ax;rw[ar]at aU;subst aU;refine C6 5 [3,4,8,9,10,11,12,13] a U<|U0 2 [3,4,8,9,10,11,12,13,63] U<|G.cd (λaW=>?_) λaW=>?_
 .exact absurd aW dc_
 refine Wu λR a=>WI U5 λc=>Ww [3,4,8,9,10,12,13,14] a U<|G.nilArr 140 2 (G.perm (L':=[.obj c (.cells ⟨[.slice none 0 0]⟩ 47 (0,0)),.arr (.slice none 0 0) 140 2 0 []]) (List.Perm.swap _ _ _) ?_);refine U0 2 [3,4,8,9,10,12,13,14,15] U<|U1 1 U λR a=>Ws (bkT E 1) U8<|Ww [3,4,8,9,10,12,13,14,15,67] a U<|U0 2 [3,4,8,9,10,12,13,14,15,67,120] U<|G.cut (λfr F y H=>∃(vs:List Value)(w:Value),(RowsOk F vs (rowsO B o p t z))/\fr=[(14,[],p_ c)]/\y=[zaf c w,.arr w 140 2 (rowsO B o p t z).length (aB vs (rowsO B o p t z)).flatten]) ?_ (λfr _ b5 H _ I=>?_)
 .refine G.cd (λZ=>?_) λZ=>?_
  .have hk:o.kind=1:=ef Z;let⟨s,Q⟩:∃s,(if 0<u then [ir (bs B) (bp B) (u-1) (atT t (wgt B.pts t p)) (lM o z) 1] else [])=s:=⟨_,rfl⟩;have A:rowsO B o p t z=s++(if u<bs B then [ir (bs B) (bp B) u (atT t (wgt B.pts t p)) (lM o z) (-1)] else []):=by unfold rowsO;rw[aL hk,a8,Q]
   refine U1 1 U λR a=>Ws (bkT O 1) U8<|Wt U6<|Ws (bkT E 1) U8<|WD (Br _ d.m_ _ B.col o.upper h4.m_ am.col a6 u Y) U7<|C6 7 [3,9,12,14,15,16,18] a U<|U0 2 [3,9,12,14,15,16,18,132] U<|G.cd (λaX=>?_) λaX=>?_
   .exact absurd aX dc_
   refine U0 2 [3,9,12,14,15,16,135] U<|G.cut (λfr F y H=>∃(vs:List Value)(w:Value),(RowsOk F vs s)/\fr=[(3,[],p_ n),(9,[],.map (some V)),(12,[],ag (qtx (lM o z))),(14,[],p_ c),(15,[],.func (.func 245) #[] #[p_ c,p_ n]),(16,[],i_ u)]/\y=[zaf c w,.arr w 140 2 s.length (aB vs s).flatten]) ?_ (λfr _ b6 H _ I=>?_)
   .refine G.cd (λay=>?_) λay=>?_
    .have az:0<u:=by
      have:=aT ay;omega
     rw[aL az]at Q;subst Q;refine WQ [(6,3)] U λR a=>Wv 2 U<|WW (((u-1:Nat):Int)) U4 om_ om_ om_ U2<|Wv 2 U<|WP [[ag [49]]] U12 λb7 _ _ bf=>D.call (jN _ d.m_ (bs B) (bp B) (u-1) V c n (atT t (wgt B.pts t p)) (lM o z) [1] _ (.slice none 0 0) [] [] T om_ (Mem.get N mup) (Mem.get aw mup) ap aq au av ((QK bf).mono mup) QE dc_ (RowsOk.nil _) dc_) U (.inr dc_) U6 (SQ _) fl_ λb9 _ ca _ bg=>Ww [3,9,12,14,15,16] a U ?_;clear a R;obtain⟨bh,w1,rfl,rfl,bi⟩:=bg;refine WJ 0 mup (hn_ [3,9,12,14,15,16] U) ⟨bh,w1,bi,U,U⟩
    have az:¬ 0<u:=by
     have:=SJ ay;omega
    rw[aF az]at Q;subst Q;refine WJ 0 l_ (hn_ [3,9,12,14,15,16] U) ⟨[],.slice none 0 0,RowsOk.nil _,U,U⟩
   obtain⟨vs ,w,aA,rfl,rfl⟩:=I;refine U1 2 U λR a=>Ws (bkT N 1) U8<|C6 1 [9,12,14,15,16,146] a U<|G.cd (λaC=>?_) λaC=>?_
   .have aa:u<bs B:=by
     have:=aT aC;omega
    rw[aL aa]at A;have cb:s.length<=1:=by rw[<- Q];split <;> simp
    refine WQ [(5,3)] U λR a=>Wv 4 U<|WP [[ag [45,49]]] U12 λcc _ _ bj=>D.call (jN _ d.m_ (bs B) (bp B) u V c n (atT t (wgt B.pts t p)) (lM o z) [-1] _ w vs s T aa (Mem.get N mup) (Mem.get aw mup) ap aq au av ((QL bj).mono mup) QF dc_ aA.m_ om_) U (.inr dc_) U6 (SQ _) fl_ λce _ cf _ bk=>Ww [14] a U ?_;clear a R;obtain⟨bl,w2,rfl,rfl,aY⟩:=bk;rw[show s++([-1]:List Rat).map (ir (bs B) (bp B) u (atT t (wgt B.pts t p)) (lM o z))=rowsO B o p t z from A.symm]at aY⊢;refine WJ 0 mup (hn_ [14] U) ⟨bl,w2,aY,U,U⟩
   have aa:¬ u<bs B:=by
    have:=SJ aC;omega
   rw[aF aa,S8]at A;rw[<- A]at aA⊢;refine WJ 0 mup (hn_ [14] U) ⟨vs,w,aA.mono mup,U,U⟩
  have aD:¬ o.kind=1:=by
   intro e;rw[show((o.kind == 1)=true) by rw[e];rfl]at Z;cases Z
  refine U0 2 [4,8,9,10,12,13,14,15,153] U<|G.cd (λab=>?_) λab=>?_
  .have ac:o.kind=2:=ef ab;let⟨f,aE⟩:∃f,(λk=>([1, -1]:List Rat).map (ir (bs B) (bp B) k (atT t (wgt B.pts t p)) (lM o z)))=f:=⟨_,rfl⟩;have A:rowsO B o p t z=(cT B.col o).flatMap f:=by unfold rowsO;rw[aF aD,aL ac,<- aE]
   have bm:∀k,(f k).length=2:=λk=>by rw[<- aE];rfl
   refine U0 3 [9,12,14,15,155,156,157] U<|G.loop (λfr F y H=>∃(j:Nat)(vs:List Value)(w:Value),(j<=(cT B.col o).length/\RowsOk F vs (((cT B.col o).take j).flatMap f))/\fr=[(9,[],.map (some V)),(12,[],ag (qtx (lM o z))),(14,[],p_ c),(15,[],.func (.func 245) #[] #[p_ c,p_ n]),(155,[],.slice Al (cT B.col o).length cl),(156,[],i_ (cT B.col o).length),(157,[],i_ j)]/\y=[zaf c w,.arr w 140 2 (((cT B.col o).take j).flatMap f).length (aB vs (((cT B.col o).take j).flatMap f)).flatten]/\H=(cT B.col o).length-j) (hn_ [9,12,14,15,155,156,157] U) ⟨0,[],.slice none 0 0,⟨SM _,RowsOk.nil _⟩,U,U,U⟩ (λfr cg ch m _ I=>?_);obtain⟨j,vs,w,⟨hj,J⟩,rfl,rfl,rfl⟩:=I;refine U0 1 [9,12,14,15,155,156,157,158] U<|G.cd (λaG=>?_) λaG=>?_
   .have K:j<(cT B.col o).length:=by
     have:=aT aG;omega
    let⟨k,L⟩:∃k,(cT B.col o)[j]?=some k:=⟨(cT B.col o)[j],aj K⟩;have ad:=aP k (aK L);have ae:=gd bm ((cT B.col o).take j);rw[S2]at ae;have aH:=jG f L;refine Wu λR a=>WG ax.m_ U10 om_ (cM L) fl_ λci bo=>Ws bo U8<|C6 1 [9,12,14,15,20,155,156,157] a U<|WQ [(5,3)] U λR a=>Wv 4 U<|WP [[ag [49]],[ag [45,49]]] U12 λcj _ _ bq=>D.call (jN _ d.m_ (bs B) (bp B) k V c n (atT t (wgt B.pts t p)) (lM o z) [1, -1] _ w vs _ T ad (Mem.get N mup) (Mem.get aw mup) ap aq au av ((GZ bq).mono mup) ta dc_ J.m_ om_) U (.inr dc_) U6 (SQ _) fl_ λck _ cm _ br=>Ww [9,12,14,15,155,156,157] a U<|Wu λR a=>Wz _ U U6<|C6 1 [9,12,14,15,155,156,157] a U ?_;clear a R;obtain⟨aI,w3,rfl,rfl,af⟩:=br;rw[show((cT B.col o).take j).flatMap f++([1, -1]:List Rat).map (ir (bs B) (bp B) k (atT t (wgt B.pts t p)) (lM o z))=((cT B.col o).take (j+1)).flatMap f by rw[aH,<- aE]]at af⊢;refine WF (m':=(cT B.col o).length-(j+1)) om_ mup (hn_ [9,12,14,15,155,156,157] U) ⟨j+1,aI,w3,⟨by omega,af⟩,U,U,U⟩
   have K:j=(cT B.col o).length:=by
    have:=SJ aG;omega
   rw[K,SU,<- A]at J⊢;refine WJ 0 mup (hn_ [14] U) ⟨vs,w,J.mono mup,U,U⟩
  have ac:¬ o.kind=2:=by
   intro e;rw[show((o.kind == 2)=true) by rw[e];rfl]at ab;cases ab
  let⟨⟨bt,bu,bx⟩,aZ,a0,ai,ak⟩:=b.nr aD ac;let⟨e1,q1⟩:=dF bt;let⟨e2,q2⟩:=dF bu;let⟨e3,q3⟩:=dF bx;have a1:(qtx (dx o.nx)).length<=1000000:=SV (aV q1 dc_) dc_;have bz:(qtx (dx o.ny)).length<=1000000:=SV (aV q2 dc_) dc_;have bA:QB 23 (rN o):=(jP (eQ aZ) ai ak).le dc_;have bB:QB 23 (jz o):=(jP (eQ a0) ai ak).le dc_;let⟨g,aJ⟩:∃g,(λk=>([1, -1]:List Rat).map (ir (bs B) (bp B) k (atT t λj=>(slf B.pts t j).1) (rN o))++([1, -1]:List Rat).map (ir (bs B) (bp B) k (atT t λj=>(slf B.pts t j).2) (jz o)))=g:=⟨_,rfl⟩;have A:rowsO B o p t z=(cT B.col o).flatMap g:=by unfold rowsO;rw[aF aD,aF ac,<- aJ]
  have bC:∀k,(g k).length=4:=λk=>by rw[<- aJ];rfl
  have bD:=sa (λj=>(slf B.pts t j).1) ao;have bE:=sa (λj=>(slf B.pts t j).2) ao;have bF:∀x∈atT t (λj=>(slf B.pts t j).1),x.1<bp B:=gN (P:=λx=>x.1<bp B) l.1 l.2.1 l.2.2;have bG:∀x∈atT t (λj=>(slf B.pts t j).2),x.1<bp B:=gN (P:=λx=>x.1<bp B) l.1 l.2.1 l.2.2;have bH:∀x∈atT t (λj=>(slf B.pts t j).1),QB 23 x.2:=gN (P:=λx=>QB 23 x.2) ((b.sl 0).1.le dc_) ((b.sl 1).1.le dc_) ((b.sl 2).1.le dc_);have bJ:∀x∈atT t (λj=>(slf B.pts t j).2),QB 23 x.2:=gN (P:=λx=>QB 23 x.2) ((b.sl 0).2.le dc_) ((b.sl 1).2.le dc_) ((b.sl 2).2.le dc_);refine U1 1 U λR a=>Ws (bkT O 2) U8<|Wt U6<|WY (FI _ d.m_ _ B.pts B.tris ti t aQ.m_ S b.tri b.sl) U7 (λcn al _ bK=>?_);obtain⟨be,bn,rfl,bL,bM⟩:=bK;refine C6 7 [8,13,14,15,21,22,23] a U<|U0 2 [8,13,14,15,21,22,23,77] U<|G.cd (λa2=>?_) λa2=>?_
  .exact absurd a2 dc_
  refine WM [0,1,2,3,4,5,6,7,8,9,10,11,12] [(3,1),(7,1)] U kr_ λR M a=>Wv 2 U<|Ws (bkT E 1) U8<|WN (λ_=>(by have h:=fu al (dx o.nx) a1;rw[<- e1]at h;exact h)) U9<|Wv 2 U<|Ws (bkT E 1) U8<|WN (λ_=>(by have h:=iv al d.m_ (-dx o.nx) (dx o.nz) 11 dc_ dc_ (eQ aZ) ai ak;rw[<- e3]at h;exact h)) U9<|Wv 5 U<|Ww [8,13,14,15,21,22,24] a U<|WM [0,1,2,3,4,5,6,7,8,9,10,11,12] [(3,1),(7,1)] U kr_ λR M a=>Wv 2 U<|Ws (bkT E 1) U8<|WN (λ_=>(by have h:=fu al (dx o.ny) bz;rw[<- e2]at h;exact h)) U9<|Wv 2 U<|Ws (bkT E 1) U8<|WN (λ_=>(by have h:=iv al d.m_ (-dx o.ny) (dx o.nz) 11 dc_ dc_ (eQ a0) ai ak;rw[<- e3]at h;exact h)) U9<|Wv 5 U<|Ww [13,14,15,21,22,24,26] a U<|U0 3 [14,15,21,22,24,26,101,102,103] U<|G.loop (λfr F y H=>∃(j:Nat)(vs:List Value)(w:Value),(j<=(cT B.col o).length/\RowsOk F vs (((cT B.col o).take j).flatMap g))/\fr=[(14,[],p_ c),(15,[],.func (.func 245) #[] #[p_ c,p_ n]),(21,[],.map (some be)),(22,[],.map (some bn)),(24,[],ag (qtx (rN o))),(26,[],ag (qtx (jz o))),(101,[],.slice Al (cT B.col o).length cl),(102,[],i_ (cT B.col o).length),(103,[],i_ j)]/\y=[zaf c w,.arr w 140 2 (((cT B.col o).take j).flatMap g).length (aB vs (((cT B.col o).take j).flatMap g)).flatten]/\H=(cT B.col o).length-j) (hn_ [14,15,21,22,24,26,101,102,103] U) ⟨0,[],.slice none 0 0,⟨SM _,RowsOk.nil _⟩,U,U,U⟩ (λfr co cp m a1 I=>?_);obtain⟨j,vs,w,⟨hj,J⟩,rfl,rfl,rfl⟩:=I;refine U0 1 [14,15,21,22,24,26,101,102,103,104] U<|G.cd (λaM=>?_) λaM=>?_
  .have K:j<(cT B.col o).length:=by
    have:=aT aM;omega
   let⟨k,L⟩:∃k,(cT B.col o)[j]?=some k:=⟨(cT B.col o)[j],aj K⟩;have ad:=aP k (aK L);have ae:=gd bC ((cT B.col o).take j);rw[S2]at ae;have aH:=jG g L;refine Wu λR a=>WG ax.m_ U10 om_ (cM L) fl_ λcq bN=>Ws bN U8<|C6 1 [14,15,21,22,24,26,29,101,102,103] a U<|WQ [(5,3)] U λR a=>Wv 4 U<|WP [[ag [49]],[ag [45,49]]] U12 λcr _ _ bO=>D.call (jN _ d.m_ (bs B) (bp B) k be c n (atT t λj=>(slf B.pts t j).1) (rN o) [1, -1] _ w vs _ T ad (Mem.get N mup) (Mem.get bL mup) bD bF bH bA ((GZ bO).mono mup) ta dc_ J.m_ om_) U (.inr dc_) U6 (SQ _) fl_ λcs _ ct _ bP=>Ww [14,15,21,22,24,26,29,101,102,103] a U ?_;clear a R;obtain⟨aI,w3,rfl,rfl,af⟩:=bP;refine WQ [(5,3)] U λR a=>Wv 4 U<|WP [[ag [49]],[ag [45,49]]] U12 λcu _ _ bQ=>D.call (jN _ d.m_ (bs B) (bp B) k bn c n (atT t λj=>(slf B.pts t j).2) (jz o) [1, -1] _ w3 aI _ T ad (Mem.get N mup) (Mem.get bM mup) bE bG bJ bB ((GZ bQ).mono mup) ta dc_ af.m_ (by rw[SP,ae];simp;omega)) U (.inr dc_) U6 (SQ _) fl_ λcw _ cy _ bR=>Ww [14,15,21,22,24,26,101,102,103] a U<|Wu λR a=>Wz _ U U6<|C6 1 [14,15,21,22,24,26,101,102,103] a U ?_;clear a R;obtain⟨bS,w4,rfl,rfl,a3⟩:=bR;rw[show((cT B.col o).take j).flatMap g++([1, -1]:List Rat).map (ir (bs B) (bp B) k (atT t λj=>(slf B.pts t j).1) (rN o))++([1, -1]:List Rat).map (ir (bs B) (bp B) k (atT t λj=>(slf B.pts t j).2) (jz o))=((cT B.col o).take (j+1)).flatMap g by rw[aH,<- aJ,Tn]]at a3⊢;refine WF (m':=(cT B.col o).length-(j+1)) om_ mup (hn_ [14,15,21,22,24,26,101,102,103] U) ⟨j+1,bS,w4,⟨by omega,a3⟩,U,U,U⟩
  have K:j=(cT B.col o).length:=by
   have:=SJ aM;omega
  rw[K,SU,<- A]at J⊢;refine WJ 0 mup (hn_ [14] U) ⟨vs,w,J.mono mup,U,U⟩
 obtain⟨vs ,w,a4,rfl,rfl⟩:=I;refine G.freezeArr 1 (aB vs (rowsO B o p t z)) U U (cC _ _) (bI a4.1) (λCr cz bT=>?_);have a5:RowsIn Cr w (rowsO B o p t z):=⟨vs,a4.mono mup,bT⟩;refine Wu λR a=>WA ah U9<|WC (FP _ d.m_ w (rowsO B o p t z) a5.m_ b.rows (λr hr=>by rw[CQ r hr];omega) (SV (xE (by unfold bs at a9;omega)) dc_)) U7 fl_<|C6 4 [6,7] a U<|WE (zD U3 ?_);exact⟨U,w,U,a5.mono mup⟩
structure Rich (B:Bk)(fs:List Rat)(RO:Nat->List RowQ):Prop where
 good:Good B.pts B.tris
 br:BookR B
 bz:iX B=0
 terr:Terr B fs
 h60:bs B*bp B<=60
 fine:∀i o,B.obs[i]?=some o->∃p ti t z,Fine B fs o p ti t z/\RO i=rowsO B o p t z
theorem nl (h:iX B=0):sN B.col=0:=by
 unfold iX at h;split at h
 .rename_i h1;exact absurd h h1
 split at h
 .rename_i h1;exact absurd h h1
 rename_i h1;exact Ti h1
theorem wc {l:List Lay}(h:sN l=0):l≠[]/\l.length<=60:=by
 unfold sN at h;split at h
 .exact absurd h dc_
 rename_i h0;split at h
 .exact absurd h dc_
 exact⟨h0,by omega⟩
theorem Rich.bookz {a:Value}{d:Nat->List RowQ}(h:Rich B fs d)(e:Tabs C)(b:BookIn C a B):BookZ C a B 0 :=
 ⟨b,λD c=>by have h2:=rW D (e.mono c) a B (b.mono c) h.good h.br;rwa [h.bz]at h2,λ_=>(wc (nl h.bz)).1,SV (wc (nl h.bz)).2 dc_,h.good.ok.lp⟩
theorem Rich.scol {a:Nat->List RowQ}(h:Rich B fs a):bs B+1=B.col.length/\B.col.length<=60:=by
 let⟨h1,h2⟩:=wc (nl h.bz);have:=Tw.2 h1;unfold bs;omega
theorem Sj (C:Mem)(f:Tabs C)(b:Value)(B:Bk)(c:List Rat)(d:Nat->List RowQ)(i:Nat)(g:BookIn C b B)(a:Rich B c d)(j:i<B.obs.length) :
  Pur cx.P 183 [gu (bs B) (bp B),b,i_ i] C λu D=>∃v,u=.tuple #[v,i_ 0]/\RowsIn D v (d i):=by
 have e:B.obs[i]?=some B.obs[i]:=aj j;let⟨p,k,t,z,l,m⟩:=a.fine i _ e;have h:=Ol C f b B c i _ p k t z g a.good a.br a.bz a.terr e l a.h60 (nl a.bz) a.scol.1 a.scol.2
 rwa [<- m]at h
theorem qK {a:Nat->List RowQ}(b:Rich B fs a)(c:i<B.obs.length):(a i).length<=240/\∀r∈a i,r.f.length=bs B*bp B:=by
 have d:B.obs[i]?=some B.obs[i]:=aj c;let⟨p,h,t,z,j,e⟩:=b.fine i _ d;have g:(cT B.col B.obs[i]).length<=60:=by
  unfold cT xj;refine SV (Ul _ _) ?_;rw[TO];have:=b.scol.2;omega
 rw[e];exact⟨xE g,CQ⟩
def bM (B:Bk):List RowQ:=bR (bs B) (bp B) B.col (B.col.length-2)
theorem EC {b:Nat->List RowQ}(a:Rich B fs b):(bM B).length<=120:=by
 have h:=nJ (bs B) (bp B) B.col (B.col.length-2);have h1:=a.scol.1;have h2:(B.col.length-2)*bp B<=bs B*bp B:=To _ om_;have h3:=a.h60;unfold bM;omega
structure SrcQ where
 n:Int
 r:RowQ
def bZ (vs:List Value)(l:List SrcQ):List (List Value):=List.zipWith (λw (s:SrcQ)=>[.int .i64 s.n,w,ag (qtx s.r.b)]) vs l
def SrcsOk (C:Mem)(vs:List Value)(l:List SrcQ):Prop:=RowsOk C vs (l.map SrcQ.r)
def Ei (C:Mem)(v:Value)(l:List SrcQ):Prop:=∃vs,SrcsOk C vs l/\Sl C 3 v (bZ vs l)
theorem SrcsOk.mono {C D:Mem}{a:List Value}{l:List SrcQ}(h:SrcsOk C a l)(b:C.le D):SrcsOk D a l:=RowsOk.mono h b
theorem SrcsOk.m_ {D:Mem}{l:List SrcQ}(h:SrcsOk C vs l)(a:C.le D:=by exact mup):SrcsOk D vs l:=SrcsOk.mono h a
theorem SrcsOk.snoc {C:Mem}{a:List Value}{l:List SrcQ}{v:Value}{s:SrcQ}(h:SrcsOk C a l)(b:Sl C 1 v (s.r.f.map dH)):SrcsOk C (a++[v]) (l++[s]):=by
 unfold SrcsOk at h⊢;rw[Tm];exact RowsOk.snoc h b
theorem jV {l:List SrcQ}(h:SrcsOk C vs l):vs.length=l.length:=by have:=h.1;simpa using this
theorem lX {l:List SrcQ}(h:vs.length=l.length)(v:Value)(s:SrcQ):bZ (vs++[v]) (l++[s])=bZ vs l++[[i_ s.n,v,ag (qtx s.r.b)]]:=by
 unfold bZ;rw[List.zipWith_append h];rfl
theorem oD {l:List SrcQ}(h:vs.length=l.length):(bZ vs l).length=l.length:=by simp[bZ,h]
theorem sz (b:List Value)(l:List SrcQ):∀r∈bZ b l,r.length=3:=by
 intro r hr;unfold bZ at hr;let⟨i,a⟩:=Uh hr;rw[List.getElem?_zipWith]at a;cases h1:b[i]? <;> cases h2:l[i]? <;> rw[h1,h2]at a <;> simp at a
 subst a;rfl
def kX (n:Int)(l:List RowQ):List SrcQ:=l.map λr=>⟨n,r⟩
def bV (T:List RowQ)(RO:Nat->List RowQ)(l:List Nat):List SrcQ:=kX (-1) T++l.flatMap λi=>kX (i:Nat) (RO i)
theorem lW {n:Int}{l:List RowQ}{r:RowQ}(h:l[i]?=some r):kX n (l.take (i+1))=kX n (l.take i)++[⟨n,r⟩]:=by
 unfold kX;rw[S9,h,Tm];rfl
theorem zf {T:List RowQ}{RO:Nat->List RowQ}:∀{l:List Nat},(∀i∈l,(RO i).length<=240)->l.length<=100->T.length<=120->(bV T RO l).length<=120+240*l.length:=by
 intro l h e hT;unfold bV;rw[SP];have b:∀l:List Nat,(∀i∈l,(RO i).length<=240)->(l.flatMap λi=>kX (i:Nat) (RO i)).length<=240*l.length:=by
  intro l;induction l with
 |nil=>intro _;simp
 |cons a l c =>
   intro h;have h1:=h a SK;have h2:=c λi d=>h i (SX _ d);rw[List.flatMap_cons,SP,S5];have:(kX (a:Nat) (RO a)).length=(RO a).length:=by simp[kX]
   omega
 have h1:=b l h;have:(kX (-1) T).length=T.length:=by simp[kX]
 omega
theorem Jq (C:Mem)(hT:Tabs C)(bv lv:Value)(B:Bk)(fs:List Rat)(c:Nat->List RowQ)(l:List Nat)(hB:BookIn C bv B)(o:Rich B fs c)(M:Sl C 1 lv (l.map aX))(ad:∀i∈l,i<B.obs.length)(aP:l.length<=100)(aQ:(bV (bM B) c l).length<=300) :
  Pur cx.P 114 [gu (bs B) (bp B),bv,lv] C λu D=>∃v,u=.tuple #[v,i_ 0]/\Ei D v (bV (bM B) c l):=by
 have aw:=hB;have ax:=EC o;obtain⟨v1,v2,tv,cv,ov,rfl,h1,h2,h3,h4,h5⟩:=id hB.ex;obtain⟨N,O,rfl,az,aR,_⟩:=id M;have aS:=mx_
 simp only[ar]at M az⊢;have aA:=λm:List Nat=>λhm:∀i∈m,i<B.obs.length=>λaB:m.length<=100=>zf (T:=bM B) (RO:=c) (l:=m) (λi F=>(qK o (hm i F)).1) aB ax;refine Wy func114 66 U3 λw0=>Wu λR d=>WH U6 λQ=>WH U6 λS=>C6 2 [2,3,4] d U<|G.freeze 1 U λ_ _ ae=>G.freeze 0 U λ_ _ af=>U0 1 [2,3,4,8] U<|Wu λR d=>Ws (bkT ae 2) U8<|Wt U6<|Ws (bkT af 1) U8<|WY (xf _ hT.m_ _ (bs B) (bp B) B.col h4.m_ o.scol.1 o.h60 o.br.col) U7 (λaU _ _ aC=>?_);let⟨ai,V,H⟩:=aC;rw[show bR (bs B) (bp B) B.col (B.col.length-2)=bM B from rfl]at V H;have ak:=V.1;obtain⟨At,ct,rfl,aD,aV,_⟩:=id H;simp only[bI ak]at H aD⊢;refine C6 2 [2,3,4,8,20,21,22] d U<|G.nilArr 142 3<|G.loop (λfr x e y=>∃(i:Nat)(vs:List Value)(w:Value),(i<=(bM B).length/\SrcsOk x vs (kX (-1) ((bM B).take i)))/\fr=[(2,[],.slice N l.length O),(3,[],p_ Q),(4,[],p_ S),(8,[],w),(20,[],.slice At (bM B).length ct),(21,[],i_ (bM B).length),(22,[],i_ i)]/\e=[.arr w 142 3 (kX (-1) ((bM B).take i)).length (bZ vs (kX (-1) ((bM B).take i))).flatten]/\y=(bM B).length-i) (hn_ [2,3,4,8,20,21,22] U) ⟨0,[],_,⟨SM _,RowsOk.nil _⟩,U,U,U⟩ (λfr aW aY m _ z=>?_);obtain⟨i,vs,w,⟨F,I⟩,rfl,rfl,rfl⟩:=z;refine U0 1 [2,3,4,8,20,21,22,23] U<|G.cd (λW=>?_) λW=>?_
 .have J:i<(bM B).length:=by
   have:=aT W;omega
  let⟨r,g⟩:∃r,(bM B)[i]?=some r:=⟨(bM B)[i],aj J⟩;let⟨p,q⟩:∃p,ai[i]?=some p:=⟨ai[i]'(by rw[ak];exact J),aj _⟩;have t:=V.2 i p r q g;obtain⟨h,n,rfl,_⟩:=id t;simp only[ar]at t q;have aE:(kX (-1) ((bM B).take i)).length=i:=by simp[kX];omega
  refine Wu λR d=>WG H.m_ U10 om_ (iu q g) fl_ λaZ aF=>Ws aF U8<|WI U5 λa0=>WB (j:=0) U12<|Ww [2,3,4,8,10,20,21,22] d U<|U1 1 U λR d=>WA ah U9<|WL [i_ (-1),.slice h r.f.length n,ag (qtx r.b)] U8<|WP [[i_ (-1),.slice h r.f.length n,ag (qtx r.b)]] U12 λa1 _ _ aG=>D.append (j:=1) U11 aG U ay (by simp only[SN];omega) fl_ λal=>C6 1 [2,3,4,8,20,21,22] d U<|Wu λR d=>Wz _ U U6<|C6 1 [2,3,4,8,20,21,22] d U ?_;have A:=SrcsOk.snoc (s:=⟨-1,r⟩) I.m_ t.m_;rw[<- lW g]at A;refine Xb 1 U<|WK (L':=[.arr al 142 3 (kX (-1) ((bM B).take (i+1))).length (bZ (vs++[.slice h r.f.length n]) (kX (-1) ((bM B).take (i+1)))).flatten]) (by rw[lW g,lX (jV I)];simp)<|WF (m':=(bM B).length-(i+1)) om_ mup (hn_ [2,3,4,8,20,21,22] U) ⟨i+1,vs++[.slice h r.f.length n],al,⟨by omega,A.mono mup⟩,U,U,U⟩
 have J:i=(bM B).length:=by
  have:=SJ W;omega
 rw[J,SU]at I⊢;refine U0 3 [3,4,8,32,33,34] U<|WK (L':=[.arr w 142 3 (bV (bM B) c (l.take 0)).length (bZ vs (bV (bM B) c (l.take 0))).flatten]) (by simp[bV])<|G.loop (λfr x e y=>∃(j:Nat)(vs:List Value)(w:Value),(j<=l.length/\SrcsOk x vs (bV (bM B) c (l.take j)))/\fr=[(3,[],p_ Q),(4,[],p_ S),(8,[],w),(32,[],.slice N l.length O),(33,[],i_ l.length),(34,[],i_ j)]/\e=[.arr w 142 3 (bV (bM B) c (l.take j)).length (bZ vs (bV (bM B) c (l.take j))).flatten]/\y=l.length-j) (hn_ [3,4,8,32,33,34] U) ⟨0,vs,w,⟨SM _,by simpa [bV] using I⟩,U,U,U⟩ (λfr a2 a3 m _ z=>?_);obtain⟨j,vs,w,⟨hj,E⟩,rfl,rfl,rfl⟩:=z;refine U0 1 [3,4,8,32,33,34,35] U<|G.cd (λX=>?_) λX=>?_
 .have Y:j<l.length:=by
   have:=aT X;omega
  let⟨a,Z⟩:∃a,l[j]?=some a:=⟨l[j],aj Y⟩;have am:=ad a (aK Z);have aH:=aA (l.take j) (λi F=>ad i (TP F)) (by rw[S2];omega);rw[S2]at aH;have aI:bV (bM B) c (l.take (j+1))=bV (bM B) c (l.take j)++kX (a:Nat) (c a):=by
   unfold bV;rw[jG _ Z,Tn]
  have a4:=(qK o am).1;refine Wu λR d=>WG M.m_ U10 om_ (cM Z) fl_ λa5 aJ=>Ws aJ U8<|C6 1 [3,4,8,12,32,33,34] d U<|Wu λR d=>Ws (bkT ae 2) U8<|Ws (bkT af 5) U8<|Wt U6<|WY (Sj _ hT.m_ _ B fs c a aw.m_ o am) U7 (λa6 _ _ aL=>?_);obtain⟨rv,rfl,an,ao,aa⟩:=aL;have ap:=ao.1;obtain⟨Ar,cr,rfl,aM,a7,_⟩:=id aa;simp only[bI ap]at aa aM⊢;refine C6 5 [3,4,8,12,13,14,32,33,34] d U<|U0 2 [3,4,8,12,13,14,32,33,34,46] U<|G.cd (λaq=>?_) λaq=>?_
  .exact absurd aq dc_
  refine U0 3 [3,4,8,12,32,33,34,48,49,50] U<|WK (L':=[.arr w 142 3 (bV (bM B) c (l.take j)++kX (a:Nat) ((c a).take 0)).length (bZ vs (bV (bM B) c (l.take j)++kX (a:Nat) ((c a).take 0))).flatten]) (by simp[kX])<|G.loop (λfr x e y=>∃(k:Nat)(vs:List Value)(w:Value),(k<=(c a).length/\SrcsOk x vs (bV (bM B) c (l.take j)++kX (a:Nat) ((c a).take k)))/\fr=[(3,[],p_ Q),(4,[],p_ S),(8,[],w),(12,[],i_ a),(32,[],.slice N l.length O),(33,[],i_ l.length),(34,[],i_ j),(48,[],.slice Ar (c a).length cr),(49,[],i_ (c a).length),(50,[],i_ k)]/\e=[.arr w 142 3 (bV (bM B) c (l.take j)++kX (a:Nat) ((c a).take k)).length (bZ vs (bV (bM B) c (l.take j)++kX (a:Nat) ((c a).take k))).flatten]/\y=(c a).length-k) (hn_ [3,4,8,12,32,33,34,48,49,50] U) ⟨0,vs,w,⟨SM _,by rw[show kX (a:Nat) ((c a).take 0)=[] from U,S8];exact E.mono mup⟩,U,U,U⟩ (λfr a8 a9 m _ z=>?_);obtain⟨k,vs,w,⟨hk,K⟩,rfl,rfl,rfl⟩:=z;refine U0 1 [3,4,8,12,32,33,34,48,49,50,51] U<|G.cd (λab=>?_) λab=>?_
  .have L:k<(c a).length:=by
    have:=aT ab;omega
   let⟨r,g⟩:∃r,(c a)[k]?=some r:=⟨(c a)[k],aj L⟩;let⟨p,q⟩:∃p,an[k]?=some p:=⟨an[k]'(by rw[ap];exact L),aj _⟩;have t:=ao.2 k p r q g;obtain⟨h,n,rfl,_⟩:=id t;simp only[ar]at t q;have aE:(kX (a:Nat) ((c a).take k)).length<=240:=by simp[kX];omega
   have ba:(bV (bM B) c (l.take j)++kX (a:Nat) ((c a).take k)).length<=100000:=by rw[SP];omega
   refine Wu λR d=>WG aa.m_ U10 om_ (iu q g) fl_ λbb aN=>Ws aN U8<|WI U5 λbc=>WB (j:=0) U12<|Ww [3,4,8,12,16,32,33,34,48,49,50] d U<|U1 2 U λR d=>WA ah U9<|WL [i_ (a:Nat),.slice h r.f.length n,ag (qtx r.b)] U8<|WP [[i_ (a:Nat),.slice h r.f.length n,ag (qtx r.b)]] U12 λbd _ _ aO=>D.append (j:=1) U11 aO U ay (by simp only[SN];omega) fl_ λau=>C6 1 [3,4,8,12,32,33,34,48,49,50] d U<|Wu λR d=>Wz _ U U6<|C6 1 [3,4,8,12,32,33,34,48,49,50] d U ?_;have A:=SrcsOk.snoc (s:=⟨(a:Nat),r⟩) K.m_ t.m_;rw[Tn,<- lW g]at A;refine Xb 1 U<|WK (L':=[.arr au 142 3 (bV (bM B) c (l.take j)++kX (a:Nat) ((c a).take (k+1))).length (bZ (vs++[.slice h r.f.length n]) (bV (bM B) c (l.take j)++kX (a:Nat) ((c a).take (k+1)))).flatten]) (by rw[lW g,<- Tn,lX (jV K)];simp;omega)<|WF (m':=(c a).length-(k+1)) om_ mup (hn_ [3,4,8,12,32,33,34,48,49,50] U) ⟨k+1,vs++[.slice h r.f.length n],au,⟨by omega,A.mono mup⟩,U,U,U⟩
  have L:k=(c a).length:=by
   have:=SJ ab;omega
  rw[L,SU,<- aI]at K⊢;refine Wu λR d=>Wz _ U U6<|C6 1 [3,4,8,32,33,34] d U<|WF (m':=l.length-(j+1)) om_ mup (hn_ [3,4,8,32,33,34] U) ⟨j+1,vs,w,⟨by omega,K⟩,U,U,U⟩
 have Y:j=l.length:=by
  have:=SJ X;omega
 rw[Y,SU]at E⊢;refine G.freezeArr 0 (bZ vs (bV (bM B) c l)) U U (sz _ _) (oD (jV E)) (λCg hg ac=>?_);obtain⟨Ag,cg,rfl,_⟩:=id ac;rw[oD (jV E)]at ac⊢;refine U0 3 [8,64] U<|G.cd (λav=>?_) λav=>?_
 .exfalso;have:=aT av;omega
 refine U0 3 [6,7] U<|WE (zD U3 ?_);exact⟨U,_,U,vs,E.mono mup,ac.mono mup⟩
theorem NG (C:Mem)(g:Tabs C)(h:Value)(B:Bk)(k:List Rat)(b:Nat->List RowQ)(c:BookIn C h B)(d:Rich B k b)(x:B.obs.length<=100)(z:(bV (bM B) b (List.range B.obs.length)).length<=300) :
  Pur cx.P 54 [h] C λu D=>∃v,u=.tuple #[v,i_ 0]/\Ei D v (bV (bM B) b (List.range B.obs.length)):=by
 have l:=c;have n:=d.bookz g c;obtain⟨Q,S,T,V,W,rfl,h1,h2,h3,h4,h5⟩:=id c.ex;obtain⟨X,Y,rfl,A,Z,_⟩:=id h5;have aa:=mx_
 simp only[ar]at h5 A l n⊢;refine Wy func54 33 U3 λw0=>Wu λR a=>WH U6 λE=>C6 2 [1] a U<|G.freeze 0 U λ_ _ e=>Wu λR a=>Ws (bkT e 5) U8<|WD (O3 _ _ B n.m_ d.h60) U7<|Wv 3 U<|WI U5 λF=>WB (j:=0) U12<|C6 1 [1,4,5] a U<|U0 2 [1,4,5,14] U<|G.cd (λo=>?_) λo=>?_
 .exact absurd o dc_
 refine U0 1 [1,4,6] U<|U1 1 U λR a=>Ws (bkT e 1) U8<|C6 2 [1,4,6,18,19] a U<|G.freeze 0 U λ_ _ H=>G.nilArr 3 1<|G.loop (λfr C' p I=>∃(i:Nat)(w:Value),(i<=B.obs.length)/\fr=[(1,[],p_ E),(4,[],p_ F),(6,[],w),(18,[],i_ B.obs.length),(19,[],i_ i)]/\p=[.arr w 3 1 (List.range i).length ((List.range i).map aX).flatten]/\I=B.obs.length-i) (hn_ [1,4,6,18,19] U) ⟨0,_,SM _,U,U,U⟩ (λfr ab ac m _ J=>?_);obtain⟨i,w,q,rfl,rfl,rfl⟩:=J;refine U0 1 [1,4,6,18,19,20] U<|G.cd (λf=>?_) λf=>?_
 .have s:i<B.obs.length:=by
   have:=aT f;omega
  have ad:(List.range i).length<=100:=by simp;omega
  refine U0 2 [1,4,6,7,18,19] U<|U1 2 U λR a=>WP [aX i] U12 λae _ _ K=>D.append (j:=0) U11 K U ay (by simp only[SN];omega) fl_ λt=>C6 1 [1,4,6,18,19] a U<|Wu λR a=>Wz _ U U6<|C6 1 [1,4,6,18,19] a U<|WK (L':=[.arr t 3 1 (List.range (i+1)).length ((List.range (i+1)).map aX).flatten]) (by rw[T1];simp[aX])<|WF (m':=B.obs.length-(i+1)) om_ mup (hn_ [1,4,6,18,19] U) ⟨i+1,t,om_,U,U,U⟩
 have s:i=B.obs.length:=by
  have:=SJ f;omega
 subst s;refine G.freezeArr 0 ((List.range B.obs.length).map aX) rfl rfl (by intro r hr;obtain⟨y,_,rfl⟩:=SL.1 hr;rfl) am λCg hg L=>Wu λR a=>Ws (bkT H 2) U8<|Ws (bkT e 5) U8<|Wt U6<|WT (Jq _ g.m_ _ _ B k b (List.range B.obs.length) l.m_ d L.m_ (λi q=>S7.1 q) (by simpa using x) z) U7 fl_ (λaf _ _ M=>?_);obtain⟨N,rfl,O⟩:=M;refine C6 4 [2,3] a U<|WE (zD U3 ?_);exact⟨U,N,U,O⟩
def cG (err:Nat->Int):Nat->Int
|0=>0
|n+1=>if cG err n≠0 then cG err n else err n
theorem mQ {a:Nat->Int}{n:Nat}(h:cG a n≠0):∀m,n<=m->cG a m=cG a n
|0,hm=>by rw[show n=0 by omega]
|m+1,hm=>by
  rcases Th m n with h1|h1
  .rw[show n=m+1 by omega]
  have b:=mQ h m h1;simp only[cG,b];rw[aL h]
theorem yM (a:cG err i=0)(b:err i≠0)(c:i<n):cG err n=err i:=by
 have h1:cG err (i+1)=err i:=by simp only[cG,a];rw[aF dc_]
 rw[mQ (n:=i+1) (by rw[h1];exact b) n om_,h1]
theorem mP (a:cG err i=0)(b:err i=0):cG err (i+1)=0:=by
 simp only[cG,a];rw[aF dc_,b]
theorem iM {a:Nat->Int}:∀{n:Nat},cG a n=0->∀i,i<n->a i=0
|0,_,i,b=>by omega
|n+1,h,i,b=>by
  by_cases h0:cG a n=0
  .rcases Th i n with h1|h1
   .exact iM h0 i h1
   have:i=n:=by omega
   subst this;simp only[cG,h0]at h
   rwa [aF dc_]at h
  simp only[cG]at h;rw[aL h0]at h;exact absurd h h0
theorem rI {a:Nat->Int}:∀{n:Nat},(∀i,i<n->a i=0)->cG a n=0
|0,_=>rfl
|n+1,h=>mP (rI λi b=>h i om_) (h n om_)
def FieldsIn (C:Mem)(v:Value)(ls:List (List Str)):Prop:=∃vs:List Value,vs.length=ls.length/\(∀(i:Nat)(w:Value)(l:List Str),vs[i]?=some w->ls[i]?=some l->Sl C 1 w (l.map dE))/\Sl C 1 v (vs.map λw=>[w])
theorem FieldsIn.mono {C D:Mem}{v:Value}{a:List (List Str)}(h:FieldsIn C v a)(b:C.le D):FieldsIn D v a:=by
 let⟨vs,h1,h2,h3⟩:=h;exact⟨vs,h1,λi w l h4 h5=>(h2 i w l h4 h5).mono b,h3.mono b⟩
theorem FieldsIn.m_ {D:Mem}{a:List (List Str)}(h:FieldsIn C v a)(b:C.le D:=by exact mup):FieldsIn D v a:=FieldsIn.mono h b
def nG (s p:Nat)(ls:List (List Str)):Int:=if ls.length=s then cG (λj=>oK p (ls.getD j [])) ls.length else 5
theorem DM {p:Nat}{l:List Str}(h:oK p l=0):l.length=p:=by
 unfold oK at h;split at h
 .assumption
 cases h
theorem DO {p:Nat}:∀{ls:List (List Str)},(∀l∈ls,l.length=p)->ls.flatten.length=p*ls.length
|[],_=>by simp
|l::ls,h=>by rw[TV,SP,h l SK,DO λx a=>h x (SX _ a),S5,Nat.mul_succ,UT]
theorem IU {a:List (List α)}{l:List α}(h:a[j]?=some l):(a.take (j+1)).flatten=(a.take j).flatten++l:=by
 rw[S9,h,Ta];simp
theorem Gq (C:Mem)(S:Tabs C)(H v:Value)(B:Bk)(s:Nat)(a:List (List Str))(T:BookIn C H B)(I:Good B.pts B.tris)(V:FieldsIn C v a)(W:∀l∈a,∀x∈l,x.length<=999998)(hl:a.length<=1000) :
  Pur cx.P 150 [gu s (bp B),H,v] C λu D=>∃w,u=.tuple #[w,i_ (nG s (bp B) a)]/\Sl D 1 w ((if nG s (bp B) a=0 then a.flatten else []).map dE):=by
 let⟨vs,J,X,q⟩:=V;have am:=I.ok.lp;obtain⟨K,L,tv,cv,ov,rfl,h1,h2,h3,h4,h5⟩:=id T.ex;have hm:MeshIn C (.agg ⟨[K,L]⟩) B.pts B.tris:=⟨K,L,rfl,h1,h2⟩;obtain⟨Y,c0,rfl,Z,an,_⟩:=id q;have ao:=mx_
 simp only[ar,J]at q Z⊢;refine Wy func150 35 U3 λw0=>Wu λR b=>WH U6 λb3=>WH U6 λb4=>C6 2 [2,3,4] b U<|G.freeze 1 U λ_ _ aa=>G.freeze 0 U λ_ _ ab=>U1 3 U λR b=>Ws (bkT aa 1) U8<|C6 1 [2,4,16] b U<|G.cd (λg=>?_) λg=>?_
 .have ac:a.length≠s:=by
   intro e;rw[e]at g;simp at g
  have c:nG s (bp B) a=5:=by unfold nG;rw[aF ac]
  refine U0 2 [6,7] U<|WE (zD U3 ?_);exact⟨U,.slice none 0 0,by rw[c],by rw[c];exact Sl.nil _ _⟩
 have M:a.length=s:=by
  have h:((a.length:Nat):Int)=(s:Nat):=by simpa using g
  omega
 refine U0 1 [2,4,8] U<|U0 3 [4,8,17,18,19] U<|G.nilArr 32 1<|G.loop (λfr C' N μ=>∃(j:Nat)(w:Value),(j<=a.length/\cG (λj=>oK (bp B) (a.getD j [])) j=0)/\fr=[(4,[],p_ b4),(8,[],w),(17,[],.slice Y a.length c0),(18,[],i_ a.length),(19,[],i_ j)]/\N=[.arr w 32 1 (a.take j).flatten.length ((a.take j).flatten.map dE).flatten]/\μ=a.length-j) (hn_ [4,8,17,18,19] U) ⟨0,_,⟨SM _,U⟩,U,U,U⟩ (λfr ap aq m _ hI=>?_);obtain⟨j,w,⟨hj,k⟩,rfl,rfl,rfl⟩:=hI;refine U0 1 [4,8,17,18,19,20] U<|G.cd (λt=>?_) λt=>?_
 .have d:j<a.length:=by
   have:=aT t;omega
  let⟨l,n⟩:∃l,a[j]?=some l:=⟨a[j],aj d⟩;let⟨z,A⟩:∃z,vs[j]?=some z:=⟨vs[j]'(by rw[J];exact d),aj _⟩;have o:=X j z l A n;obtain⟨Aw,cw,rfl,_⟩:=id o;simp only[ar]at o A;have E:a.getD j []=l:=by rw[al,n,T6]
  have ad:(vs.map λw=>[w])[j]?=some [.slice Aw l.length cw]:=by rw[SI,A];rfl
  have ae:∀x∈a.take j,x.length=bp B:=by
   intro x hx;let⟨i,F⟩:=Uh hx;have af:=(R0.1 F).1;rw[S2]at af;rw[TA,aL om_]at F;have h:=iM k i om_;simp only[al,F,T6]at h;exact DM h
  have O:=DO ae;rw[S2]at O;have ah:bp B<=400:=by unfold bp;omega
  have au:(a.take j).flatten.length<=400*1000:=by rw[O];exact T2 ah om_
  refine Wu λR b=>WG q.m_ U10 om_ ad fl_ λav ai=>Ws ai U8<|C6 1 [4,8,10,17,18,19] b U<|U1 1 U λR b=>Ws (bkT ab 2) U8<|Wt U6<|WD (mR _ S.m_ _ _ B.pts B.tris l hm.m_ I o.m_ (W l (aK n))) U7<|C6 1 [4,8,10,11,17,18,19] b U<|U0 2 [4,8,10,11,17,18,19,28] U<|G.cd (λp=>?_) λp=>?_
  .have f:oK (bp B) l≠0:=by
    intro e;rw[show oK B.pts.length l=0 from e]at p;exact absurd p dc_
   have c:nG s (bp B) a=oK (bp B) l:=by
    unfold nG;rw[aL M,yM (i:=j) k (by simp only[E];exact f) d];simp only[E]
   refine U0 3 [6,7] U<|WE (zD U3 ?_);exact⟨U,.slice none 0 0,by rw[c];rfl,by rw[c,aF f];exact Sl.nil _ _⟩
  have f:oK (bp B) l=0:=by
   have h:oK B.pts.length l=0:=by simpa using p
   exact h
  have aw:=DM f;refine U1 2 U λR b=>YL (j:=0) U U U U U U U U U U U U U o.m_ (by simp[dE,kS,ag]) (by simp only[ar,maxLen];omega) (by simp only[ar];omega) fl_ λQ=>C6 1 [4,8,17,18,19] b U<|Wu λR b=>Wz _ U U6<|C6 1 [4,8,17,18,19] b U<|WK (L':=[.arr Q 32 1 (a.take (j+1)).flatten.length ((a.take (j+1)).flatten.map dE).flatten]) (by rw[IU n,Tm,Ta,SP,ar];rfl)<|WF (m':=a.length-(j+1)) om_ mup (hn_ [4,8,17,18,19] U) ⟨j+1,Q,⟨by omega,mP k (by simp only[E];exact f)⟩,U,U,U⟩
 have d:j=a.length:=by
  have:=SJ t;omega
 subst d;have c:nG s (bp B) a=0:=by unfold nG;rw[aL M];exact k
 rw[SU];refine U0 3 [6,7] U<|G.freezeArr 0 (a.flatten.map dE) rfl rfl (by intro r hr;obtain⟨y,_,rfl⟩:=SL.1 hr;rfl) (by rw[ar]) λCg hg ak=>WE (zD U3 ?_);exact⟨U,_,by rw[c],by rw[aL c];exact ak⟩
theorem nE (C:Mem)(f:Tabs C)(c v:Value)(B:Bk)(a:List (List Str))(d:BookIn C c B)(g:Good B.pts B.tris)(h:BookZ C c B 0)(i:bs B*bp B<=60)(k:FieldsIn C v a)(m:∀l∈a,∀x∈l,x.length<=999998)(n:a.length<=1000) :
  Pur cx.P 82 [c,v] C λu D=>∃w,u=.tuple #[w,i_ (nG (bs B) (bp B) a)]/\Sl D 1 w ((if nG (bs B) (bp B) a=0 then a.flatten else []).map dE):=by
 have o:=d;obtain⟨s,t,y,z,A,rfl,h1,h2,h3,h4,h5⟩:=id d.ex;refine Wy func82 22 U3 λw0=>Wu λR b=>WH U6 λE=>C6 2 [1,2] b U<|Wu λR b=>WA ah U9<|WD (O3 _ _ B h.m_ i) U7<|Wv 3 U<|WI U5 λF=>WB (j:=0) U12<|C6 1 [1,2,6,7] b U<|U0 2 [1,2,6,7,14] U<|G.cd (λe=>?_) λe=>?_
 .exact absurd e dc_
 refine Wu λR b=>WA ah U9<|WA af U9<|Wt U6<|WY (Gq _ f.m_ _ _ B (bs B) a o.m_ g k.m_ m n) U7 (λH _ _ p=>?_);obtain⟨q,rfl,r⟩:=p;refine C6 4 [4,5] b U<|WE (zD U3 ?_);exact⟨U,q,U,r⟩
def sJ (s p:Nat)(l:List Str):Int:=if l.length=s*p then ot (l.all aS) else 5
def ze (p:Nat)(l:List Str)(j:Nat):List Str:=(l.take ((j+1)*p)).drop (j*p)
def chunks (s p:Nat)(l:List Str):List (List Str):=(List.range s).map (ze p l)
theorem OE {l:List Str}(h:l.all aS=true):l=(l.map dx).map qtx:=by
 rw[TH];symm;have e:∀s∈l,(qtx ∘ dx) s=id s:=λs hs=>(dF (S3.1 h s hs)).1.symm;rw[List.map_congr_left e,List.map_id]
theorem yO (C:Mem)(hT:Tabs C)(E v:Value)(B:Bk)(l:List Str)(hB:BookIn C E B)(F:BookZ C E B 0)(aa:bs B*bp B<=60)(f:Sl C 1 v (l.map dE))(hs:∀x∈l,x.length<=999998)(_au:l.length<=100000) :
  Pur cx.P 81 [E,v] C λu D=>∃w,u=.tuple #[w,i_ (sJ (bs B) (bp B) l)]/\FieldsIn D w (if sJ (bs B) (bp B) l=0 then chunks (bs B) (bp B) l else []):=by
 have av:=F.lc;have aw:=F.lp;have ax:bs B<=1000:=by unfold bs;omega
 have az:bp B<=400:=by unfold bp;omega
 obtain⟨v1,v2,tv,cv,ov,rfl,h1,h2,h3,h4,h5⟩:=id hB.ex;obtain⟨c,c0,rfl,ab,aA,_⟩:=id f;have aB:=mx_
 simp only[ar]at f ab⊢;refine Wy func81 60 U3 λw0=>Wu λR a=>WH U6 λb2=>C6 2 [1,2] a U<|Wu λR a=>WA ah U9<|WD (O3 _ _ B F.m_ aa) U7<|Wv 3 U<|WI U5 λN=>WB (j:=0) U12<|C6 1 [1,6,7] a U<|U0 2 [1,6,7,19] U<|G.cd (λO=>?_) λO=>?_
 .exact absurd O dc_
 refine G.freeze 0 U λ_ _ g=>U1 2 U λR a=>Ws (bkT g 2) U8<|WC (js _ (bs B) (bp B) om_) U7 fl_<|C6 1 [1,6,25] a U<|G.cd (λk=>?_) λk=>?_
 .have ac:l.length≠bs B*bp B:=by
   intro e;rw[e]at k;simp at k
  have b:sJ (bs B) (bp B) l=5:=by unfold sJ;rw[aF ac]
  refine U0 2 [4,5] U<|WE (zD U3 ?_);exact⟨U,.slice none 0 0,by rw[b],by rw[b];exact⟨[],U,λi w l h1 _=>by simp at h1,Sl.nil _ _⟩⟩
 have Q:l.length=bs B*bp B:=by
  have h:((l.length:Nat):Int)=((bs B*bp B:Nat):Int):=by simpa using k
  omega
 refine U0 3 [1,6,26,27,28] U<|G.dropAll<|G.loop (λfr S n H=>∃(i:Nat),(i<=l.length/\(l.take i).all aS=true)/\fr=[(1,[],.slice c l.length c0),(6,[],p_ N),(26,[],.slice c l.length c0),(27,[],i_ l.length),(28,[],i_ i)]/\n=[]/\H=l.length-i) (hn_ [1,6,26,27,28] U) ⟨0,⟨SM _,by simp⟩,U,U,U⟩ (λfr aC aD m ad I=>?_);obtain⟨i,⟨o,p⟩,rfl,rfl,rfl⟩:=I;refine U0 1 [1,6,26,27,28,29] U<|G.cd (λJ=>?_) λJ=>?_
 .have K:i<l.length:=by
   have:=aT J;omega
  let⟨s,t⟩:∃s,l[i]?=some s:=⟨l[i],aj K⟩;refine Wu λR a=>WG f.m_ U10 om_ (cM t) fl_ λaE ae=>Ws ae U8<|C6 1 [1,6,9,26,27,28] a U<|U1 1 U λR a=>WD (dD _ hT.m_ s (hs s (aK t))) U7<|C6 1 [1,6,10,26,27,28] a U<|U0 2 [1,6,10,26,27,28,35] U<|G.cd (λd=>?_) λd=>?_
  .have T:aS s=false:=by
    rcases eP (aS s) with⟨h1,h2⟩|⟨h1,h2⟩
    .rw[h1]at d;exact absurd d dc_
    exact h2
   have b:sJ (bs B) (bp B) l=2:=by
    unfold sJ;rw[aL Q,show l.all aS=false from Vi.2 ⟨s,aK t,by rw[T];decide⟩];rfl
   refine U0 3 [4,5] U<|WE (zD U3 ?_);exact⟨U,.slice none 0 0,by rw[b,T];rfl,by rw[b];exact⟨[],U,λi w l h1 _=>by simp at h1,Sl.nil _ _⟩⟩
  have af:aS s=true:=by
   rcases eP (aS s) with⟨h1,h2⟩|⟨h1,h2⟩
   .exact h2
   rw[h1]at d;exact absurd d dc_
  refine Wu λR a=>Wz _ U U6<|C6 1 [1,6,26,27,28] a U<|WF (m':=l.length-(i+1)) om_ ad (hn_ [1,6,26,27,28] U) ⟨i+1,⟨by omega,by rw[S9,t,Wk,p];simp[af]⟩,U,U,U⟩
 have K:i=l.length:=by
  have:=SJ J;omega
 subst K;rw[SU]at p;have b:sJ (bs B) (bp B) l=0:=by unfold sJ;rw[aL Q,p];rfl
 have ag:=OE p;refine U0 1 [1,6,11] U<|U1 1 U λR a=>Ws (bkT g 1) U8<|C6 1 [1,6,11,39,40] a U<|G.nilArr 41 1<|G.loop (λfr S n H=>∃(j:Nat)(vs:List Value)(w:Value),(j<=bs B/\vs.length=j/\(∀(i:Nat)(w:Value),vs[i]?=some w->Sl S 1 w ((ze (bp B) l i).map dE)))/\fr=[(1,[],.slice c l.length c0),(6,[],p_ N),(11,[],w),(39,[],i_ (bs B:Nat)),(40,[],i_ j)]/\n=[.arr w 41 1 vs.length (vs.map λw=>[w]).flatten]/\H=bs B-j) (hn_ [1,6,11,39,40] U) ⟨0,[],_,⟨SM _,U,λi w h=>by simp at h⟩,U,U,U⟩ (λfr aG aH m _ I=>?_);obtain⟨j,vs,w,⟨hj,V,W⟩,rfl,rfl,rfl⟩:=I;refine U0 1 [1,6,11,39,40,41] U<|G.cd (λL=>?_) λL=>?_
 .have M:j<bs B:=by
   have:=aT L;omega
  have aI:(j+1)*bp B<=bs B*bp B:=To _ M;have aJ:(j+1)*bp B=j*bp B+bp B:=Nat.succ_mul _ _;have ai:=Sl.sub f (l:=j*bp B) (h:=(j+1)*bp B) (m:=c0) om_ ap om_ (SH _);have X:ze (bp B) l j=(((l.map dx).take ((j+1)*bp B)).drop (j*bp B)).map qtx:=by
   unfold ze
   conv=>lhs;rw[ag]
   rw[List.map_drop,UR]
  have ak:Sl C 1 (.slice (if c0=j*bp B then c else c.map (·.add (j*bp B*1))) ((j+1)*bp B-j*bp B) (c0-j*bp B)) ((((l.map dx).take ((j+1)*bp B)).drop (j*bp B)).map dH):=by
   rw[gK,<- X];unfold ze;rw[List.map_drop,UR];exact ai
  refine U0 2 [1,6,11,12,39,40] U<|WQ [(12,3)] U λR a=>Wv 4 U<|Ws (bkT g 1) U8<|Wz (((j*bp B:Nat):Int)) (Tc _ _) U6<|Wt U6<|WW (((j+1:Nat):Int)) U4 om_ om_ om_ U2<|Wt U6<|Ws (bkT g 1) U8<|Wz ((((j+1)*bp B:Nat):Int)) (Tc _ _) U6<|Xd (j*bp B) ((j+1)*bp B) c0 U12 (λ_=>⟨.inr ⟨_,U⟩,.inr ⟨_,U⟩,.inl ⟨U,U⟩,by omega,by omega,by omega⟩) U2<|D.call (zc _ _ _ ak.m_ ap) U (.inr dc_) U6 (SQ _) fl_ (λaM _ aN _ al=>?_);obtain⟨z,A,cc,rfl,rfl⟩:=al;refine WP [[.slice z A cc]] U12 λaO _ _ an=>D.append (j:=1) U11 an U ay (by simp only[SN];omega) fl_ λY=>C6 1 [1,6,11,39,40] a U<|Wu λR a=>Wz _ U U6<|C6 1 [1,6,11,39,40] a U<|G.freezeArr 1 ((((l.map dx).take ((j+1)*bp B)).drop (j*bp B)).map dH) rfl rfl (by intro r hr;obtain⟨y,_,rfl⟩:=SL.1 hr;rfl) (by rw[ar]) (λCz b Z=>?_);rw[gK,<- X]at Z;refine WK (L':=[.arr Y 41 1 (vs++[Value.slice z A cc]).length ((vs++[Value.slice z A cc]).map λw=>[w]).flatten]) am<|WF (m':=bs B-(j+1)) om_ mup (hn_ [1,6,11,39,40] U) ⟨j+1,vs++[.slice z A cc],Y,⟨by omega,by simp[V],λi w h=>by
   rcases Th i vs.length with h1|h1
   .rw[Tz h1]at h;exact(W i w h).mono mup
   rw[Tj h1]at h;cases o:i-vs.length with
  |zero =>
    rw[o]at h;simp at h;subst h;rw[show i=j by omega];exact Z
  |succ q=>rw[o]at h;simp at h⟩,rfl,rfl,rfl⟩
 have M:j=bs B:=by
  have:=SJ L;omega
 have ao:(chunks (bs B) (bp B) l).length=bs B:=by simp[chunks]
 refine U0 3 [4,5] U<|G.freezeArr 0 (vs.map λw=>[w]) rfl rfl (by intro r hr;obtain⟨y,_,rfl⟩:=SL.1 hr;rfl) (by rw[ar]) λCg hg aq=>WE (zD U3 ?_);refine⟨U,_,by rw[b], ?_⟩;rw[aL b];refine⟨vs,by rw[ao,V,M],λi w l2 h1 h2=>?_,aq⟩;unfold chunks at h2;rw[SI]at h2;have o:=(R0.1 h1).1;rw[Tl om_]at h2;simp only[Uk,Tv]at h2;subst h2;exact(W i w h1).mono mup
def dotV (f x:List Rat):Nat->Rat
|0=>0
|n+1=>dotV f x n+f.getD n 0*x.getD n 0
structure DotOk (r:RowQ)(x:List Rat):Prop where
 f:∀q∈r.f,QB 22 q
 b:QB 22 r.b
 len:r.f.length=x.length
 s:∀n,QB 2000 (dotV r.f x n)
theorem vA (C:Mem)(v:Value)(l:List RowQ)(g:Nat)(h:List Value)(a:RowQ->Bool)(s:RowsIn C v l)(_L:Jog.Enters cx.P g=true)
  (t:∀x∈l,∀(D:Mem)(q:Value),C.le D->Sl D 1 q (x.f.map dH)->Gives cx.P g (.agg ⟨[q,ag (qtx x.b)]⟩::h) D (.bool (a x))) :
  Gives cx.P 152 [v,.func (.func g) #[] ⟨h⟩] C (i_ (ic a l 0)):=by
 let⟨vs,j,k⟩:=s;obtain⟨u,c0,rfl,z,M,_⟩:=id k;have N:=mx_
 simp only[bI j.1]at k z⊢;refine Wy func152 19 U3 λw0=>U0 1 [0,1] U<|U0 3 [0,1,7,8] U<|G.loop (λfr O A B=>∃(i:Nat),(i<=l.length/\∀y∈l.take i,a y=false)/\fr=[(0,[],.slice u l.length c0),(1,[],.func (.func g) #[] ⟨h⟩),(7,[],i_ l.length),(8,[],i_ i)]/\A=[]/\B=l.length-i) (hn_ [0,1,7,8] U) ⟨0,⟨SM _,by simp⟩,U,U,U⟩ (λfr Q S m E F=>?_);obtain⟨i,⟨T,d⟩,rfl,rfl,rfl⟩:=F;refine U0 1 [0,1,7,8,9] U<|G.cd (λn=>?_) λn=>?_
 .have e:i<l.length:=by simpa using n
  let⟨x,c⟩:∃x,l[i]?=some x:=⟨l[i],aj e⟩;let⟨w,r⟩:∃w,vs[i]?=some w:=⟨vs[i]'(by rw[j.1];exact e),aj _⟩;have H:=j.2 i w x r c;refine U0 2 [0,1,5,7,8] U<|U1 3 U λR o=>WG k.m_ U10 om_ (iu r c) fl_ λV I=>Ws I U8<|WD (t x (aK c) _ w mup H.m_) U7<|Ww [0,1,5,7,8,16] o U<|G.cd (λp=>?_) λp=>?_
  .have J:a x=true:=p;exact U0 2 [4] U<|Wx U2<|⟨by rw[mN c J d,TX],U⟩
  have K:a x=false:=p;refine Wu λR o=>Wz _ U U6<|C6 1 [0,1,7,8] o U<|WF (m':=l.length-(i+1)) om_ E (hn_ [0,1,7,8] U) ⟨i+1,⟨by omega,λy hy=>by
   rw[S9,c]at hy;rcases SZ.1 hy with hy|hy
   .exact d y hy
   simp only[T7,S6]at hy;subst hy;exact K⟩,U,U,U⟩
 have e:i=l.length:=by
  have:¬ i<l.length:=by simpa using n
  omega
 exact U0 1 [4] U<|Wx U2<|⟨by rw[e,SU]at d;rw[jD d],U⟩
theorem oW (C:Mem)(v:Value)(l:List RowQ)(g:Nat)(d:List Value)(a:RowQ->Bool)(e:RowsIn C v l)(h:Jog.Enters cx.P g=true)
  (j:∀x∈l,∀(D:Mem)(c:Value),C.le D->Sl D 1 c (x.f.map dH)->Gives cx.P g (.agg ⟨[c,ag (qtx x.b)]⟩::d) D (.bool (a x))) :
  Gives cx.P 87 [v,.func (.func g) #[] ⟨d⟩] C (.bool (l.any a)):=by
 refine Wy func87 9 U3 λw0=>U0 1 [0,1] U<|U1 2 U λR k=>WD (vA _ v l g d a e.m_ h (λx m D c n=>j x m D c (Mem.le.trans mup n))) U7<|C6 2 [4] k U<|Wx U2<|⟨?_,U⟩;congr 1;rcases ib a l with⟨h1,h2⟩|⟨i,x,h1,h2,h3,_⟩
 .rw[h1,List.any_eq_false.2 (λy hy=>by rw[h2 y hy];decide)];rfl
 rw[h1,Vl.2 ⟨x,aK h2,h3⟩];exact S4 om_
def txs (lq:List (List Rat)):List (List Str):=lq.map λl=>l.map qtx
end Go.Proofs.YtfjcldheldflbaaGreatDoor
