import Derived.Test.YtfjcldheldflbaaGreatDoorG15
set_option maxHeartbeats 4000000
namespace Go.Proofs.YtfjcldheldflbaaGreatDoor
open Go.Proofs.Tryz
open Go Go.Jog
set_option maxRecDepth 100000
variable {S:Sht}{du:Nat->Rat}{es:List (Nat × Nat)}{j k:Nat}{l:List Sgt}{m n:Nat}{o:Obs}{pt:Nat->Rat}{q:Rat}{rs:List (List Rat × Rat)}{v:Rat}
theorem NI (h:q.num<0):abR q=-q:=aL ((re q).1 h)
theorem NJ (h:¬ q.num<0):abR q=q:=aF λh2=>h ((re q).2 h2)
theorem OH (C:Mem)(q:Rat)(f:(qtx q).length<=1000000):Gives cx.P 163 [ag (qtx q)] C (ag (qtx (abR q))):=by
 have g:=tw q;obtain⟨c,r,e,d⟩:=kf q;refine Wy func163 9 U3 λw0=>U0 1 [0] U<|U1 1 U λR b=>W8 U8 (λ_=>⟨by omega,by rw[e];rfl⟩) U2<|C6 1 [0,5] b U<|G.cd (λh5=>?_) λh5=>?_
 .have a:q.num<0:=by rw[d]at h5;exact aT h5
  refine U1 1 U λR b=>Xk 1 (qtx q).length U9 (λ_=>⟨.inr ⟨_,U⟩,.inl ⟨U,U⟩,.inl ⟨U,U⟩,by omega,SH _,SH _⟩) U2<|C6 1 [2] b U<|Wx U2<|⟨?_,U⟩;rw[SU,NI a,gH a];rfl
 have a:¬ q.num<0:=by rw[d]at h5;exact SJ h5
 refine U0 2 [2] U<|Wx U2<|⟨?_,U⟩;rw[NJ a]
theorem PY (C:Mem)(q:Rat)(c:(qtx q).length<=1000000):Gives cx.P 100 [ag (qtx q)] C (ag (qtx (abR q))):=by
 have d:decide (eA q.num<0)=decide (q.num<0):=by
  unfold eA;split
  .rename_i h;rw[S4 h];rfl
  rename_i h;rw[Te h];split <;> rfl
 refine Wy func100 9 U3 λw0=>U0 1 [0] U<|U1 1 U λR a=>WD (CJ _ q c) U7<|C6 1 [0,5] a U<|G.cd (λh5=>?_) λh5=>?_
 .have b:q.num<0:=by
   have h:decide (eA q.num<0)=true:=h5;rw[d]at h;exact aT h
  exact U1 1 U λR a=>WD (AF _ q c) U7<|C6 1 [2] a U<|Wx U2<|⟨by rw[NI b],U⟩
 have b:¬ q.num<0:=by
  have h:decide (eA q.num<0)=false:=h5;rw[d]at h;exact SJ h
 exact U0 2 [2] U<|Wx U2<|⟨by rw[NJ b],U⟩
def Jb (es:List (Nat × Nat))(f:List Rat)(i:Nat):Rat:=f.getD (es.getD i (0,0)).1 0-f.getD (es.getD i (0,0)).2 0
def rfP (es:List (Nat × Nat))(f:List Rat):Nat->Rat
|0=>0
|i+1=>rfP es f i+abR (Jb es f i)
def rfA (es:List (Nat × Nat))(fl:List (List Rat)):Nat->Rat
|0=>0
|j+1=>rfA es fl j+rfP es (fl.getD j []) es.length
structure RufQ (es:List (Nat × Nat))(fl:List (List Rat)):Prop where
 e:∀f∈fl,∀x∈f,QB 22 x
 d:∀j i,j<fl.length->i<es.length->QB 22 (Jb es (fl.getD j []) i)
 s:∀j i,j<fl.length->i<=es.length->QB 22 (rfA es fl j+rfP es (fl.getD j []) i)
theorem NH (h:QB k q):QB k (abR q):=by
 unfold abR;split
 .exact eQ h
 exact h
theorem IB (C:Mem)(o:Tabs C)(H I J:Value)(l:List Pt)(n:List Tri)(b:List (List Rat))(hm:MeshIn C (.agg ⟨[H,I]⟩) l n)(K:Good l n)(L:FieldsIn C J (txs b))(aa:∀f∈b,f.length=l.length)(hn:b.length<=1000)(a:List (Nat × Nat))(M:EdgL n a)(p:RufQ a b) :
  Gives cx.P 104 [.agg ⟨[H,I]⟩,J] C (.tuple #[ag (qtx (rfA a b b.length)),i_ 0]):=by
 have hM:=K.ok;obtain⟨vs,ab,ac,q⟩:=id L;obtain⟨N,O,rfl,ad,_⟩:=id q;have ae:(txs b).length=b.length:=by simp[txs]
 have af:vs.length=b.length:=by rw[ab,ae]
 simp only[ar,af]at q ad L⊢;have aA:=mx_
 refine Wy func104 48 U3 λw0=>Wu λR c=>WH U6 λb2=>C6 2 [1,2] c U<|G.freeze 0 U λ_ _ ah=>Wu λR c=>Ws (bkT ah 2) U8<|WY (pr _ o.m_ _ l n hm.m_ K) U7 (λaB _ _ ai=>?_);obtain⟨aC,ev,rfl,ak,r⟩:=ai;obtain rfl:=M.same ak;obtain⟨t,u,rfl,am,_⟩:=id r;simp only[ar]at r am⊢;have an:=M.ok hM.ins 1;refine C6 5 [1,6,7] c U<|U0 1 [1,6,7,8] U<|U0 3 [6,7,8,18,19,20] U ?_;rw[<- qtx_zero];refine G.loop (λfr C' v x=>∃(j:Nat),(j<=b.length)/\fr=[(6,[],.slice t a.length u),(7,[],i_ 0),(8,[],ag (qtx (rfA a b j))),(18,[],.slice N b.length O),(19,[],i_ (b.length:Nat)),(20,[],i_ j)]/\v=[]/\x=b.length-j) (hn_ [6,7,8,18,19,20] U) ⟨0,SM _,U,U,U⟩ (λfr aD aE m _ y=>?_);obtain⟨j,hj,rfl,rfl,rfl⟩:=y;refine U0 1 [6,7,8,18,19,20,21] U<|G.cd (λz=>?_) λz=>?_
 .have g:j<b.length:=by
   have:=aT z;omega
  obtain⟨f,A⟩:∃f,b[j]?=some f:=⟨b[j]'g,aj g⟩;obtain⟨w,Q⟩:∃w,vs[j]?=some w:=⟨vs[j]'om_,aj om_⟩;have S:=aK A;have T:b.getD j []=f:=by rw[al,A];rfl
  have B:=ac j w (f.map qtx) Q (by unfold txs;rw[SI,A];rfl);obtain⟨Aw,cw,rfl,aF,_⟩:=id B;have V:=p.s j;have W:=p.d j;rw[T]at V W;refine Wu λR c=>WG q.m_ U10 om_ (by rw[SI,Q];rfl:(vs.map λw=>[w])[j]?=some [_]) fl_ λaG ao=>Ws ao U8<|C6 1 [6,7,8,10,18,19,20] c U<|U0 3 [6,7,8,10,18,19,20,24,25,26] U ?_;rw[show rfA a b j=rfA a b j+rfP a f 0 from(Rat.add_zero _).symm];refine G.loop (λfr C' v x=>∃(i:Nat),(i<=a.length)/\fr=[(6,[],.slice t a.length u),(7,[],i_ 0),(8,[],ag (qtx (rfA a b j+rfP a f i))),(10,[],.slice Aw ((f.map qtx).map dE).length cw),(18,[],.slice N b.length O),(19,[],i_ (b.length:Nat)),(20,[],i_ j),(24,[],.slice t a.length u),(25,[],i_ (a.length:Nat)),(26,[],i_ i)]/\v=[]/\x=a.length-i) (hn_ [6,7,8,10,18,19,20,24,25,26] U) ⟨0,SM _,U,U,U⟩ (λfr aH aI m _ y=>?_);obtain⟨i,hi,rfl,rfl,rfl⟩:=y;refine U0 1 [6,7,8,10,18,19,20,24,25,26,27] U<|G.cd (λD=>?_) λD=>?_
  .have h:i<a.length:=by
    have:=aT D;omega
   obtain⟨e,E⟩:∃e,a[i]?=some e:=⟨a[i]'h,aj h⟩;have ap:a.getD i (0,0)=e:=by rw[al,E];rfl
   obtain⟨aq,au⟩:e.1<f.length/\e.2<f.length:=by
    have:=an.lt e (aK E);rw[aa f S];omega
   have av:(f.map qtx)[e.1]?=some (qtx (f.getD e.1 0)):=by rw[SI,al,aj aq];rfl
   have aw:(f.map qtx)[e.2]?=some (qtx (f.getD e.2 0)):=by rw[SI,al,aj au];rfl
   have X:Jb a f i=f.getD e.1 0-f.getD e.2 0:=by unfold Jb;rw[ap]
   have Y:∀k,QB 22 (f.getD k 0):=λk=>iL (P:=QB 22) (p.e f S) (QB_zero.le dc_);have F:=W i g h;rw[X]at F;refine Wu λR c=>WG r.m_ U10 om_ (by rw[SI,E];rfl:(a.map rM)[i]?=some (rM e)) fl_ λaJ ax=>Ws ax U8<|WI U5 λaL=>WB (j:=0) U12<|Ww [6,7,8,10,12,18,19,20,24,25,26] c U<|G.freeze 0 U λ_ _ Z=>WM [0,1,2,3,4,5,6,7,8,9,10,11,12,13,14] [(11,1),(12,1),(13,1)] U kr_ λR hB c=>Wv 2 U<|WO (0) U9 k_ U2<|Ws (bkT Z 1) U8<|WG B.m_ U10 om_ (by rw[SI,av];rfl:((f.map qtx).map dE)[e.1]?=some (dE (qtx (f.getD e.1 0)))) fl_ λaM ay=>Ws ay U8<|Wt U6<|WO (1) U9 k_ U2<|Ws (bkT Z 1) U8<|WG B.m_ U10 om_ (by rw[SI,aw];rfl:((f.map qtx).map dE)[e.2]?=some (dE (qtx (f.getD e.2 0)))) fl_ λaN az=>Ws az U8<|WN (λ_=>(ec _ o.m_ (f.getD e.1 0) (f.getD e.2 0) 22 dc_ dc_ (Y _) (Y _))) U9<|WN (λ_=>(OH _ (f.getD e.1 0-f.getD e.2 0) (SV (aV F dc_) dc_))) U9<|WN (λ_=>(fS _ o.m_ (rfA a b j+rfP a f i) (abR (f.getD e.1 0-f.getD e.2 0)) 22 dc_ dc_ (V i g om_) (NH F))) U9<|C6 1 [6,7,8,10,18,19,20,24,25,26] c U<|Wu λR c=>Wz _ U U6<|C6 1 [6,7,8,10,18,19,20,24,25,26] c U ?_;rw[show rfA a b j+rfP a f i+abR (f.getD e.1 0-f.getD e.2 0)=rfA a b j+rfP a f (i+1) by rw[rfP,X,Rat.add_assoc]];refine WF (m':=a.length-(i+1)) om_ mup (hn_ [6,7,8,10,18,19,20,24,25,26] U) ⟨i+1,by omega,U,U,U⟩
  have h:i=a.length:=by
   have:=SJ D;omega
  subst h;refine Wu λR c=>Wz _ U U6<|C6 1 [6,7,8,18,19,20] c U ?_;rw[show rfA a b j+rfP a f a.length=rfA a b (j+1) by rw[rfA,T]];refine WF (m':=b.length-(j+1)) om_ mup (hn_ [6,7,8,18,19,20] U) ⟨j+1,by omega,U,U,U⟩
 have g:j=b.length:=by
  have:=SJ z;omega
 subst g;refine U0 4 [4,5] U<|WE (G.dropAll (WS U3 ?_));exact⟨U,U⟩
theorem GE (p:Nat)(a:Nat->Rat):zT 1 p a=[(List.range p).map a]:=by
 unfold zT;simp only[List.range_one,Tq,Ut,Nat.zero_mul,TU,TX,UU];rw[Td am]
theorem qg (p:Nat)(a:Nat->Rat):eJ 1 p a=txs [(List.range p).map a]:=by
 rw[<- zS,GE];rfl
theorem Hf (a:List (Nat × Nat))(f:List Rat):∀i,rfP a f i=Lp.sumN (λk=>abR (Jb a f k)) i
|0=>rfl
|i+1=>by rw[rfP,Hf a f i];rfl
theorem Oz (a:List (Nat × Nat))(f:List Rat):rfA a [f] 1=rfP a f a.length:=by
 show 0+rfP a f a.length=_;rw[Rat.zero_add]
theorem KM {p:Nat}(h:EdgeOk 1 p es):QX p es pt (1*es.length)=rfA es [(List.range p).map pt] 1:=by
 rw[Oz,Hf,UU];unfold QX;refine Lp.sumN_congr λk b=>?_;have c:edg es k=es.getD k (0,0):=by unfold edg;rw[Vn b]
 have hm:es.getD k (0,0)∈es:=by rw[al,aj b];exact TC b
 obtain⟨h1,h2⟩:=h.lt _ hm;have g:∀a,a<p->((List.range p).map pt).getD a 0=pt a:=λa d=>by
  rw[al,SI,Tl d];rfl
 unfold FF Jb;rw[c,UN b,Nat.zero_mul,TX,TX,g _ om_,g _ h2]
def CmL (k:Nat)(f:List Rat):Prop:=∃d:Int,d≠0/\d.natAbs<B9 ^ k/\∀x∈f,∃z:Int,x*(d:Rat)=z/\z.natAbs<B9 ^ k
theorem P0 {d z:Int}(h:q*(d:Rat)=z):∃y:Int,abR q*(d:Rat)=y/\y.natAbs=z.natAbs:=by
 unfold abR;split
 .exact⟨-z,by rw[Rat.intCast_neg,<- h];grind,by omega⟩
 exact⟨z,h,U⟩
theorem Oi {f:List Rat}(h:CmL 21 f)(s:es.length<=15):RufQ es [f]:=by
 obtain⟨d,t,db,k⟩:=h;have c:∀{q:Rat}{z:Int},q*(d:Rat)=z->z.natAbs<=100*B9 ^ 21->QB 22 q:=fun {q z} e u=>Lp.Quo.qb (K:=100*B9 ^ 21) ⟨z,d,t,e,u,SV (VU db) (Nat.le_mul_of_pos_left _ dc_)⟩ aq;have o:0<B9 ^ 21:=by decide +kernel
 generalize B9 ^ 21=M at db k c o;have p:∀a,∃z:Int,f.getD a 0*(d:Rat)=z/\z.natAbs<M:=λa=>iL (P:=λx=>∃z:Int,x*(d:Rat)=z/\z.natAbs<M) k ⟨0,by rw[Rat.zero_mul];rfl,by simpa using o⟩;have hd:∀i,∃z:Int,Jb es f i*(d:Rat)=z/\z.natAbs<=2*M:=λi=>by
  obtain⟨v,A,G⟩:=p (es.getD i (0,0)).1;obtain⟨B,l,H⟩:=p (es.getD i (0,0)).2;refine⟨v-B, ?_,by omega⟩;unfold Jb;rw[Vc,<- A,<- l];grind
 have hs:∀i,∃z:Int,rfP es f i*(d:Rat)=z/\z.natAbs<=i*(2*M):=by
  intro i;induction i with
 |zero=>exact⟨0,by show(0:Rat)*_=_;rw[Rat.zero_mul];rfl,SM _⟩
 |succ i C =>
   obtain⟨z,e,b⟩:=C;obtain⟨y,ey,I⟩:=hd i;obtain⟨w,D,J⟩:=P0 ey;refine⟨z+w, ?_, ?_⟩
   .show(rfP es f i+abR (Jb es f i))*_=_;rw[VS,<- e,<- D];grind
   rw[Nat.succ_mul];omega
 refine⟨λg E x r=>?_,λj i m _=>?_,λj i m F=>?_⟩
 .rw[S6.1 E]at r;obtain⟨z,e,b⟩:=k x r;exact c e om_
 .have n:j=0:=by simpa using m
  subst n;obtain⟨z,e,b⟩:=hd i;exact c e om_
 have n:j=0:=by simpa using m
 subst n;obtain⟨z,e,b⟩:=hs i;have l:rfA es [f] 0+rfP es (([f]:List (List Rat)).getD 0 []) i=rfP es f i:=by show 0+rfP es f i=_;rw[Rat.zero_add]
 rw[l];have:=To (2*M) (SV F s);exact c e om_
theorem RD (h:Lp.CmD n k pt)(f:m<=n):CmL k ((List.range m).map pt):=by
 obtain⟨d,a,db,b⟩:=h;refine⟨d,a,db,λx c=>?_⟩;obtain⟨j,e,rfl⟩:=SL.1 c;exact b j (by have:=S7.1 e;omega)
theorem RE (h:Lp.CmD n 20 pt)(f:m<=n):Lp.CmD m 21 pt:=by
 obtain⟨d,a,db,c⟩:=h;have g:B9 ^ 20<=B9 ^ 21:=by decide +kernel
 refine⟨d,a,by omega,λj i=>?_⟩;obtain⟨z,e,b⟩:=c j om_;exact⟨z,e,by omega⟩
abbrev rsR (B:Bk)(RO:Nat->List RowQ)(es:List (Nat × Nat)):List (List Rat × Rat):=dS (sD (di B RO) (bs B*bp B) (bp B) es (bs B*es.length))
abbrev obR (B:Bk)(es:List (Nat × Nat)):List Rat:=kI (bs B*bp B) (bs B*es.length)
abbrev nR (B:Bk)(es:List (Nat × Nat)):Nat:=bs B*bp B+bs B*es.length
noncomputable def zN (B:Bk)(RO:Nat->List RowQ)(es:List (Nat × Nat))(ls:List (List Str))(pt:Nat->Rat)(tot:Str)(d:List Str)(ds:List Rat):Int :=
 if nG (bs B) (bp B) ls≠0 then nG (bs B) (bp B) ls else if aS tot=false then 2 else if atB (nB B RO) pt=false then 23 else
 if wn (nR B es) (rsR B RO es) d ds (obR B es)≠0 then wn (nR B es) (rsR B RO es) d ds (obR B es) else
 if Ge (nR B es) (rsR B RO es) d ds (obR B es)=tot/\qtx (rfA es [(List.range (bp B)).map pt] 1)=tot then 0 else 23
def P4 (B:Bk)(ls:List (List Str))(pt:Nat->Rat):Prop:=nG (bs B) (bp B) ls=0->ls=eJ (bs B) (bp B) pt/\Lp.CmD (bs B*bp B) 21 pt/\∀j,QB 22 (pt j)
theorem Ff (C:Mem)(o:Tabs C)(H I w3 w4 w5 J:Value)(l:List Pt)(n:List Tri)(b:List (List Rat))(hm:MeshIn C (.agg ⟨[H,I]⟩) l n)(K:Good l n)(L:FieldsIn C J (txs b))(aa:∀f∈b,f.length=l.length)(hn:b.length<=1000)(a:List (Nat × Nat))(M:EdgL n a)(p:RufQ a b) :
  Gives cx.P 44 [.agg ⟨[H,I,w3,w4,w5]⟩,J] C (ag (qtx (rfA a b b.length))):=by
 have hM:=K.ok;obtain⟨vs,ab,ac,q⟩:=id L;obtain⟨N,O,rfl,ad,_⟩:=id q;have ae:(txs b).length=b.length:=by simp[txs]
 have af:vs.length=b.length:=by rw[ab,ae]
 simp only[ar,af]at q ad L⊢;have aA:=mx_
 refine Wy func44 47 U3 λw0=>Wu λR c=>WH U6 λb2=>C6 1 [1,2] c U<|G.freeze 0 U λ_ _ ah=>U1 1 U λR c=>Ws (bkT ah 2) U8<|WY (pr _ o.m_ _ l n hm.m_ K) U7 (λaB _ _ ai=>?_);obtain⟨aC,ev,rfl,ak,r⟩:=ai;obtain rfl:=M.same ak;obtain⟨t,u,rfl,am,_⟩:=id r;simp only[ar]at r am⊢;have an:=M.ok hM.ins 1;refine C6 5 [1,5] c U<|U0 1 [1,5,7] U<|U0 3 [5,7,18,19,20] U ?_;rw[<- qtx_zero];refine G.loop (λfr C' v x=>∃(j:Nat),(j<=b.length)/\fr=[(5,[],.slice t a.length u),(7,[],ag (qtx (rfA a b j))),(18,[],.slice N b.length O),(19,[],i_ (b.length:Nat)),(20,[],i_ j)]/\v=[]/\x=b.length-j) (hn_ [5,7,18,19,20] U) ⟨0,SM _,U,U,U⟩ (λfr aD aE m _ y=>?_);obtain⟨j,hj,rfl,rfl,rfl⟩:=y;refine U0 1 [5,7,18,19,20,21] U<|G.cd (λz=>?_) λz=>?_
 .have g:j<b.length:=by
   have:=aT z;omega
  obtain⟨f,A⟩:∃f,b[j]?=some f:=⟨b[j]'g,aj g⟩;obtain⟨w,Q⟩:∃w,vs[j]?=some w:=⟨vs[j]'om_,aj om_⟩;have S:=aK A;have T:b.getD j []=f:=by rw[al,A];rfl
  have B:=ac j w (f.map qtx) Q (by unfold txs;rw[SI,A];rfl);obtain⟨Aw,cw,rfl,aF,_⟩:=id B;have V:=p.s j;have W:=p.d j;rw[T]at V W;refine Wu λR c=>WG q.m_ U10 om_ (by rw[SI,Q];rfl:(vs.map λw=>[w])[j]?=some [_]) fl_ λaG ao=>Ws ao U8<|C6 1 [5,7,9,18,19,20] c U<|U0 3 [5,7,9,18,19,20,24,25,26] U ?_;rw[show rfA a b j=rfA a b j+rfP a f 0 from(Rat.add_zero _).symm];refine G.loop (λfr C' v x=>∃(i:Nat),(i<=a.length)/\fr=[(5,[],.slice t a.length u),(7,[],ag (qtx (rfA a b j+rfP a f i))),(9,[],.slice Aw ((f.map qtx).map dE).length cw),(18,[],.slice N b.length O),(19,[],i_ (b.length:Nat)),(20,[],i_ j),(24,[],.slice t a.length u),(25,[],i_ (a.length:Nat)),(26,[],i_ i)]/\v=[]/\x=a.length-i) (hn_ [5,7,9,18,19,20,24,25,26] U) ⟨0,SM _,U,U,U⟩ (λfr aH aI m _ y=>?_);obtain⟨i,hi,rfl,rfl,rfl⟩:=y;refine U0 1 [5,7,9,18,19,20,24,25,26,27] U<|G.cd (λD=>?_) λD=>?_
  .have h:i<a.length:=by
    have:=aT D;omega
   obtain⟨e,E⟩:∃e,a[i]?=some e:=⟨a[i]'h,aj h⟩;have ap:a.getD i (0,0)=e:=by rw[al,E];rfl
   obtain⟨aq,au⟩:e.1<f.length/\e.2<f.length:=by
    have:=an.lt e (aK E);rw[aa f S];omega
   have av:(f.map qtx)[e.1]?=some (qtx (f.getD e.1 0)):=by rw[SI,al,aj aq];rfl
   have aw:(f.map qtx)[e.2]?=some (qtx (f.getD e.2 0)):=by rw[SI,al,aj au];rfl
   have X:Jb a f i=f.getD e.1 0-f.getD e.2 0:=by unfold Jb;rw[ap]
   have Y:∀k,QB 22 (f.getD k 0):=λk=>iL (P:=QB 22) (p.e f S) (QB_zero.le dc_);have F:=W i g h;rw[X]at F;refine Wu λR c=>WG r.m_ U10 om_ (by rw[SI,E];rfl:(a.map rM)[i]?=some (rM e)) fl_ λaJ ax=>Ws ax U8<|WI U5 λaL=>WB (j:=0) U12<|Ww [5,7,9,11,18,19,20,24,25,26] c U<|G.freeze 0 U λ_ _ Z=>WM [0,1,2,3,4,5,6,7,8,9,10,11,12,13,14] [(11,1),(12,1),(13,1)] U kr_ λR hB c=>Wv 2 U<|WO (0) U9 k_ U2<|Ws (bkT Z 1) U8<|WG B.m_ U10 om_ (by rw[SI,av];rfl:((f.map qtx).map dE)[e.1]?=some (dE (qtx (f.getD e.1 0)))) fl_ λaM ay=>Ws ay U8<|Wt U6<|WO (1) U9 k_ U2<|Ws (bkT Z 1) U8<|WG B.m_ U10 om_ (by rw[SI,aw];rfl:((f.map qtx).map dE)[e.2]?=some (dE (qtx (f.getD e.2 0)))) fl_ λaN az=>Ws az U8<|WN (λ_=>(CP _ o.m_ (f.getD e.1 0) (f.getD e.2 0) 22 dc_ dc_ (Y _) (Y _))) U9<|WN (λ_=>(PY _ (f.getD e.1 0-f.getD e.2 0) (SV (aV F dc_) dc_))) U9<|WN (λ_=>(kb _ o.m_ (rfA a b j+rfP a f i) (abR (f.getD e.1 0-f.getD e.2 0)) 22 dc_ dc_ (V i g om_) (NH F))) U9<|C6 1 [5,7,9,18,19,20,24,25,26] c U<|Wu λR c=>Wz _ U U6<|C6 1 [5,7,9,18,19,20,24,25,26] c U ?_;rw[show rfA a b j+rfP a f i+abR (f.getD e.1 0-f.getD e.2 0)=rfA a b j+rfP a f (i+1) by rw[rfP,X,Rat.add_assoc]];refine WF (m':=a.length-(i+1)) om_ mup (hn_ [5,7,9,18,19,20,24,25,26] U) ⟨i+1,by omega,U,U,U⟩
  have h:i=a.length:=by
   have:=SJ D;omega
  subst h;refine Wu λR c=>Wz _ U U6<|C6 1 [5,7,18,19,20] c U ?_;rw[show rfA a b j+rfP a f a.length=rfA a b (j+1) by rw[rfA,T]];refine WF (m':=b.length-(j+1)) om_ mup (hn_ [5,7,18,19,20] U) ⟨j+1,by omega,U,U,U⟩
 have g:j=b.length:=by
  have:=SJ z;omega
 subst g;exact U0 2 [4] U<|Wx U2<|⟨U,U⟩
theorem Ix (C:Mem)(v:Value)(l:List Str)(x:Str)(d:Sl C 1 v (l.map dE))(r:l.length<=1000000) :
  Pur cx.P 157 [v,ag x] C λu _=>∃z:Int,u=i_ z/\decide (0<=z)=decide (x∈l):=by
 obtain⟨A,c,rfl,_⟩:=id d;simp only[ar]at d⊢;refine Wy func157 19 U3 λw0=>U0 1 [0,1] U<|U0 3 [0,1,7,8] U<|G.loop (λfr s n o=>∃(k:Nat),(k<=l.length/\∀y∈l.take k,x≠y)/\fr=[(0,[],.slice A l.length c),(1,[],ag x),(7,[],i_ l.length),(8,[],i_ k)]/\n=[]/\o=l.length-k) (hn_ [0,1,7,8] U) ⟨0,⟨SM _,λy hy=>by simp at hy⟩,U,U,U⟩ (λfr t w m _ p=>?_);obtain⟨k,⟨B,e⟩,rfl,rfl,rfl⟩:=p;refine U0 1 [0,1,7,8,9] U<|G.cd (λf=>?_) λf=>?_
 .have a:k<l.length:=by
   have:=aT f;omega
  refine U0 2 [0,1,5,7,8] U<|U1 3 U λR g=>WG d.m_ U10 om_ (by rw[SI,aj a];rfl:(l.map dE)[k]?=some (dE l[k])) fl_ λD q=>Ws q U8<|C6 1 [0,1,5,7,8,16] g U<|G.cd (λi=>?_) λi=>?_
  .have j:x=l[k]:=by simpa using i
   exact U0 2 [4] U<|Wx U2<|⟨U,_,U,by rw[S4 (by omega:(0:Int)<=(k:Int)),S4 (by rw[j];exact TC a)]⟩
  have j:¬ x=l[k]:=by simpa using i
  refine Wu λR g=>Wz _ U U6<|C6 1 [0,1,7,8] g U<|WF (m':=l.length-(k+1)) om_ mup (hn_ [0,1,7,8] U) ⟨k+1,⟨by omega,λy hy=>by
   rw[List.take_succ_eq_append_getElem a]at hy;rcases SZ.1 hy with b|b
   .exact e y b
   simp only[S6]at b;subst b;exact j⟩,U,U,U⟩
 have a:k=l.length:=by
  have:=SJ f;omega
 subst a;rw[SU]at e;exact U0 1 [4] U<|Wx U2<|⟨U,_,U,by rw[Te (by decide:¬ (0:Int)<=-1),Te (λh=>e x h U)]⟩
theorem oM (C:Mem)(v:Value)(l:List Str)(x:Str)(a:Sl C 1 v (l.map dE))(b:l.length<=1000000):Gives cx.P 98 [v,ag x] C (.bool (decide (x∈l))):=by
 refine Wy func98 9 U3 λw0=>U0 1 [0,1] U<|U1 2 U λR c=>WY (Ix _ _ l x a.m_ b) U7 (λf _ _ d=>?_);obtain⟨z,rfl,e⟩:=d;exact C6 2 [4] c U<|Wx U2<|⟨by rw[<- e],U⟩
def rO (us:List Str)(o:Obs):Bool:=!decide (o.upper∈us) || (decide (o.lower≠[]) && !decide (o.lower∈us))
theorem GR (C:Mem)(o:Obs)(a:List Str)(h:Value)(i:Nat)(b:Sl C 1 h (a.map dE))(j:a.length<=1000)(d:C i=some (.cells ⟨[h]⟩ 181 (0,0))) :
  Gives cx.P 97 [.agg ⟨gD o⟩,p_ i] C (.bool (rO a o)):=by
 obtain⟨A,c,rfl,_⟩:=id b;simp only[ar]at b d⊢;refine Wy func97 21 U3 λw0=>Wu λR f=>WH U6 λk=>C6 1 [1,2] f U<|G.freeze 0 U λ_ _ g=>Wu λR f=>Ws (bkT d 1) U8<|Wt U6<|Ws (bkT g 1) U8<|WC (oM _ _ a o.upper b.m_ om_) U7 fl_<|Wv 3 U<|WU U6 (λ_=>PtrTo.blockT (Mem.get g mup) _ 1) U3<|Wv 2 U<|WU U6 (λ_=>PtrTo.blockT (Mem.get d mup) _ 1) U3<|Wt U6<|WU U6 (λ_=>PtrTo.blockT (Mem.get g mup) _ 1) U3<|WN (λ_=>(oM _ _ a o.lower b.m_ om_)) U9<|Wt U6<|WR U8<|WX U8<|C6 1 [3] f U<|Wx U2<|⟨?_,U⟩;unfold rO;have e:decide (o.lower≠[])=!List.isEmpty o.lower:=by cases o.lower <;> simp
 rw[e];simp
def usS:List Str:=[[65],[66]]
def colS:List Lay:=[⟨[65],0,none⟩,⟨[66],0,some 5⟩]
def yA (S:Sht)(l:List Sgt):List Nat:=(List.range (min l.length 6)).filter λi=>!rO usS (eW S (l.getD i nS) i)
def fF (S:Sht)(H:Hts)(l:List Sgt):Bk:=⟨cI (S.kd % 8) S.a S.b S.h,shT (S.kd % 8),(fsK (cI (S.kd % 8) S.a S.b S.h).length H).map qtx,colS,(yA S l).map λi=>eW S (l.getD i nS) i⟩
noncomputable def roS (S:Sht)(H:Hts)(l:List Sgt)(j:Nat):List RowQ:=rowsO (fF S H l) (eW S (l.getD ((yA S l).getD j 0) nS) ((yA S l).getD j 0)) (mj S (l.getD ((yA S l).getD j 0) nS)) (tK S (l.getD ((yA S l).getD j 0) nS)) (zK S H (l.getD ((yA S l).getD j 0) nS))
theorem JA (S:Sht)(H:Hts)(l:List Sgt):(fF S H l).obs=(su S l).filter λo=>!rO usS o:=by
 show(yA S l).map _=_;unfold su yA;rw[List.filter_map];rfl
theorem Pf {i:Nat}(h:(yA S l)[j]?=some i):i<6/\∃s,l[i]?=some s/\l.getD i nS=s/\rO usS (eW S s i)=false:=by
 obtain⟨h1,h2⟩:=Uf.1 (aK h);have h3:=S7.1 h1;obtain⟨s,hs⟩:∃s,l[i]?=some s:=⟨_,aj om_⟩;have e:l.getD i nS=s:=by rw[al,hs];rfl
 rw[e]at h2;exact⟨by omega,s,hs,e,by simpa using h2⟩
theorem nn {H:Hts}(h:(fF S H l).obs[j]?=some o):∃i s,(yA S l)[j]?=some i/\i<6/\l[i]?=some s/\l.getD i nS=s/\rO usS (eW S s i)=false/\o=eW S s i:=by
 have h0:((yA S l).map λi=>eW S (l.getD i nS) i)[j]?=some o:=h;rw[SI]at h0;cases e:(yA S l)[j]? with
|none=>rw[e]at h0;cases h0
|some i =>
  rw[e]at h0;obtain⟨a,s,b,c,d⟩:=Pf e;refine⟨i,s,U,a,b,c,d, ?_⟩;rw[<- c];exact(Ue h0).symm
theorem Ir (h:rO usS o=false):o.upper∈usS/\(o.lower≠[]->o.lower∈usS):=by
 unfold rO at h;simp only[Up,V7,Bool.not_eq_false',SS,Tk]at h;obtain⟨h1,h2⟩:=h;exact⟨h1,λh3=>h2.resolve_left λh4=>h4 h3⟩
theorem Gt:∀u∈usS,ic (isU u) colS 0=ic (isU u) colK 0/\0<=ic (isU u) colS 0:=by decide +kernel
theorem E5 {b:List Pt}{c:List Tri}(f:rO usS o=false)(g:o.kind≠1->o.lower≠[])(h:gm b c colK o=0):gm b c colS o=0:=by
 obtain⟨h1,h2⟩:=Ir f;have d:=(Gt _ h1).1;have e:o.kind≠1->ic (isU o.lower) colS 0=ic (isU o.lower) colK 0:=λa=>(Gt _ (h2 (g a))).1;have u:Gw colS o=Gw colK o:=by
  unfold Gw;rw[d];by_cases a:o.kind=1
  .rw[a];rfl
  rw[e a]
 have w:ordB colS o=ordB colK o:=by
  unfold ordB;rw[d];by_cases a:o.kind=1
  .rw[a];rfl
  rw[e a]
 unfold gm at h⊢;rw[u,w];exact h
theorem Ld (S:Sht)(s:Sgt)(i:Nat):(eW S s i).kind≠1->(eW S s i).lower≠[]:=by
 unfold eW;split
 .intro h;exact absurd rfl h
 split <;> (intro _;simp[sw])
theorem Pe (S:Sht)(l:List Sgt):(yA S l).Nodup:=List.nodup_range.filter _
theorem LC (S:Sht)(l:List Sgt):(yA S l).length<=6:=by
 have h:=Ul (λi=>!rO usS (eW S (l.getD i nS) i)) (List.range (min l.length 6));rw[TO]at h;exact SV h (Nat.min_le_right _ _)
theorem zq (S:Sht)(H:Hts)(l:List Sgt):(fF S H l).obs.length<=6:=by
 show((yA S l).map _).length<=6;rw[ar];exact LC S l
theorem FS (S:Sht)(H:Hts)(l:List Sgt)(d:∀s∈l,SgtR s):iX (fF S H l)=0:=by
 have f:∀n,n<=(fF S H l).obs.length->wE (fF S H l) n=0:=by
  intro n;induction n with
 |zero=>intro _;rfl
 |succ n g =>
   intro j;have h0:=g om_;have a:(fF S H l).obs[n]?=some (fF S H l).obs[n]:=aj j;rw[vg h0 a];obtain⟨i,s,m,b,p,_,r,t⟩:=nn a;rw[t];have hp:=uX S s (d s (aK p));unfold obZ;rw[aF (by
    have:=E5 r (Ld S s i) (Lc S s i b hp.1 hp.2);intro h;exact h this),aF]
   intro hm;obtain⟨o,u,c⟩:=SL.1 hm;obtain⟨k,D,v⟩:=List.mem_take_iff_getElem.1 u;have w:(fF S H l).obs[k]?=some o:=by rw[<- v];exact aj _
   obtain⟨E,F,x,y,_,_,_,z⟩:=nn w;rw[z,yo,yo]at c;have e:=Rh y b c;subst e;have A:=(R0.1 x);have B:=(R0.1 m);have:=(List.getElem_inj (Pe S l)).1 (A.2.trans B.2.symm);omega
 unfold iX;have G:=zq S H l;have h1:oK (fF S H l).pts.length (fF S H l).terr=0:=by
  unfold oK;rw[aL (by show((fsK _ H).map qtx).length=_;rw[ar,vH];rfl)];show ot (((fsK _ H).map qtx).all aS)=0;rw[zw (λq C=>ok1 (IS _ H q C))];rfl
 have h2:sN (fF S H l).col=0:=by
  show sN colS=0;decide +kernel
 rw[aF (by rw[h1];decide),aF (by rw[h2];decide),aF om_];exact f _ (SH _)
theorem NB:∀x∈colS,x∈colK:=λx a=>by
 simp only[colS,colK,SY,TQ,Vf]at a⊢;rcases a with h|h
 .exact .inl h
 exact .inr (.inl h)
theorem PU (S:Sht)(H:Hts)(l:List Sgt)(a:∀s∈l,SgtR s):BookR (fF S H l):=by
 refine⟨(PV S H l a).terr,λx b=>RC x (NB x b),(by show colS.length<=1000000;decide),λo c=>?_⟩;obtain⟨j,d⟩:=List.mem_iff_getElem?.1 c;obtain⟨i,s,_,_,e,_,_,rfl⟩:=nn d;exact Rf S s i (a s (aK e))
theorem FT (S:Sht)(H:Hts)(l:List Sgt)(c:∀s∈l,SgtR s):Rich (fF S H l) (fsK (cI (S.kd % 8) S.a S.b S.h).length H) (roS S H l):=by
 refine⟨(gW (S.kd % 8) (Ts _ dc_) S.a S.b S.h).1,PU S H l c,FS S H l c,⟨U,vH _ _,λq d=>(IS _ H q d).le dc_⟩, ?_, ?_⟩
 .have h:(cI (S.kd % 8) S.a S.b S.h).length<=6:=iy _ _ _ _;show 1*(cI (S.kd % 8) S.a S.b S.h).length<=60;omega
 intro j o f;obtain⟨i,s,g,_,k,e,m,rfl⟩:=nn f;refine⟨_,_,_,_,Sy S H _ s i (c s (aK k)) U U (Gt _ (Ir m).1).2, ?_⟩;have n:(yA S l).getD j 0=i:=by rw[al,g];rfl
 unfold roS;rw[n,e]
theorem uk (S:Sht)(H:Hts)(l:List Sgt)(c:∀s∈l,SgtR s):Calm (fF S H l) (fsK (cI (S.kd % 8) S.a S.b S.h).length H) (roS S H l):=by
 have n:=iy (S.kd % 8) S.a S.b S.h;have o:=zq S H l;refine⟨FT S H l c, ?_,Cp (λx d=>SC x (NB x d)) _,λj f=>?_, ?_,λj _=>?_,by omega⟩
 .show 1*(cI (S.kd % 8) S.a S.b S.h).length<=12;omega
 .obtain⟨i,s,g,_,k,e,_,_⟩:=nn (aj f);have m:(yA S l).getD j 0=i:=by rw[al,g];rfl
  unfold roS;rw[m,e];exact Om S H _ s i (c s (aK k)) U
 .show([]:List RowQ).length<=24;decide
 refine EV ?_;unfold cT xj;refine SV (Ul _ _) ?_;rw[TO];show 1<=2;decide
theorem N4 (b:∀r,QB 20 (du r))(c:∀r,0<=du r):xk rs.length ((duL rs du).map qtx) (duL rs du)=0:=by
 have d:ep rs.length ((duL rs du).map qtx)=0:=fJ.2 ⟨by rw[ar,I2],ow λx a=>by
  obtain⟨k,_,rfl⟩:=SL.1 a;exact(b k).le dc_⟩
 have e:(duL rs du).any (λq=>decide (q<0))=false:=List.any_eq_false.2 λx a=>by
  obtain⟨k,_,rfl⟩:=SL.1 a;have:=c k;simp only[SS];grind
 unfold xk;rw[aF (λh=>h d),e];rfl
theorem PT {c:List Rat}(h:Lp.OptR (bQ n rs) (λj=>c.getD j 0) 20 v pt du):wn n rs ((duL rs du).map qtx) (duL rs du) c=0/\Ge n rs ((duL rs du).map qtx) (duL rs du) c=qtx v:=by
 have hs:=N4 (rs:=rs) h.qd h.pos;have i:R2 n rs (duL rs du) c:=λj l=>by
  have e:wH rs (duL rs du) j rs.length=Lp.sumN (λr=>du r*(bQ n rs).a r j) rs.length:=Lp.sumN_congr λk d=>by rw[Nt d];rfl
  have f:Lp.sumN (λr=>du r*(bQ n rs).a r j) rs.length=-c.getD j 0:=h.fac j l;rw[e,f];grind
 have e:-BE rs (duL rs du) rs.length=v:=by
  have m:BE rs (duL rs du) rs.length=Lp.sumN (λr=>du r*(bQ n rs).b r) rs.length:=Lp.sumN_congr λk d=>by rw[Nt d];rfl
  have f:Lp.sumN (λr=>du r*(bQ n rs).b r) rs.length=-v:=h.bnd;rw[m,f];grind
 have g:wn n rs ((duL rs du).map qtx) (duL rs du) c=0:=by
  unfold wn;rw[aF (λh2=>h2 hs),aF (λh2=>h2 i),e,aL (bA (h.qv.le dc_))]
 exact⟨g,by unfold Ge;rw[aL g,e]⟩
theorem NV {B:Bk}{f:List Rat}{a:Nat->List RowQ}(h:Calm B f a)(g:bs B=1)(c:EdgeOk (bs B) (bp B) es)(b:Lp.OptR (GC B a es) (Qg B es) 20 v pt du) :
  zN B a es (eJ (bs B) (bp B) pt) pt (qtx v) ((duL (rsR B a es) du).map qtx) (duL (rsR B a es) du)=0/\atB (nB B a) pt=true/\qtx (rfA es [(List.range (bp B)).map pt] 1)=qtx v/\P4 B (eJ (bs B) (bp B) pt) pt:=by
 obtain⟨h1,h2⟩:=Oq c h.rl b;obtain⟨i,k⟩:=PT b;have d:∀j,QB 22 (pt j):=λj=>(b.qp j).le dc_;have e:=BG.2 h1;have hr:v=rfA es [(List.range (bp B)).map pt] 1:=by
  rw[h2];rw[g]at c⊢;exact KM c
 refine⟨?_,e,by rw[<- hr],λ_=>⟨U,RE b.cd (Nat.le_add_right _ _),d⟩⟩;have l:aS (qtx v)=true:=bA (b.qv.le dc_);have m:¬ atB (nB B a) pt=false:=by rw[show atB (nB B a) pt=true from e];decide
 unfold zN;rw[aF (λh=>h (Cy d)),aF (by rw[l];decide),aF m,aF (λh=>h i),aL ⟨k,by rw[<- hr]⟩]
end Go.Proofs.YtfjcldheldflbaaGreatDoor
