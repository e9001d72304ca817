import Derived.Test.YtfjcldheldflbaaGreatDoorG14
set_option maxHeartbeats 4000000
namespace Go.Proofs.YtfjcldheldflbaaGreatDoor
open Go.Proofs.Tryz
open Go Go.Jog
set_option maxRecDepth 100000
variable {B:Bk}{C:Mem}{i n p:Nat}{ps:List Rat}{pt:Nat->Rat}{rows:List RowQ}{s:Nat}{u v:Value}
def RowsIn6 (D:Mem)(v:Value)(rows:List RowQ):Prop:=∃vs,RowsOk D vs rows/\Sl D 2 v (aB vs rows)
theorem RowsIn6.mono {C D:Mem}{v:Value}{a:List RowQ}(h:RowsIn6 C v a)(b:C.le D):RowsIn6 D v a:=by
 obtain⟨vs,h1,h2⟩:=h;exact⟨vs,RowsOk.mono h1 b,h2.mono b⟩
theorem RowsIn6.m_ {D:Mem}(h:RowsIn6 C v rows)(a:C.le D:=by exact mup):RowsIn6 D v rows:=RowsIn6.mono h a
abbrev sL6 (A:Option Addr)(n c:Nat):Value:=.slice A n c
theorem ru (C:Mem)(M:Tabs C)(d:Value)(B:Bk)(A:List Rat)(c:Nat->List RowQ)(e:BookIn C d B)(h:Calm B A c) :
  Pur cx.P 13 [d] C λu D=>∃v,u=.tuple #[v,.bool true]/\RowsIn6 D v (di B c):=by
 have ai:=e;have N:=h.cnt (cK B.obs.length);have ak:=h.ob;obtain⟨l,g⟩:∃l,bV (bM B) c (List.range B.obs.length)=l:=⟨_,rfl⟩;have F:di B c=l.map SrcQ.r:=by rw[<- Hb,g]
 have al:l.length<=120:=by
  have:=N;rw[show oT B c (List.range B.obs.length)=di B c from rfl,F,ar]at this;exact this
 have O:∀D:Mem,C.le D->Pur cx.P 54 [d] D λu E=>∃v,u=.tuple #[v,i_ 0]/\Ei E v l:=λD H=>by
  have:=NG D (M.mono H) d B A c (e.mono H) h.rich om_ (by rw[g];omega);rw[g]at this;exact this
 rw[F];obtain⟨v1,v2,tv,cv,ov,rfl,h1,h2,h3,h4,h5⟩:=id e.ex;have am:=mx_
 refine Wy func13 29 U3 λw0=>Wu λR a=>WH U6 λb1=>C6 2 [1] a U<|G.freeze 0 U λ_ _ Q=>Wu λR a=>Ws (bkT Q 5) U8<|WY (O _ mup) U7 (λan _ _ S=>?_);obtain⟨wv,rfl,T⟩:=S;obtain⟨vs,k,n⟩:=T;have o:=jV k;obtain⟨V,W,rfl,X,ao,_⟩:=id n;have Y:(bZ vs l).length=l.length:=by unfold bZ;simp[o]
 rw[Y]at n X⊢;refine C6 5 [4,5] a U<|U0 1 [4,5,6] U<|U0 3 [5,6,14,15,16] U<|G.nilArr 140 2<|G.loop (λfr C' I Z=>∃(i:Nat)(p:Option Addr)(n1 q:Nat),(i<=l.length)/\fr=[(5,[],i_ 0),(6,[],.slice p n1 q),(14,[],.slice V l.length W),(15,[],i_ l.length),(16,[],i_ i)]/\I=[.arr (sL6 p n1 q) 140 2 i (prC (vs.take i) (l.take i)).flatten]/\Z=l.length-i) (hn_ [5,6,14,15,16] U) ⟨0,none,0,0,SM _,U,U,U⟩ (λfr ap aq m _ hI=>?_);obtain⟨i,p,n1,q,hi,rfl,rfl,rfl⟩:=hI;refine U0 1 [5,6,14,15,16,17] U<|G.cd (λt=>?_) λt=>?_
 .have x:i<l.length:=by
   have:=aT t;omega
  obtain⟨s,y⟩:∃s,l[i]?=some s:=⟨l[i],aj x⟩;obtain⟨w,z⟩:∃w,vs[i]?=some w:=⟨vs[i]'om_,aj om_⟩;have aa:=k.2 i w s.r z (by rw[SI,y];rfl);obtain⟨Ax,ab,rfl,_⟩:=id aa;have ac:=De o z y;refine Wu λR a=>WG n.m_ U10 om_ (MT z y) fl_ λau ad=>Ws ad U8<|WI U5 λb8=>WB (j:=0) U12<|Ww [5,6,8,14,15,16] a U<|G.freeze 0 U λ_ _ ae=>U1 2 U λR a=>Ws (bkT ae 2) U8<|WP [[.slice Ax (s.r.f.map dH).length ab,ag (qtx s.r.b)]] U12 λav _ _ af=>W0 (j:=0) U11 af.m_ U ay (by show(i+1)*40<=_;omega) fl_ λJ K L=>C6 1 [5,6,14,15,16] a U<|Wu λR a=>Wz _ U U6<|C6 1 [5,6,14,15,16] a U<|WK (L':=[.arr (sL6 J K L) 140 2 (i+1) (prC (vs.take (i+1)) (l.take (i+1))).flatten]) (by rw[ac,Ta];rfl)<|WF (m':=l.length-(i+1)) om_ mup (hn_ [5,6,14,15,16] U) ⟨i+1,J,K,L,om_,U,U,U⟩
 have x:i=l.length:=by
  have:=SJ t;omega
 subst x;refine U0 5 [2,3] U ?_;rw[Td (show vs.length<=l.length by omega),SU];refine G.freezeArr 0 (prC vs l) U U (OQ _ _) (by rw[prC,bI (by simp[o]),ar]) λCf aw ah=>WE (G.dropAll (WS U3 ?_));exact⟨U,_,U,vs,RowsOk.mono k mup,ah⟩
theorem yY (C:Mem)(b:Value)(B:Bk)(d:BookIn C b B)(g:bs B+1=B.col.length)(h:bs B*bp B<=1000):Gives cx.P 17 [b] C (i_ (bs B*bp B:Nat)):=by
 obtain⟨i,j,k,l,m,rfl,h1,h2,h3,h4,h5⟩:=id d.ex;obtain⟨n,o,rfl,e,_⟩:=id h1;obtain⟨p,q,rfl,f,_⟩:=id h4;have r:=mx_
 simp only[ar]at e f⊢;exact Wy func17 12 U3 λw0=>Wu λR a=>WH U6 λs=>C6 1 [1] a U<|G.freeze 0 U λ_ _ c=>U1 1 U λR a=>Ws (bkT c 1) U8<|Wt U6<|WW (((bs B:Nat):Int)) U4 om_ om_ om_ U2<|Wv 2 U<|Ws (bkT c 1) U8<|Wt U6<|Wz (((bs B*bp B:Nat):Int)) (Tc _ _) U6<|C6 1 [2] a U<|Wx U2<|⟨U,U⟩
theorem LJ (C:Mem)(n:Nat)(j:n<=1000000):Jog.Fn cx.P 151 [.slice none 0 0,i_ n] C [] λu _ h=>∃A n2 c,u=.slice A n2 c/\h=[.arr u 32 1 0 []]:=by
 have k:=mx_
 refine Wy func151 27 U3 λw0=>U0 1 [0,1] U<|U0 2 [0,1,6] U<|G.cd (λd=>?_) λd=>?_
 .simp at d;omega
 refine U1 2 U λR a=>XK U9<|Wv 2 U<|Wz _ U U6<|Wz _ U U6<|C6 1 [0,1] a U<|U0 2 [0,1,16] U<|G.cd (λf=>?_) λf=>?_
 .have i:0<n:=by
   simp at f;omega
  refine U1 2 U λR a=>XK U9<|Xd 0 0 0 U12 (λ_=>⟨.inl ⟨U,U⟩,.inr ⟨_,U⟩,.inl ⟨U,U⟩,SH _,SH _,SH _⟩) U2<|Wt U6<|Yc (m:=n) U12 i (by show n*16<=_;omega) y_ fl_ λb g l=>Wv 2 U<|Xd 0 0 g U12 (λ_=>⟨.inl ⟨U,U⟩,.inr ⟨_,U⟩,.inl ⟨U,U⟩,SH _,SM _,SH _⟩) U2<|C6 1 [0] a U<|U0 2 [4] U<|Yp 0 0 U (SM _)<|WE (W6 U U ?_);refine⟨_,_,_,U, ?_⟩;have e:(if g=0 then some (⟨b,0,none⟩:Addr) else (some (⟨b,0,none⟩:Addr)).map (·.add (0*1)))=some ⟨b,0,none⟩:=by
   split
   .rfl
   simp[Addr.add_lit]
  rw[e];simp
 refine U0 2 [4] U<|G.nilArr 32 1<|WE (W6 U U ?_);exact⟨none,0,0,U,U⟩
theorem FK (C:Mem)(v:Value)(a:List (Value × List Rat))(h:Sl C 1 v (a.map yP))(B:∀x∈a,Sl C 1 x.1 (x.2.map aP))(K:(gR a).length<=1000000) :
  Jog.Fn cx.P 85 [v] C [] λu _ e=>∃A n2 c,u=.slice A n2 c/\e=[.arr u 32 1 (gR a).length ((gR a).map aP).flatten]:=by
 obtain⟨p,c0,rfl,L,Z,_⟩:=id h;have aa:=mx_
 simp only[ar]at h L⊢;refine Wy func85 36 U3 λw0=>U0 1 [0] U<|U0 1 [0,3] U<|U0 3 [0,3,9,10,11] U<|G.loop (λfr M e q=>∃(i:Nat)(z:Int),(i<=a.length/\z=(gR (a.take i)).length)/\fr=[(0,[],.slice p a.length c0),(3,[],i_ z),(9,[],.slice p a.length c0),(10,[],i_ a.length),(11,[],i_ i)]/\e=[]/\q=a.length-i) (hn_ [0,3,9,10,11] U) ⟨0,0,⟨SM _,U⟩,U,U,U⟩ (λfr ab ac m _ r=>?_);obtain⟨i,z,⟨hi,s⟩,rfl,rfl,rfl⟩:=r;refine U0 1 [0,3,9,10,11,12] U<|G.cd (λt=>?_) λt=>?_
 .have f:i<a.length:=by
   have:=aT t;omega
  obtain⟨x,d⟩:∃x,a[i]?=some x:=⟨a[i],aj f⟩;have g:=B x (aK d);obtain⟨w,l⟩:=x;simp only at g;obtain⟨Ax,ad,rfl,N,ae,_⟩:=id g;simp only[ar]at g N d;have k:=nk d;have E:=wi a (i+1);have O:(gR (a.take (i+1))).length=(gR (a.take i)).length+l.length:=by rw[k,SP]
  refine Wu λR b=>WG h.m_ U10 om_ (show(a.map yP)[i]?=some [_] from dL d) fl_ λaf Q=>Ws Q U8<|C6 1 [0,3,5,9,10,11] b U<|U1 3 U λR b=>Wz _ U U6<|C6 1 [0,3,9,10,11] b U<|U0 2 [0,3,9,10,11,20] U<|G.cd (λF=>?_) λF=>?_
  .exfalso;have ah:=aT F;omega
  refine Wu λR b=>Wz _ U U6<|C6 1 [0,3,9,10,11] b U<|WF (m':=a.length-(i+1)) om_ mup (hn_ [0,3,9,10,11] U) ⟨i+1,_,⟨by omega,by rw[s];omega⟩,U,U,U⟩
 have f:i=a.length:=by
  have:=SJ t;omega
 rw[f,SU]at s;subst s;refine WQ [(1,3)] U λR b=>Wt U6<|D.call (LJ _ (gR a).length K) U (.inr dc_) U6 (SQ _) fl_ (λai _ ak _ S=>?_);obtain⟨T,V,W,rfl,rfl⟩:=S;refine C6 1 [0,6] b U<|U0 3 [6,25,26,27] U<|G.loop (λfr M e q=>∃(i:Nat)(n:Option Addr)(n1 o:Nat),(i<=a.length)/\fr=[(6,[],.slice n n1 o),(25,[],.slice p a.length c0),(26,[],i_ a.length),(27,[],i_ i)]/\e=[.arr (.slice n n1 o) 32 1 (gR (a.take i)).length ((gR (a.take i)).map aP).flatten]/\q=a.length-i) (hn_ [6,25,26,27] U) ⟨0,T,V,W,SM _,U,U,U⟩ (λfr al am m E r=>?_);obtain⟨i,n,n1,o,an,rfl,rfl,rfl⟩:=r;refine U0 1 [6,25,26,27,28] U<|G.cd (λy=>?_) λy=>?_
 .have f:i<a.length:=by
   have:=aT y;omega
  obtain⟨x,d⟩:∃x,a[i]?=some x:=⟨a[i],aj f⟩;have g:=B x (aK d);have k:=nk d;have E:=wi a (i+1);have O:(gR (a.take (i+1))).length=(gR (a.take i)).length+x.2.length:=by rw[k,SP]
  refine Wu λR b=>WG h.m_ U10 om_ (show(a.map yP)[i]?=some [x.1] from dL d) fl_ λao X=>Ws X U8<|C6 1 [6,8,25,26,27] b U<|U1 2 U λR b=>W0 (j:=0) U11 g.m_ (by simp[aP,kS,ag]) (by simp only[ar,maxLen];omega) (by show((gR (a.take i)).length+(x.2.map aP).length)*16<=_;rw[ar];omega) fl_ λH I J=>C6 1 [6,25,26,27] b U<|Wu λR b=>Wz _ U U6<|C6 1 [6,25,26,27] b U<|WK (L':=[.arr (.slice H I J) 32 1 (gR (a.take (i+1))).length ((gR (a.take (i+1))).map aP).flatten]) (by rw[k,Tm,Ta,SP,ar];rfl)<|WF (m':=a.length-(i+1)) om_ mup (hn_ [6,25,26,27] U) ⟨i+1,H,I,J,om_,U,U,U⟩
 have Y:i=a.length:=by
  have:=SJ y;omega
 refine U0 2 [2] U<|WE (W6 U U ?_);exact⟨n,n1,o,U,by rw[Y,SU]⟩
theorem AD (C:Mem)(g:Tabs C)(v:Value)(l:List Str)(a:Sl C 1 v (l.map kL))(t:l.length<=100000)(h:∀s∈l,s.length<=999998)(j:∀s∈l,aS s=true):Gives cx.P 86 [v] C (.bool true):=by
 obtain⟨k,c0,rfl,_⟩:=id a;simp only[ar]at a⊢;refine Wy func86 16 U3 λw0=>U0 1 [0] U<|U0 1 [0,3] U<|G.loop (λfr u n o=>∃(i:Nat),(i<=l.length)/\fr=[(0,[],.slice k l.length c0),(3,[],i_ i)]/\n=[]/\o=l.length-i) (hn_ [0,3] U) ⟨0,SM _,U,U,U⟩ (λfr w x m _ p=>?_);obtain⟨i,y,rfl,rfl,rfl⟩:=p;refine U0 4 [0,3,7] U<|G.cd (λd=>?_) λd=>?_
 .have q:i<l.length:=by
   have:=aT d;omega
  obtain⟨s,e⟩:∃s,l[i]?=some s:=⟨l[i],aj q⟩;have f:=aK e;refine U1 2 U λR b=>WG a.m_ U10 om_ (by rw[SI,e];rfl:(l.map kL)[i]?=some (kL s)) fl_ λz r=>Ws r U8<|WD (xM _ g.m_ s (h s f)) U7<|C6 1 [0,3,15] b U<|G.cd (λc=>?_) λc=>?_
  .rw[j s f]at c;exact absurd c dc_
  refine U1 1 U λR b=>Wz _ U U6<|C6 1 [0,3] b U<|WF (m':=l.length-(i+1)) om_ mup (hn_ [0,3] U) ⟨i+1,om_,U,U,U⟩
 exact U0 1 [2] U<|Wx U2<|⟨U,U⟩
theorem Lx (C:Mem)(h:Tabs C)(j k:Value)(a b:List Rat)(d:Sl C 1 j (a.map aP))(e:Sl C 1 k (b.map aP))(B:b.length=a.length)(D:a.length<=1000)(l:∀x∈a,QB 1 x)(n:∀x∈b,QB 22 x)(p:∀i,i<=a.length->QB 40 (lH a b i)) :
  Gives cx.P 89 [j,k] C (ag (qtx (lH a b a.length))):=by
 obtain⟨q,r,rfl,_⟩:=id d;obtain⟨A2,c2,rfl,_⟩:=id e;simp only[ar]at d e⊢;refine Wy func89 25 U3 λw0=>U0 1 [0,1] U<|U0 1 [0,1,5] U<|U0 1 [0,1,5,6] U ?_;have s:Value.string ⟨#[48]⟩=ag (qtx (lH a b 0)):=by
  show _=ag (qtx 0);rw[qtx_zero];rfl
 rw[s];refine G.loop (λfr E t u=>∃(i:Nat),(i<=a.length)/\fr=[(0,[],.slice q a.length r),(1,[],.slice A2 b.length c2),(5,[],ag (qtx (lH a b i))),(6,[],i_ i)]/\t=[]/\u=a.length-i) (hn_ [0,1,5,6] U) ⟨0,SM _,U,U,U⟩ (λfr F H m _ v=>?_);obtain⟨i,I,rfl,rfl,rfl⟩:=v;refine U0 4 [0,1,5,6,10] U<|G.cd (λf=>?_) λf=>?_
 .have o:i<a.length:=by
   have:=aT f;omega
  obtain⟨x,c⟩:∃x,a[i]?=some x:=⟨a[i]'om_,aj om_⟩;obtain⟨y,hy⟩:∃y,b[i]?=some y:=⟨b[i]'om_,aj om_⟩;have w:=yQ c hy;refine WM [0,1,2,3,4,5,6,7,8,9,10,11] [(9,1),(10,1)] U kr_ λR J g=>Wv 3 U<|WG d.m_ U10 om_ (by rw[SI,c];rfl:(a.map aP)[i]?=some (aP x)) fl_ λK z=>Ws z U8<|Wv 2 U<|WG e.m_ U10 om_ (by rw[SI,hy];rfl:(b.map aP)[i]?=some (aP y)) fl_ λL A=>Ws A U8<|WN (λ_=>(KL _ h.m_ x y 22 dc_ dc_ ((l x (aK c)).le dc_) (n y (aK hy)))) U9<|WN (λ_=>(kb _ h.m_ (lH a b i) (x*y) 40 dc_ dc_ (p i om_) ((fU (l x (aK c)) (n y (aK hy))).le dc_))) U9<|C6 1 [0,1,5,6] g U<|U1 1 U λR g=>Wz _ U U6<|C6 1 [0,1,5,6] g U ?_;rw[<- w];refine WF (m':=a.length-(i+1)) om_ mup (hn_ [0,1,5,6] U) ⟨i+1,om_,U,U,U⟩
 have o:i=a.length:=by
  have:=SJ f;omega
 subst o;exact U0 2 [4] U<|Wx U2<|⟨U,U⟩
def zT (s p:Nat)(pt:Nat->Rat):List (List Rat):=(List.range s).map λj=>(((List.range (s*p)).map pt).take ((j+1)*p)).drop (j*p)
theorem zS (s p:Nat)(a:Nat->Rat):(zT s p a).map (·.map qtx)=eJ s p a:=by
 unfold zT eJ chunks ze;rw[TH];refine List.map_congr_left λj _=>?_;show(List.drop _ (List.take _ _)).map qtx=_;rw[List.map_drop,UR]
theorem xi (p:Nat)(l:List Rat):∀s,((List.range s).map λj=>(l.take ((j+1)*p)).drop (j*p)).flatten=l.take (s*p)
|0=>by simp
|s+1=>by
  rw[T1,Tm,Ta,xi p l s,List.map_singleton,List.flatten_singleton];have e:l.take (s*p)=(l.take ((s+1)*p)).take (s*p):=by rw[VD,TJ (To _ (UZ s))]
  rw[e,TE]
theorem sZ (s p:Nat)(a:Nat->Rat):(zT s p a).flatten=(List.range (s*p)).map a:=by
 unfold zT;rw[xi,Td am]
theorem Pv {a:List (List Rat)}(h:FieldsIn C v (a.map (·.map qtx))):∃xs:List (Value × List Rat),xs.map (·.2)=a/\Sl C 1 v (xs.map yP)/\∀x∈xs,Sl C 1 x.1 (x.2.map aP):=by
 obtain⟨vs,h1,h2,h3⟩:=h;rw[ar]at h1;refine⟨vs.zip a, ?_, ?_,λx b=>?_⟩
 .rw[<- List.unzip_snd,List.unzip_zip_right om_]
 .have e:(vs.zip a).map yP=vs.map λw=>[w]:=by
   conv=>rhs;rw[<- List.map_fst_zip (l₁:=vs) (l₂:=a) om_,TH]
   rfl
  rw[e];exact h3
 obtain⟨i,c,rfl⟩:=List.mem_iff_getElem.1 b;rw[List.length_zip]at c;rw[List.getElem_zip];have:=h2 i vs[i] (a[i].map qtx) (aj om_) (by rw[SI,aj om_];rfl);rw[vN];exact this
open Classical in
noncomputable def ym (n:Nat)(pt:Nat->Rat)(r:RowQ):Bool:=decide (r.b<Lp.sumN (λj=>r.f.getD j 0*pt j) n)
theorem Nu {r:RowQ}(a:i<=n):lH r.f ((List.range n).map pt) i=Lp.sumN (λj=>r.f.getD j 0*pt j) i:=by
 unfold lH;refine Lp.sumN_congr λj b=>?_;rw[al (l:=(List.range n).map pt),SI,Tl om_];rfl
theorem Fi (C:Mem)(h:Tabs C)(l m:Value)(b n k:Nat)(r:RowQ)(a:Nat->Rat)(u:C b=some (.cells ⟨[m]⟩ 41 (0,0)))(o:Sl C 1 l (r.f.map dH))(c:Sl C 1 m (((List.range n).map a).map aP))(d:RowI r)(e:r.f.length=n)(v:n<=1000)(B:k<=22)(w:Lp.CmD n k a)(y:∀j,QB 22 (a j)) :
  Gives cx.P 88 [.agg ⟨[l,ag (qtx r.b)]⟩,p_ b] C (.bool (ym n a r)):=by
 obtain⟨D,c0,rfl,_⟩:=id o;obtain⟨E,F,rfl,_⟩:=id c;have p:∀i,i<=n->QB 40 (lH r.f ((List.range n).map a) i):=λi s=>by
  rw[Nu s];exact(QV d w s v).le om_
 have z:∀x∈(List.range n).map a,QB 22 x:=λx c=>by
  obtain⟨j,_,rfl⟩:=SL.1 c;exact y j
 have A:decide (oo (lH r.f ((List.range n).map a) n) r.b > 0)=ym n a r:=by
  rw[Bu,Nu (SH n)];unfold ym;exact Tx.2 Iff.rfl
 exact Wy func88 12 U3 λw0=>Wu λR g=>WH U6 λH=>C6 1 [1,2] g U<|G.freeze 0 U λ_ _ t=>WM [0,1,2,3,4,5,6,7,8] [(3,1),(6,1)] U kr_ λR I g=>Wt U6<|Ws (bkT t 1) U8<|Ws (bkT u 1) U8<|WN (λ_=>(Lx _ h.m_ _ _ r.f ((List.range n).map a) o.m_ c.m_ ap om_ d.q.1 z (by rw[e];exact p))) U9<|Wt U6<|Ws (bkT t 1) U8<|WN (λ_=>(xS _ h.m_ (lH r.f ((List.range n).map a) r.f.length) r.b 40 dc_ dc_ (by rw[e];exact p n (SH n)) (d.q.2.le dc_))) U9<|C6 2 [3] g U<|Wx U2<|⟨by rw[e,A],U⟩
open Classical in
noncomputable def atB (p:Lp.Sys)(pt:Nat->Rat):Bool:=decide (p.At pt)
theorem BG {p:Lp.Sys}:atB p pt=true ↔ p.At pt:=by
 unfold atB;exact @decide_eq_true_iff _ (Classical.propDecidable _)
open Classical in
theorem My :(!rows.any (ym n pt))=atB (bQ n (dS rows)) pt:=by
 unfold atB;by_cases h:(bQ n (dS rows)).At pt
 .rw[S4 h,List.any_eq_false.2 λr hr=>?_]
  .rfl
  have:=gj.1 h r hr;unfold ym;rw[Te (Rat.not_lt.2 this)];decide
 rw[Te h];have:rows.any (ym n pt)=true:=by
  refine Ti λa=>h (gj.2 λr hr=>Rat.not_lt.1 λb=>a ?_);refine Vl.2 ⟨r,hr, ?_⟩;unfold ym;exact S4 b
 rw[this];rfl
theorem Fh (C:Mem)(l:Tabs C)(m y:Value)(B:Bk)(z:List Rat)(g:Nat->List RowQ)(a:Nat->Rat)(k:Nat)(d:BookIn C m B)(h:Calm B z g)(c:FieldsIn C y (eJ (bs B) (bp B) a))(M:k<=22)(A:Lp.CmD (bs B*bp B) k a)(o:∀j,QB 22 (a j)) :
  Gives cx.P 31 [m,y] C (.bool (atB (nB B g) a)):=by
 have E:=d;have N:=h.n12;have O:=h.rich.scol.1;have p:=λ(D:Mem)(e:C.le D)=>yY D m B (d.mono e) O om_;have Q:=cK B.obs.length;rw[<- zS]at c;obtain⟨xs,F,r,S⟩:=Pv c;have t:gR xs=(List.range (bs B*bp B)).map a:=by unfold gR;rw[F,sZ]
 have T:xs.length=bs B:=by rw[<- ar (f:=(·.2)),F];unfold zT;simp
 obtain⟨As,cs,rfl,V,_⟩:=id r;simp only[ar,T]at r V⊢;obtain⟨v1,v2,tv,cv,ov,rfl,h1,h2,h3,h4,h5⟩:=id d.ex;obtain⟨A4,c4,rfl,W,_⟩:=id h4;have X:(B.col.map pq).length=bs B+1:=by rw[ar];omega
 simp only[X]at h4 W E p⊢;have ag:=mx_
 obtain⟨n,Y⟩:∃n,bs B*bp B=n:=⟨_,rfl⟩;have H:=h.rl;have Z:=h.rowI Q;have I:∀s∈((List.range (bs B*bp B)).map a).map qtx,aS s=true:=λs c=>by
  obtain⟨q,u,rfl⟩:=SL.1 c;obtain⟨j,_,rfl⟩:=SL.1 u;exact bA (o j)
 have J:∀s∈((List.range (bs B*bp B)).map a).map qtx,s.length<=999998:=λs c=>by
  obtain⟨q,u,rfl⟩:=SL.1 c;obtain⟨j,_,rfl⟩:=SL.1 u;exact SV (aV (o j) dc_) dc_
 unfold nB;rw[Y]at I J p N t H A⊢;refine Wy func31 42 U3 λw0=>Wu λR b=>WH U6 λb2=>C6 1 [1,2] b U<|G.freeze 0 U λ_ _ v=>Wu λR b=>Ws (bkT v 5) U8<|WY (ru _ l.m_ _ B z g E.m_ h) U7 (λah _ _ aa=>?_);obtain⟨lv,rfl,ab⟩:=aa;refine C6 5 [1,2,5,6] b U<|WQ [(1,3)] U λR b=>Wt U6<|D.call (FK _ _ xs r.m_ (λx i=>(S x i).mono mup) (by rw[t];simp;omega)) U (.inr dc_) U6 (SQ _) fl_ (λai _ aj _ ac=>?_);obtain⟨Ax,nx,ad,rfl,rfl⟩:=ac;rw[t];refine WI U5 λK=>WB (j:=0) U12<|Ww [1,2,5,6,7] b U<|XY af (λA0 c0 ae _=>?_);obtain⟨rfl,rfl,rfl⟩:Ax=A0/\nx=((List.range n).map a).length/\ad=c0:=by cases ae;exact⟨rfl,rfl,rfl⟩
 refine G.freezeArr 1 (((List.range n).map a).map aP) U U bN am λ_ _ L=>G.freeze 0 U λ_ _ w=>WM [0,1,2,3,4,5,6,7,8,9,10,11,12,13,14,15,16,17,18,19,20,21,22,23,24,25,26,27] [] U kr_ λR d b=>Wv 5 U<|WU U6 (λ_=>PtrTo.blockT (Mem.get v mup) _ 1) U3<|Wt U6<|WW (((bs B:Nat):Int)) U4 om_ om_ om_ U2<|Wt U6<|WR U8<|Wt U6<|WU U6 (λ_=>PtrTo.blockT (Mem.get w mup) _ 1) U3<|Wt U6<|WU U6 (λ_=>PtrTo.blockT (Mem.get v mup) _ 5) U3<|W5 (λ_=>(p _ mup)) U9<|Wt U6<|WR U8<|Wt U6<|WU U6 (λ_=>PtrTo.blockT (Mem.get w mup) _ 1) U3<|WN (λ_=>(AD _ l.m_ _ (((List.range n).map a).map qtx) (by rw[<- fy];exact L.mono mup) ap J I)) U9<|WR U8<|Wv 3 U<|WN (λ_=>(oW _ _ (di B g) 88 [p_ K] (ym n a) ab.m_ kr_ (λx i D fv e hf=>Fi D (l.mono (Mem.le.trans mup e)) fv _ K n k x a (Mem.le.trans mup e _ _ w) hf (L.mono (Mem.le.trans mup e)) (Z x i) (H x i) om_ M A o))) U9<|Wt U6<|WR U8<|Wt U6<|Ww [4] b U ?_;clear b d R;refine Wx U2<|⟨?_,U⟩;rw[<- My];simp
theorem MY (h:∀r∈rows,RowI r):JM ((dS rows).map dw):=λr hr=>by
 obtain⟨x,a,rfl⟩:=SL.1 hr;obtain⟨h1,h2⟩:=ma h x a;refine⟨λs hs=>?_,SV (aV h2 dc_) dc_⟩;obtain⟨q,b,rfl⟩:=SL.1 hs;exact SV (aV (h1 q b) dc_) dc_
theorem J9 {a:List (List Rat × Rat)}:∀i,(zI a ps n i).length=0 ↔ ∀k,k<i->lH (a.getD k ([],0)).1 ps n<=(a.getD k ([],0)).2:=by
 intro i;induction i with
|zero=>exact⟨λ_ k b=>absurd b (Nat.not_lt_zero _),λ_=>rfl⟩
|succ i c =>
  unfold zI;by_cases h:(a.getD i ([],0)).2<lH (a.getD i ([],0)).1 ps n
  .rw[aL h];refine⟨λh2=>by simp at h2,λh2=>?_⟩;have:=h2 i (Nat.lt_succ_self _);grind
  rw[aF h,c];refine⟨λh2 k b=>?_,λh2 k b=>h2 k om_⟩;rcases Nat.lt_or_eq_of_le (Nat.le_of_lt_succ b) with h3|h3
  .exact h2 k h3
  rw[h3];grind
theorem MP :(zI (dS rows) ps n (dS rows).length).length=0 ↔ (bQ n (dS rows)).At λj=>ps.getD j 0:=by
 rw[J9];have hm:(dS rows).length=rows.length:=ar _;exact⟨λh r hr=>h r hr,λh r hr=>h r hr⟩
open Classical in
noncomputable def Po (B:Bk)(RO:Nat->List RowQ)(ls:List (List Str))(ps:List Rat):Int:=if nG (bs B) (bp B) ls≠0 then nG (bs B) (bp B) ls else if (nB B RO).At (λj=>ps.getD j 0) then 0 else 23
theorem EB {a:List (List Str)}(h:nG s p a=0){x:Str}(c:x∈a.flatten):aS x=true:=by
 unfold nG at h;split at h
 .obtain⟨l,d,e⟩:=List.mem_flatten.1 c;obtain⟨j,b⟩:=Uh d;have f:=(R0.1 b).1;have h1:=iM h j f;rw[al,b]at h1;unfold oK at h1;split at h1
  .rcases eP (l.all aS) with⟨_,h2⟩|⟨h2,_⟩
   .exact S3.1 h2 x e
   have h3:ot (l.all aS)=0:=h1;rw[h2]at h3;cases h3
  cases h1
 cases h
def JN (B:Bk)(ls:List (List Str))(ps:List Rat):Prop:=nG (bs B) (bp B) ls=0->ls.flatten=ps.map qtx/\ps.length=bs B*bp B/\∀x∈ps,QB 23 x
theorem D8 (b:n<=60)(c:rows.length<=300)(d:∀r∈rows,r.f.length=n)(h:∀r∈rows,RowI r){a:List Rat}(e:a.length=n)(g:∀x∈a,QB 22 x):D9 n ((dS rows).map dw) (a.map qtx)=0 :=
 ou b (by rw[dS,ar];exact c) (lZ (P:=λr=>r.1.length=n) d) (ma h) e g
theorem Fo (C:Mem)(n:Tabs C)(r t u:Value)(B:Bk)(z:List Rat)(e:Nat->List RowQ)(b:List (List Str))(g:List Rat)(o:BookIn C r B)(h:Calm B z e)(D:P6 C (bs B*bp B) (di B e) (List.replicate (bs B*bp B) 0) t)(f:FieldsIn C u b)(v:∀l∈b,∀x∈l,x.length<=999998)(E:b.length<=1000)(F:JN B b g) :
  Gives cx.P 90 [r,t,u] C (i_ (Po B e b g)):=by
 have H:=o;have I:=h.rich.good;have J:=h.rich.bookz n o;have af:=h.n12;have i:=cK B.obs.length;have K:=h.cnt i;obtain⟨P1,m1,d1,P2,m2,d2,rfl,L,M⟩:=D;obtain⟨vs,_,_,N⟩:=id f;obtain⟨As,cs,rfl,_⟩:=id N;obtain⟨v1,v2,tv,cv,ov,rfl,h1,h2,h3,h4,h5⟩:=id o.ex;refine Wy func90 33 U3 λw0=>Wu λR a=>WH U6 λb3=>WH U6 λb4=>C6 1 [2,3,4] a U<|G.freeze 1 U λ_ _ O=>G.freeze 0 U λ_ _ Q=>Wu λR a=>Ws (bkT O 5) U8<|Wt U6<|WT (nE _ n.m_ _ _ B b H.m_ I J.m_ om_ f.m_ v E) U7 fl_ (λag _ _ S=>?_);obtain⟨T,rfl,p⟩:=S;obtain⟨Aw,mw,cw,rfl⟩:∃A m c,T=Value.slice A m c:=by
  obtain⟨A,c,h,_⟩:=id p;exact⟨_,_,_,h⟩
 refine C6 5 [4,7,8] a U<|U0 2 [4,7,8,17] U<|G.cd (λq=>?_) λq=>?_
 .have d:nG (bs B) (bp B) b≠0:=by simpa using q
  exact U0 2 [6] U<|Wx U2<|⟨by unfold Po;rw[aL d],U⟩
 have d:nG (bs B) (bp B) b=0:=by simpa using q
 obtain⟨w,V,W⟩:=F d;rw[aL d]at p;have y:ep (bs B*bp B:Nat) b.flatten=0:=fJ.2 ⟨by rw[w,ar,V],S3.2 λs f=>EB d f⟩;refine Wu λR a=>Ws (bkT Q 3) U8<|Wt U6 ?_;refine WT (zL _ n.m_ (bs B*bp B) _ _ _ (dS (di B e)) b.flatten (List.replicate (bs B*bp B) 0) g L.m_ (by rw[<- fy];exact M.mono mup) (MY (h.rowI i)) (h.rowsQ i) (D8 om_ (SV K dc_) h.rl (h.rowI i) Tf (Hj _)) om_ (λx X=>(Hj _ x X).le dc_) p.m_ (λs f=>by
  obtain⟨l,Y,Z⟩:=List.mem_flatten.1 f;exact v l Y s Z) (λ_=>⟨w,W⟩)) U7 fl_ (λah _ _ aa=>?_)
 obtain⟨Av,mv,ai,rfl,ab⟩:=aa;have ac:=ab y;rw[y];refine C6 5 [8,9] a U<|U1 6 U λR a=>WR U8<|Ww [8,31] a U<|G.cd (λk=>?_) λk=>?_
 .have ad:¬ (nB B e).At λj=>g.getD j 0:=λha=>by
   have:=MP.2 ha;rw[ac,this]at k;exact absurd k dc_
  exact U0 1 [6] U<|Wx U2<|⟨by unfold Po;rw[aF (λh=>h d),aF ad],U⟩
 have ae:(nB B e).At λj=>g.getD j 0:=MP.1 (by
  have:¬ 0<mv:=by simpa using k
  omega)
 exact U0 2 [6] U<|Wx U2<|⟨by unfold Po;rw[aF (λh=>h d),aL ae],U⟩
theorem IE (C:Mem)(f:Tabs C)(g i:Value)(B:Bk)(d:List Rat)(b:Nat->List RowQ)(a:List (List Str))(e:List Rat)(k:BookIn C g B)(h:Calm B d b)(m:FieldsIn C i a)(r:∀l∈a,∀x∈l,x.length<=999998)(s:a.length<=1000)(t:JN B a e) :
  Gives cx.P 32 [g,i] C (i_ (Po B b a e)):=by
 have n:=k;obtain⟨vs,_,_,u⟩:=id m;obtain⟨F,cs,rfl,_⟩:=id u;obtain⟨H,I,J,K,L,rfl,h1,h2,h3,h4,h5⟩:=id k.ex;refine Wy func32 19 U3 λw0=>Wu λR c=>WH U6 λM=>C6 1 [1,2] c U<|G.freeze 0 U λ_ _ o=>WQ [(1,3)] U λR c=>Ws (bkT o 5) U8<|D.call (iJ _ f.m_ _ B d b n.m_ h) U (.inr dc_) U6 (SQ _) fl_ (λN _ O _ v=>?_);obtain⟨Q,S,T,us,rfl,p,rfl⟩:=v;refine Wv 3 U<|WI U5 λV=>WB (j:=0) U12<|C6 1 [1,2,5,6] c U<|U0 2 [1,2,5,6,13] U<|G.cd (λq=>?_) λq=>?_
 .exact absurd q dc_
 refine G.freezeArr 1 (aB us (di B b)) U U (cC _ _) (by rw[bI p.1]) (λ_ _ w=>?_);rw[uR];refine G.freezeArr 1 ((List.replicate (bs B*bp B) (0:Rat)).map aP) U U bN am λ_ _ y=>G.freeze 0 U (λz _ A=>?_);have E:=mb (RowsOk.m_ p) (w.mono mup:Sl z 2 _ _);exact Wu λR c=>Ws (bkT o 5) U8<|Ws (bkT A 3) U8<|Wt U6<|WD (Fo _ f.m_ _ _ _ B d b a e n.m_ h ⟨_,_,_,_,_,_,U,E.mono mup,y.mono mup⟩ m.m_ r s t) U7<|C6 1 [4] c U<|Wx U2<|⟨U,U⟩
theorem nX (C:Mem)(n:Nat)(h:n<=100000):Jog.Fn cx.P 16 [i_ n] C [] λu _f a=>∃b,u=s_ b n n/\a=[.arr u 32 1 n (List.replicate n (ag [48]))]:=by
 refine Wy func16 6 U3 λw0=>U0 1 [0] U<|WQ [(2,3)] U λR c=>WP [[ag [48]]] U12 λg _ _ d=>Wt U6<|D.call (ka _ _ n [48] d.m_ om_) U (.inr dc_) U6 (SQ _) fl_ λi _ j _ e=>C6 1 [2] c U ?_;obtain⟨bz,rfl,rfl⟩:=e;refine WE (W6 U U ?_);exact⟨bz,U,U⟩
theorem lm (C:Mem)(n:Nat)(h:n<=100000):Pur cx.P 16 [i_ n] C λu D=>∃b,u=s_ b n n/\Sl D 1 u ((List.replicate n (0:Rat)).map aP) :=
 X5 (nX C n h) λu a c ⟨b,h1,h2⟩=>.inr ⟨u,32,1,(List.replicate n 0).map aP,by rw[h2,<- uR];simp,bN,λD _ h=>⟨b,h1,h⟩⟩
theorem Pi {k m:Nat}(h:k<m):(i*m+k) / m=i/\(i*m+k) % m=k:=by
 rw[Tt,Nat.mul_add_div om_,UN h,Nat.mul_add_mod,Vn h];exact⟨U,U⟩
abbrev sG7 (A:Option Addr)(n c:Nat):Value:=.slice A n c
abbrev zaj:=λo=>Ent.obj o (.cells ⟨[i_ 0,.slice none 0 0,.slice none 0 0]⟩ 74 (0,0))
theorem Ic (C:Mem)(hT:Tabs C)(bv lv:Value)(B:Bk)(fs:List Rat)(Z:Nat->List RowQ)(v:BookIn C bv B)(h:Calm B fs Z)(a1:bp B<=6)(a2:bs B<=2)(aO:RowsIn6 C lv (di B Z)) :
  Pur cx.P 23 [bv,lv] C λu D=>∃es,EdgL B.tris es/\P6 D (bs B*bp B+bs B*es.length) (sD (di B Z) (bs B*bp B) (bp B) es (bs B*es.length)) (kI (bs B*bp B) (bs B*es.length)) u:=by
 have a3:=v;have hG:=h.rich.good;have a4:=h.n12;have a5:=h.rich.scol.1;have a6:=h.cnt (cK B.obs.length);have au:=λ(D:Mem)(hD:C.le D)=>yY D bv B (v.mono hD) a5 om_;obtain⟨v1,v2,tv,cv,ov,rfl,h1,h2,h3,h4,h5⟩:=id v.ex;have hm:MeshIn C (.agg ⟨[v1,v2]⟩) B.pts B.tris:=⟨v1,v2,rfl,h1,h2⟩;obtain⟨A1,c1,rfl,a7,_⟩:=id h1;obtain⟨A4,c4,rfl,a8,_⟩:=id h4;have a9:(B.pts.map gM).length=bp B:=ar _;have ba:(B.col.map pq).length=bs B+1:=by rw[ar];omega
 simp only[a9,ba]at h1 a7 h4 a8 hm a3 au⊢;have bH:=mx_
 obtain⟨n,hn⟩:∃n,bs B*bp B=n:=⟨_,rfl⟩;obtain⟨rows,av⟩:∃rows,di B Z=rows:=⟨_,rfl⟩;rw[show oT B Z (List.range B.obs.length)=rows from av]at a6;rw[hn]at au a4⊢;rw[av]at aO⊢;have bb:∀r∈rows,r.f.length<=12:=λr hr=>by
  have h1:=h.rl r (by rw[<- av]at hr;exact hr);omega
 obtain⟨vs,aQ,aw⟩:=aO;obtain⟨Al,cl,rfl,bc,_⟩:=id aw;have bd:=aQ.1;rw[bI bd]at aw bc⊢;refine Wy func23 137 U3 λw0=>Wu λR c=>WH U6 λb2=>WI U5 λo=>Ww [1,2,4] c U<|G.freeze 1 U λ_ _ aa=>U1 1 U λR c=>Ws (bkT aa 2) U8<|WY (pr _ hT.m_ _ B.pts B.tris hm.m_ hG) U7 (λbJ _ _ be=>?_);obtain⟨es,ev,rfl,ax,az⟩:=be;obtain⟨N,O,rfl,bf,_⟩:=id az;simp only[ar]at az bf⊢;obtain⟨bg,bK⟩:=ax.le hG.ok.ins a1;obtain⟨a,K⟩:∃a,bs B*es.length=a:=⟨_,rfl⟩;have bL:a<=30:=by rw[<- K];exact T2 a2 bg
 refine C6 5 [1,2,4,5] c U<|WM [0,1,2,3,4,5,6,7] [(1,1)] U kr_ λR v c=>Ws (bkT aa 5) U8<|W5 (λ_=>(au _ mup)) U9<|Wt U6<|Ws (bkT aa 1) U8<|Wt U6<|WW (((bs B:Nat):Int)) U4 om_ om_ om_ U2<|Wv 2 U<|Ww [1,2,4,5,7,8] c U<|U1 4 U λR c=>WW (((a:Nat):Int)) U4 (by rw[<- K,Tc]) om_ om_ U2<|WW (((n+a:Nat):Int)) U4 om_ om_ om_ U2<|WL [i_ (n+a:Nat),.slice none 0 0,.slice none 0 0] U8<|WI U5 λp=>WB (j:=0) U12<|Ww [1,2,4,5,7,8,9] c U<|U0 3 [2,4,5,7,8,9,37,38,39] U<|G.nilArr 140 2<|G.loop (λfr E s F=>∃(i:Nat)(d:Option Addr)(n0 c0:Nat)(us:List Value),(i<=rows.length/\RowsOk E us ((rows.take i).map (ck a)))/\fr=[(2,[],p_ b2),(4,[],p_ o),(5,[],.slice N es.length O),(7,[],i_ n),(8,[],i_ (bs B:Nat)),(9,[],p_ p),(37,[],.slice Al rows.length cl),(38,[],i_ rows.length),(39,[],i_ i)]/\s=[.arr (sG7 d n0 c0) 140 2 i (aB us ((rows.take i).map (ck a))).flatten,.obj p (.cells ⟨[i_ (n+a:Nat),.slice d n0 c0,.slice none 0 0]⟩ 74 (0,0)),zaj o]/\F=rows.length-i) (hn_ [2,4,5,7,8,9,37,38,39] U) ⟨0,none,0,0,[],⟨SM _,U,λi w r h=>by cases h⟩,U,U,U⟩ (λfr bM bO m _ H=>?_);obtain⟨i,d,n0,c0,us,⟨hi,A⟩,rfl,rfl,rfl⟩:=H;refine U0 1 [2,4,5,7,8,9,37,38,39,40] U<|G.cd (λaA=>?_) λaA=>?_
 .have ab:i<rows.length:=by
   have:=aT aA;omega
  obtain⟨r,ac⟩:∃r,rows[i]?=some r:=⟨rows[i],aj ab⟩;obtain⟨w,aR⟩:∃w,vs[i]?=some w:=⟨vs[i]'om_,aj om_⟩;have aC:=aQ.2 i w r aR ac;obtain⟨Aw,cw,rfl,_⟩:=id aC;have bP:r.f.length<=12:=bb r (aK ac);have L:(rows.take (i+1)).map (ck a)=(rows.take i).map (ck a)++[ck a r]:=by rw[S9,ac,Tm];rfl
  refine Wu λR c=>WG aw.m_ U10 om_ (by unfold aB;rw[List.getElem?_zipWith,aR,ac]:(aB vs rows)[i]?=some [.slice Aw (r.f.map dH).length cw,ag (qtx r.b)]) fl_ (λbQ bh=>?_);refine Ws bh U8<|WI U5 λbR=>WB (j:=0) U12<|Ww [2,4,5,7,8,9,11,37,38,39] c U<|G.freeze 0 U λ_ _ aS=>G.cut (λfr E s F=>∃(d:Option Addr)(n0 c0:Nat)(ad:List Value),(RowsOk E ad ((rows.take (i+1)).map (ck a)))/\fr=[(2,[],p_ b2),(4,[],p_ o),(5,[],.slice N es.length O),(7,[],i_ n),(8,[],i_ (bs B:Nat)),(9,[],p_ p),(37,[],.slice Al rows.length cl),(38,[],i_ rows.length),(39,[],i_ i)]/\s=[.arr (sG7 d n0 c0) 140 2 (i+1) (aB ad ((rows.take (i+1)).map (ck a))).flatten,.obj p (.cells ⟨[i_ (n+a:Nat),.slice d n0 c0,.slice none 0 0]⟩ 74 (0,0)),zaj o]) ?_ (λfr bS bT F bU H=>?_)
  .refine Xt (.cut [0,2,3,5,6,7,8,11,12] (.alt 1 (.fin [4,9,10,13,14,15,16,17]) (.alt 4 (.cut [] (.alt 1 (.fin [9,10,13,14,15,16,17]) (.alt 9 (.cut [] (.alt 1 (.fin [10,13,14,15,16,17]) (.alt 10 (.fin [1,13,14,15,16,17]) .stop))) .stop))) .stop))) [(4,3),(3,0),(12,0)] U U kr_ λR v c Q=>Wv 2 U<|W9 (λ_=>((bkT aS 1).mono v)) U9<|Wv 3 U<|WW (((a:Nat):Int)) U4 (by rw[<- K,Tc]) om_ om_ U2<|Wt U6<|W9 (λ_=>((bkT aS 1).mono v)) U9<|Xh Q U ⟨?_, ?_,trivial⟩
   .try obtain⟨V,W,cc,rfl,rfl⟩:=M
    first|refine Xo af U9 ?_|refine Xo ae U9 ?_
    refine D.call (D7 _ _ r.f aC.m_ om_) U (.inr dc_) U6 (SQ _) fl_ (λbi bj bk _ M=>?_)
    try obtain⟨V,W,cc,rfl,rfl⟩:=M
    refine WT (lm _ a om_) U7 fl_ (λaU aW _ X=>?_);obtain⟨bz,rfl,S⟩:=X;refine W0 (j:=0) U11 S.m_ (lG _) (by simp only[ar,Tf,maxLen];omega) (by simp only[ar,Tf];omega) fl_ λe g l=>WL [.slice e g l,ag (qtx r.b)] U8<|WP [[.slice e g l,ag (qtx r.b)]] U12 λaD aE _ T=>W0 (j:=1) U11 T.m_ U ay (by simp only[SN];omega) fl_ λx y z=>Wt U6<|WB (j:=2) U12<|Ww [2,4,5,7,8,9,37,38,39] c U ?_;clear c v Q R;have I:(aB us ((rows.take i).map (ck a))).flatten++[[Value.slice e g l,ag (qtx r.b)]].flatten=(aB (us++[.slice e g l]) ((rows.take (i+1)).map (ck a))).flatten:=by
     rw[L,cm A.1,Ta];rfl
    rw[I,<- Ta,<- Tm];exact G.freezeArr 2 ((r.f++List.replicate a (0:Rat)).map aP) U U bN am λCf ai J=>G.perm (L':=[.arr (sG7 x y z) 140 2 (i+1) (aB (us++[.slice e g l]) ((rows.take (i+1)).map (ck a))).flatten,.obj p (.cells ⟨[i_ (n+a:Nat),.slice x y z,.slice none 0 0]⟩ 74 (0,0)),zaj o]) (pkL [1,0,0] U)<|WJ 0 mup (hn_ [2,4,5,7,8,9,37,38,39] U) ⟨x,y,z,us++[.slice e g l],by rw[L];exact fa (RowsOk.m_ A) J,U,U⟩
   refine D.call (D7 _ _ r.f aC.m_ om_) U (.inr dc_) U6 (SQ _) fl_ λbi bj bk _ M=>Xh Q U ⟨?_, ?_,trivial⟩
   .try obtain⟨V,W,cc,rfl,rfl⟩:=M
    first|refine Xo af U9 ?_|refine Xo ae U9 ?_
    try obtain⟨V,W,cc,rfl,rfl⟩:=M
    refine WT (lm _ a om_) U7 fl_ (λaU aW _ X=>?_);obtain⟨bz,rfl,S⟩:=X;refine W0 (j:=0) U11 S.m_ (lG _) (by simp only[ar,Tf,maxLen];omega) (by simp only[ar,Tf];omega) fl_ λe g l=>WL [.slice e g l,ag (qtx r.b)] U8<|WP [[.slice e g l,ag (qtx r.b)]] U12 λaD aE _ T=>W0 (j:=1) U11 T.m_ U ay (by simp only[SN];omega) fl_ λx y z=>Wt U6<|WB (j:=2) U12<|Ww [2,4,5,7,8,9,37,38,39] c U ?_;clear c v Q R;have I:(aB us ((rows.take i).map (ck a))).flatten++[[Value.slice e g l,ag (qtx r.b)]].flatten=(aB (us++[.slice e g l]) ((rows.take (i+1)).map (ck a))).flatten:=by
     rw[L,cm A.1,Ta];rfl
    rw[I,<- Ta,<- Tm];exact G.freezeArr 2 ((r.f++List.replicate a (0:Rat)).map aP) U U bN am λCf ai J=>G.perm (L':=[.arr (sG7 x y z) 140 2 (i+1) (aB (us++[.slice e g l]) ((rows.take (i+1)).map (ck a))).flatten,.obj p (.cells ⟨[i_ (n+a:Nat),.slice x y z,.slice none 0 0]⟩ 74 (0,0)),zaj o]) (pkL [1,0,0] U)<|WJ 0 mup (hn_ [2,4,5,7,8,9,37,38,39] U) ⟨x,y,z,us++[.slice e g l],by rw[L];exact fa (RowsOk.m_ A) J,U,U⟩
   try obtain⟨V,W,cc,rfl,rfl⟩:=M
   refine WT (lm _ a om_) U7 fl_ λaU aW _ X=>Xh Q U ⟨?_, ?_,trivial⟩
   .try obtain⟨V,W,cc,rfl,rfl⟩:=M
    first|refine Xo af U9 ?_|refine Xo ae U9 ?_
    obtain⟨bz,rfl,S⟩:=X;refine W0 (j:=0) U11 S.m_ (lG _) (by simp only[ar,Tf,maxLen];omega) (by simp only[ar,Tf];omega) fl_ λe g l=>WL [.slice e g l,ag (qtx r.b)] U8<|WP [[.slice e g l,ag (qtx r.b)]] U12 λaD aE _ T=>W0 (j:=1) U11 T.m_ U ay (by simp only[SN];omega) fl_ λx y z=>Wt U6<|WB (j:=2) U12<|Ww [2,4,5,7,8,9,37,38,39] c U ?_;clear c v Q R;have I:(aB us ((rows.take i).map (ck a))).flatten++[[Value.slice e g l,ag (qtx r.b)]].flatten=(aB (us++[.slice e g l]) ((rows.take (i+1)).map (ck a))).flatten:=by
     rw[L,cm A.1,Ta];rfl
    rw[I,<- Ta,<- Tm];exact G.freezeArr 2 ((r.f++List.replicate a (0:Rat)).map aP) U U bN am λCf ai J=>G.perm (L':=[.arr (sG7 x y z) 140 2 (i+1) (aB (us++[.slice e g l]) ((rows.take (i+1)).map (ck a))).flatten,.obj p (.cells ⟨[i_ (n+a:Nat),.slice x y z,.slice none 0 0]⟩ 74 (0,0)),zaj o]) (pkL [1,0,0] U)<|WJ 0 mup (hn_ [2,4,5,7,8,9,37,38,39] U) ⟨x,y,z,us++[.slice e g l],by rw[L];exact fa (RowsOk.m_ A) J,U,U⟩
   obtain⟨bz,rfl,S⟩:=X;refine W0 (j:=0) U11 S.m_ (lG _) (by simp only[ar,Tf,maxLen];omega) (by simp only[ar,Tf];omega) fl_ (λe g l=>?_)
   try obtain⟨V,W,cc,rfl,rfl⟩:=M
   first|refine Xo af U9 ?_|refine Xo ae U9 ?_
   refine WL [.slice e g l,ag (qtx r.b)] U8<|WP [[.slice e g l,ag (qtx r.b)]] U12 λaD aE _ T=>W0 (j:=1) U11 T.m_ U ay (by simp only[SN];omega) fl_ λx y z=>Wt U6<|WB (j:=2) U12<|Ww [2,4,5,7,8,9,37,38,39] c U ?_;clear c v Q R;have I:(aB us ((rows.take i).map (ck a))).flatten++[[Value.slice e g l,ag (qtx r.b)]].flatten=(aB (us++[.slice e g l]) ((rows.take (i+1)).map (ck a))).flatten:=by
    rw[L,cm A.1,Ta];rfl
   rw[I,<- Ta,<- Tm];exact G.freezeArr 2 ((r.f++List.replicate a (0:Rat)).map aP) U U bN am λCf ai J=>G.perm (L':=[.arr (sG7 x y z) 140 2 (i+1) (aB (us++[.slice e g l]) ((rows.take (i+1)).map (ck a))).flatten,.obj p (.cells ⟨[i_ (n+a:Nat),.slice x y z,.slice none 0 0]⟩ 74 (0,0)),zaj o]) (pkL [1,0,0] U)<|WJ 0 mup (hn_ [2,4,5,7,8,9,37,38,39] U) ⟨x,y,z,us++[.slice e g l],by rw[L];exact fa (RowsOk.m_ A) J,U,U⟩
  obtain⟨d,n0,c0,ad,Y,rfl,rfl⟩:=H;refine Wu λR c=>Wz _ U U6<|C6 1 [2,4,5,7,8,9,37,38,39] c U ?_;clear c R;refine WF (m':=rows.length-(i+1)) om_ mup (hn_ [2,4,5,7,8,9,37,38,39] U) ⟨i+1,d,n0,c0,ad,⟨by omega,Y⟩,U,U,U⟩
 have ab:i=rows.length:=by
  have:=SJ aA;omega
 subst ab;refine U0 2 [2,4,5,7,8,9,61,62] U ?_;rw[SU]at A⊢;refine WK (L':=[.arr (sG7 d n0 c0) 140 2 (rows.length+2*(0*es.length)) (aB us (rows.map (ck a)++rgL (n+a) n (bp B) es (0*es.length))).flatten,.obj p (.cells ⟨[i_ (n+a:Nat),.slice d n0 c0,.slice none 0 0]⟩ 74 (0,0)),zaj o]) (by rw[Nat.zero_mul,show rgL (n+a) n (bp B) es 0=[] from U,S8];rfl)<|G.loop (λfr E s F=>∃(i:Nat)(d:Option Addr)(n0 c0:Nat)(us:List Value),(i<=bs B/\RowsOk E us (rows.map (ck a)++rgL (n+a) n (bp B) es (i*es.length)))/\fr=[(2,[],p_ b2),(4,[],p_ o),(5,[],.slice N es.length O),(7,[],i_ n),(8,[],i_ (bs B:Nat)),(9,[],p_ p),(61,[],i_ (bs B:Nat)),(62,[],i_ i)]/\s=[.arr (sG7 d n0 c0) 140 2 (rows.length+2*(i*es.length)) (aB us (rows.map (ck a)++rgL (n+a) n (bp B) es (i*es.length))).flatten,.obj p (.cells ⟨[i_ (n+a:Nat),.slice d n0 c0,.slice none 0 0]⟩ 74 (0,0)),zaj o]/\F=bs B-i) (hn_ [2,4,5,7,8,9,61,62] U) ⟨0,d,n0,c0,us,⟨SM _,by rw[Nat.zero_mul,show rgL (n+a) n (bp B) es 0=[] from U,S8];exact RowsOk.mono A mup⟩,U,U,U⟩ (λfr bV bW m _ H=>?_);obtain⟨i,d,n0,c0,us,⟨hi,ak⟩,rfl,rfl,rfl⟩:=H;refine U0 1 [2,4,5,7,8,9,61,62,63] U<|G.cd (λaF=>?_) λaF=>?_
 .have ab:i<bs B:=by
   have:=aT aF;omega
  refine U0 2 [2,4,5,7,8,9,12,61,62] U<|U0 3 [2,4,5,7,8,9,12,61,62,65,66,67] U ?_
  skip
  refine G.loop (λfr E s F=>∃(k:Nat)(d:Option Addr)(n0 c0:Nat)(us:List Value),(k<=es.length/\RowsOk E us (rows.map (ck a)++rgL (n+a) n (bp B) es (i*es.length+k)))/\fr=[(2,[],p_ b2),(4,[],p_ o),(5,[],.slice N es.length O),(7,[],i_ n),(8,[],i_ (bs B:Nat)),(9,[],p_ p),(12,[],i_ i),(61,[],i_ (bs B:Nat)),(62,[],i_ i),(65,[],.slice N es.length O),(66,[],i_ es.length),(67,[],i_ k)]/\s=[.arr (sG7 d n0 c0) 140 2 (rows.length+2*(i*es.length+k)) (aB us (rows.map (ck a)++rgL (n+a) n (bp B) es (i*es.length+k))).flatten,.obj p (.cells ⟨[i_ (n+a:Nat),.slice d n0 c0,.slice none 0 0]⟩ 74 (0,0)),zaj o]/\F=es.length-k) (hn_ [2,4,5,7,8,9,12,61,62,65,66,67] U) ⟨0,d,n0,c0,us,⟨SM _,RowsOk.mono ak mup⟩,U,U,U⟩ (λfr bX bY m _ H=>?_);obtain⟨k,d,n0,c0,us,⟨hk,Y⟩,rfl,rfl,rfl⟩:=H;refine U0 1 [2,4,5,7,8,9,12,61,62,65,66,67,68] U<|G.cd (λaG=>?_) λaG=>?_
  .have an:k<es.length:=by
    have:=aT aG;omega
   have aH:i*es.length+k<bs B*es.length:=Dx ab an;obtain⟨t,ht⟩:∃t,i*es.length+k=t:=⟨_,rfl⟩;obtain⟨aI,aX⟩:=Pi (i:=i) an;rw[ht]at aI aX aH Y⊢;obtain⟨bZ,b0⟩:=Be aH;obtain⟨bl,bm,b1⟩:=DQ (ax.ok (n:=bp B) hG.ok.ins (bs B)) aH;rw[hn,aI]at bl bm;have bn:(es.map rM)[k]?=some (rM (edg es t)):=by
    rw[SI,aj an];unfold edg;rw[aX,al,aj an];rfl
   refine U1 1 U λR c=>WG az.m_ U10 om_ bn fl_ λb3 bo=>Ws bo U8<|WI U5 λbq=>Wt U6<|WB (j:=0) U12<|Ww [2,4,5,7,8,9,12,13,14,61,62,65,66,67] c U<|G.freeze 0 U λ_ _ aY=>Wu λR c=>Xm [[ag [49]],[ag [45,49]]] U12 fl_ λbr _ _ aZ=>C6 2 [2,4,5,7,8,9,12,13,14,61,62,65,66,67,72,73,74] c U ?_;clear c R;rw[Sh]at aZ;refine WK (L':=[.arr (sG7 d n0 c0) 140 2 (rows.length+2*t+0) (aB us (rows.map (ck a)++(rgL (n+a) n (bp B) es t++(rgK (n+a) n (bp B) es t).take 0))).flatten,.obj p (.cells ⟨[i_ (n+a:Nat),.slice d n0 c0,.slice none 0 0]⟩ 74 (0,0)),zaj o]) (by rw[List.take_zero,S8];rfl)<|G.loop (λfr E s F=>∃(q:Nat)(d:Option Addr)(n0 c0:Nat)(us:List Value),(q<=2/\RowsOk E us (rows.map (ck a)++(rgL (n+a) n (bp B) es t++(rgK (n+a) n (bp B) es t).take q)))/\fr=[(2,[],p_ b2),(4,[],p_ o),(5,[],.slice N es.length O),(7,[],i_ n),(8,[],i_ (bs B:Nat)),(9,[],p_ p),(12,[],i_ i),(13,[],i_ k),(14,[],p_ bq),(61,[],i_ (bs B:Nat)),(62,[],i_ i),(65,[],.slice N es.length O),(66,[],i_ es.length),(67,[],i_ k),(72,[],s_ br 2 2),(73,[],i_ 2),(74,[],i_ q)]/\s=[.arr (sG7 d n0 c0) 140 2 (rows.length+2*t+q) (aB us (rows.map (ck a)++(rgL (n+a) n (bp B) es t++(rgK (n+a) n (bp B) es t).take q))).flatten,.obj p (.cells ⟨[i_ (n+a:Nat),.slice d n0 c0,.slice none 0 0]⟩ 74 (0,0)),zaj o]/\F=2-q) (hn_ [2,4,5,7,8,9,12,13,14,61,62,65,66,67,72,73,74] U) ⟨0,d,n0,c0,us,⟨SM _,by rw[List.take_zero,S8];exact RowsOk.mono Y mup⟩,U,U,U⟩ (λfr b5 b6 m _ H=>?_);obtain⟨q,d,n0,c0,us,⟨b7,ao⟩,rfl,rfl,rfl⟩:=H;refine U0 1 [2,4,5,7,8,9,12,13,14,61,62,65,66,67,72,73,74,75] U<|G.cd (λaJ=>?_) λaJ=>?_
   .have aq:q<2:=by
     have:=aT aJ;omega
    refine Wu λR c=>WG aZ.m_ U10 om_ (by rw[SI,GY aq];rfl:(([1, -1]:List Rat).map aP)[q]?=some (aP (qE q))) fl_ λb8 bt=>Ws bt U8<|C6 1 [2,4,5,7,8,9,12,13,14,16,61,62,65,66,67,72,73,74] c U<|WQ [(2,3)] U λR c=>Wt U6<|WA af U9<|D.call (nX _ (n+a) om_) U (.inr dc_) U6 (SQ _) fl_ (λca _ cb _ bu=>?_);obtain⟨bz,rfl,rfl⟩:=bu;rw[Hh];have bw:(Value.string ⟨#[45,49]⟩)=tq (-1):=by show ag [45,49]=ag (qtx (-1));rw[fe]
    refine C6 1 [2,4,5,7,8,9,12,13,14,16,17,61,62,65,66,67,72,73,74] c U<|U1 4 U λR c=>Ws (bkT aa 1) U8<|Wt U6<|Wz (((i*bp B:Nat):Int)) (Tc _ _) U6<|WO (0) U9 k_ U2<|Ws (bkT aY 1) U8<|WW (((i*bp B+(edg es t).1:Nat):Int)) U4 om_ om_ om_ U2<|Wt U6<|WV ((i*bp B+(edg es t).1)) U10 (λ_=>⟨by omega,by omega,(T0 _).symm⟩) U2<|WZ (j:=0) U11 ap<|Ww [2,4,5,7,8,9,12,13,14,16,17,61,62,65,66,67,72,73,74] c U ?_;clear c R;rw[iq ap];refine WM [0,1,2,3,4,5,6,7,8,9,10,11,12,13] [(11,1),(4,0),(8,0)] U kr_ λR v c=>Wv 4 U<|W9 (λ_=>((bkT aa 1).mono v)) U9<|Wt U6<|Wz (((i*bp B:Nat):Int)) (Tc _ _) U6<|WO (1) U9 k_ U2<|W9 (λ_=>((bkT aY 1).mono v)) U9<|WW (((i*bp B+(edg es t).2:Nat):Int)) U4 om_ om_ om_ U2<|Wt U6<|WN (λ_=>(AF _ (qE q) (SV (aV (xw q) dc_) dc_))) U9<|WV ((i*bp B+(edg es t).2)) U10 (λ_=>⟨by omega,by omega,(T0 _).symm⟩) U2<|WZ (j:=0) U11 ap<|Ww [2,4,5,7,8,9,12,13,14,17,61,62,65,66,67,72,73,74] c U ?_;clear c v R;rw[iq ap];refine U1 5 U λR c=>Wz (((i*es.length:Nat):Int)) (Tc _ _) U6<|WW (((n+i*es.length:Nat):Int)) U4 om_ om_ om_ U2<|Wt U6<|WW (((n+t:Nat):Int)) U4 om_ om_ om_ U2<|WV ((n+t)) U10 (λ_=>⟨by omega,by omega,(T0 _).symm⟩) U2<|WZ (j:=0) U11 ap<|Ww [2,4,5,7,8,9,12,13,14,17,61,62,65,66,67,72,73,74] c U ?_;clear c R;rw[bw,iq ap,<- pZ];refine G.freezeArr 0 ((rgF (n+a) n (bp B) es.length t (edg es t) (qE q)).map aP) (by unfold rgF;rw[aI];rfl) U bN (by rw[ar,uQ]) λ_ _ bx=>U1 1 U λR c=>WA af U9<|Wt U6<|WL [s_ bz (n+a) (n+a),ag [48]] U8<|WP [[s_ bz (n+a) (n+a),ag [48]]] U12 λcf _ _ bA=>W0 (j:=0) U11 bA.m_ U ay (by simp only[SN];omega) fl_ λaL aM aN=>Wt U6<|WB (j:=1) U12<|Ww [2,4,5,7,8,9,12,13,14,61,62,65,66,67,72,73,74] c U<|Wu λR c=>Wz _ U U6<|C6 1 [2,4,5,7,8,9,12,13,14,61,62,65,66,67,72,73,74] c U ?_;clear c R;have a0:rows.map (ck a)++(rgL (n+a) n (bp B) es t++(rgK (n+a) n (bp B) es t).take (q+1))=(rows.map (ck a)++(rgL (n+a) n (bp B) es t++(rgK (n+a) n (bp B) es t).take q))++[⟨rgF (n+a) n (bp B) es.length t (edg es t) (qE q),0⟩]:=by rw[CU aq];simp only[Tn]
    have I:(aB us (rows.map (ck a)++(rgL (n+a) n (bp B) es t++(rgK (n+a) n (bp B) es t).take q))).flatten++[[s_ bz (n+a) (n+a),ag [48]]].flatten=(aB (us++[s_ bz (n+a) (n+a)]) (rows.map (ck a)++(rgL (n+a) n (bp B) es t++(rgK (n+a) n (bp B) es t).take (q+1)))).flatten:=by
     rw[a0,cm ao.1,Ta,qtx_zero]
    refine G.perm (L':=[.arr (sG7 aL aM aN) 140 2 (rows.length+2*t+(q+1)) (aB (us++[s_ bz (n+a) (n+a)]) (rows.map (ck a)++(rgL (n+a) n (bp B) es t++(rgK (n+a) n (bp B) es t).take (q+1)))).flatten,.obj p (.cells ⟨[i_ (n+a:Nat),.slice aL aM aN,.slice none 0 0]⟩ 74 (0,0)),zaj o]) (by rw[<- I];(exact pkL [1,0,0] U)) ?_;refine WF (m':=2-(q+1)) om_ mup (hn_ [2,4,5,7,8,9,12,13,14,61,62,65,66,67,72,73,74] U) ⟨q+1,aL,aM,aN,us++[s_ bz (n+a) (n+a)],⟨by omega,by rw[a0];exact fa (RowsOk.m_ ao) bx.m_⟩,U,U,U⟩
   have aq:q=2:=by
    have:=SJ aJ;omega
   subst aq;refine Wu λR c=>Wz _ U U6<|C6 1 [2,4,5,7,8,9,12,61,62,65,66,67] c U ?_;clear c R;rw[show(rgK (n+a) n (bp B) es t).take 2=rgK (n+a) n (bp B) es t from rfl,<- uO]at ao⊢;refine WK (L':=[.arr (sG7 d n0 c0) 140 2 (rows.length+2*(i*es.length+(k+1))) (aB us (rows.map (ck a)++rgL (n+a) n (bp B) es (i*es.length+(k+1)))).flatten,.obj p (.cells ⟨[i_ (n+a:Nat),.slice d n0 c0,.slice none 0 0]⟩ 74 (0,0)),zaj o]) (by rw[show i*es.length+(k+1)=t+1 by omega,show rows.length+2*(t+1)=rows.length+2*t+2 by omega]) ?_;refine WF (m':=es.length-(k+1)) om_ mup (hn_ [2,4,5,7,8,9,12,61,62,65,66,67] U) ⟨k+1,d,n0,c0,us,⟨by omega,by rw[<- UQ,ht];exact RowsOk.mono ao mup⟩,U,U,U⟩
  obtain rfl:es.length=k:=by
   have:=SJ aG;omega
  refine Wu λR c=>Wz _ U U6<|C6 1 [2,4,5,7,8,9,61,62] c U ?_;clear c R;rw[<- Nat.succ_mul]at Y⊢;refine WF (m':=bs B-(i+1)) om_ mup (hn_ [2,4,5,7,8,9,61,62] U) ⟨i+1,d,n0,c0,us,⟨by omega,RowsOk.mono Y mup⟩,U,U,U⟩
 obtain rfl:bs B=i:=by
  have:=SJ aF;omega
 refine WQ [(1,3)] U λR c=>Wt U6<|D.call (nX _ n om_) U (.inr dc_) U6 (SQ _) fl_ (λcg _ ch _ bB=>?_);obtain⟨bz,rfl,rfl⟩:=bB;refine WP [[ag [49]]] U12 λci _ _ bC=>Wv 3 U<|WW (((a:Nat):Int)) U4 (by rw[<- K,Tc]) om_ om_ U2<|WT (Hk _ _ a 1 [49] fT bC.m_ om_) U7 fl_ (λcj _ _ bD=>?_);obtain⟨cn,rfl,bE⟩:=bD;refine W0 (j:=0) U11 bE.m_ (lG _) (by simp only[ar,Tf,maxLen];omega) (by simp only[ar,Tf];omega) fl_ λco cp cq=>Wt U6<|WB (j:=2) U12<|Ww [4,9] c U<|Wu λR c=>WA ah U9<|WB (j:=3) U12<|Ww [4] c U ?_;clear c R;have bF:List.replicate n (ag [48])++((List.replicate a (1:Rat)).map aP).flatten=((kI n a).map aP).flatten:=by
  rw[uR];unfold kI;rw[Tm,Ta]
 rw[bF];refine G.freezeArr 2 ((kI n a).map aP) U U bN (by rw[ar,mf];simp) (λCf ai J=>?_);rw[K]at ak⊢;refine G.freezeArr 2 (aB us (rows.map (ck a)++rgL (n+a) n (bp B) es a)) U U (cC _ _) (by rw[bI ak.1,SP,ar,uP]) λCg cr bG=>WE (Xi ah U4 ?_);refine⟨U,es,ax,_,_,_,_,_,_,by rw[K];rfl, ?_, ?_⟩
 .rw[K];exact mb (RowsOk.m_ ak) bG.m_
 rw[K];exact J.mono mup
theorem il (C:Mem)(a x y d:Str):Gives cx.P 56 [ag a,ag x,ag y,ag d] C (.agg ⟨[i_ 2,ag a,ag x,ag y,ag d,ag [66],ag [65],ag [],ag [],ag []]⟩):=by
 refine Wy func56 15 U3 λw0=>Wu λR b=>WI U5 λc=>Ww [0,1,2,3,8] b U<|U1 3 U λR b=>WL [ag x,ag y] U8<|Wt U6<|WL [i_ 2,ag a,ag x,ag y,ag d,ag [66],ag [65],ag [],ag [],ag []] U8<|WB (j:=0) U12<|Ww [8] b U<|WE (Xi ah U4 ?_);exact⟨U,U⟩
theorem R4 (l:List Nat):(xB l).pts.map gM=[[ag [48],ag [48]],[ag [54],ag [48]],[ag [48],ag [52]]]:=by
 show [[ag (qtx 0),ag (qtx 0)],[ag (qtx 6),ag (qtx 0)],[ag (qtx 0),ag (qtx 4)]]=_;rw[qtx_zero,q6,M7]
theorem Sa (l:List Nat):(xB l).col.map pq=[[ag [65],ag [48],ag []],[ag [66],ag [48],ag []]]:=by
 show [[ag [65],ag (qtx 0),ag []],[ag [66],ag (qtx 0),ag []]]=_;rw[qtx_zero]
theorem lF (C:Mem)(b:Value)(l:List Nat)(c:Sl C 10 b ((l.map xO).map gD)):Pur cx.P 55 [b] C λu D=>BookIn D u (xB l):=by
 obtain⟨f,c0,rfl,_⟩:=id c;refine Wy func55 20 U3 λw0=>Wu λR a=>WI U5 λp=>Ww [0,2] a U<|Wu λR a=>WL [ag [48],ag [48]] U8<|WL [ag [54],ag [48]] U8<|WL [ag [48],ag [52]] U8<|Xm [[ag [48],ag [48]],[ag [54],ag [48]],[ag [48],ag [52]]] U12 fl_ λd _ _ g=>WL [i_ 0,i_ 1,i_ 2] U8<|Xm [[i_ 0,i_ 1,i_ 2]] U12 fl_ λe _ _ h=>WL [s_ d 3 3,s_ e 1 1] U8<|WI U5 λq=>WB (j:=0) U12<|Ww [0,2,3] a U<|Wu λR a=>WL [ag [65],ag [48],ag []] U8<|WL [ag [66],ag [48],ag []] U8<|Xm [[ag [65],ag [48],ag []],[ag [66],ag [48],ag []]] U12 fl_ λi _ _ k=>C6 1 [0,2,3,4] a U<|G.freeze 0 U λ_ _ m=>Wu λR a=>Ws (bkT m 2) U8<|Xm [[ag [49,48]],[ag [49,48]],[ag [49,48]]] U12 fl_ λn _ _ o=>Wv 2 U<|WL [s_ d 3 3,s_ e 1 1,s_ n 3 3,s_ i 2 2,.slice f ((l.map xO).map gD).length c0] U8<|WB (j:=0) U12<|Ww [2] a U<|WE (Xi ah U4 ?_);exact⟨U,_,_,_,_,_,U,by rw[R4];exact g.mono mup,h.mono mup,o.mono mup,by rw[Sa];exact k.mono mup,c.mono mup⟩
def xC:List Rat:=EA 3 0 (0,1,2) (wgt (xB []).pts (0,1,2) (3,0)) 3
theorem xC_e:sgL xC 0=[1/2,1/2,0]/\sgL xC 1=[-1/2, -1/2,0]:=by decide +kernel
theorem R8:∀k,k<2->Lp.Lim (bQ 3 (dS (xR 0))) (λj=>(sgL xC k).getD j 0) 20:=λk a=>by
 have b:∀k<2,∀j<3,wlB 2 ((sgL xC k).getD j 0)=true:=by decide +kernel
 exact vu dc_ (ML 0 dc_) ⟨2,by decide,by decide,λj c=>Gp (b k a j c)⟩
theorem NP (h:NK (bQ 3 (dS (xR 0))) xC u):u=.tuple #[ag [54],ag [54],i_ 0]:=by
 obtain⟨e,f,g,i,_,h1,h2,h3⟩:=h;rw[xC_e.1]at h1;rw[xC_e.2]at h2;obtain⟨a,c⟩:=h1.same R7;obtain⟨b,d⟩:=(h2 om_).same Qq;rcases h3 with⟨h3,_⟩|⟨_,rfl⟩
 .omega
 unfold Gb oV;rw[aL a,aL b,c a,d b,show(1:Rat)*6=6 by decide +kernel,show(-1:Rat) * -6=6 by decide +kernel,q6]
theorem NS {D:Mem}(h:BuiO (xB [0,1]) (xRO [0,1]) D u):∃(A:Option Addr)(n c:Nat),u=.tuple #[.slice none 0 0,.agg ⟨[.slice A n c]⟩,.bool false,i_ 0]:=by
 cases h with
|yes pt v h1 h2 h3 h4 =>
  unfold nB at h1;rw[QU]at h1;exact absurd ⟨pt,h1⟩ x_no
|no du a h1 h2 =>
  obtain⟨A,c,rfl,_⟩:=id h2;exact⟨_,_,_,U⟩
theorem NQ {D:Mem}{b:List (Nat × Nat)}(d:EdgL (xB [2,3]).tris b)(h:FlatO (xB [2,3]) (xRO [2,3]) b D u):∃(A:Option Addr)(n c:Nat)(A2:Option Addr)(n2 c2:Nat),u=.tuple #[.agg ⟨[.slice A n c,ag [54],.slice A2 n2 c2]⟩,i_ 0]:=by
 obtain rfl:=d.same Rw;have a:=Qs;rw[<- QT]at a;cases h with
|opt v pt du g dv h1 h2 h3 =>
  obtain⟨vs,_,_,e⟩:=h2;obtain⟨A,c,rfl,_⟩:=id e;obtain⟨A2,c2,rfl,_⟩:=id h3;have f:=(h1.val.same a).2 rfl;exact⟨_,_,_,_,_,_,by rw[f,q6]⟩
|inf h1 =>
  obtain⟨_,⟨y,hy,_⟩,_⟩|⟨h,_⟩|⟨h,_⟩:=a
  .exact absurd ⟨y,hy⟩ h1
  .cases h
  cases h
theorem lN:gD (xO 0)=[i_ 2,ag [97],ag [51],ag [48],ag [52],ag [66],ag [65],ag [],ag [],ag []]/\gD (xO 1)=[i_ 2,ag [98],ag [51],ag [48],ag [53],ag [66],ag [65],ag [],ag [],ag []] /\
  gD (xO 2)=[i_ 2,ag [97],ag [48],ag [48],ag [52],ag [66],ag [65],ag [],ag [],ag []]/\gD (xO 3)=[i_ 2,ag [98],ag [54],ag [48],ag [49],ag [66],ag [65],ag [],ag [],ag []]:=by
 rw[JX,JX,JX,JX];exact⟨U,U,U,U⟩
theorem R3:(.agg ⟨[ag [51],ag [48]]⟩:Value)=ptV (3,0):=by
 show _=Value.agg ⟨[ag (qtx 3),ag (qtx 0)]⟩;rw[Hr,qtx_zero]
theorem Iq (C:Mem)(b:Tabs C):Gives cx.P 11 [] C (.bool true):=by
 have c:=λ(D:Mem)(d:C.le D)(bv:Value)(e:BookIn D bv (xB [0]))=>IC D (b.mono d) bv (xB [0]) xFs (xRO [0]) 0 (3,0) 0 [] (0,1,2) [49,48] e (zJ ok0) dc_ (MM 0 dc_).2.2.2.2 ⟨bA (MM 0 dc_).2.1,bA (MM 0 dc_).2.2.1⟩ (J4 0 dc_) rfl (x_w 0 dc_)
  (by rw[<- Q4];exact Qm 0 dc_) (λk f=>by
   have:=R8 k f;rw[<- rows0]at this;exact this)
 have g:∀es,EdgL (xB [2,3]).tris es->bs (xB [2,3])*bp (xB [2,3])+bs (xB [2,3])*es.length<=12:=λes h=>by
  obtain rfl:=h.same Rw;decide
 refine Wy func11 64 U3 λw0=>U1 1 U λR a=>Xp [] trivial (a _ _ _ U ?_);refine Wu λR a=>WD (il _ [97] [51] [48] [52]) U7<|Xm [[i_ 2,ag [97],ag [51],ag [48],ag [52],ag [66],ag [65],ag [],ag [],ag []]] U12 fl_ λw _ _ i=>WT (lF _ _ [0] (by show Sl _ 10 _ [gD (xO 0)];rw[lN.1];exact i.mono mup)) U7 fl_ λx _ _ l=>WL [ag [51],ag [48]] U8 ?_;rw[R3];refine WY (c _ mup _ l.m_) U7 (λy _ _ m=>?_);obtain rfl:=NP (by have:=m;unfold nB at this;rw[rows0]at this;exact this);refine C6 7 [1,2,3] a U<|Wu λR a=>WD (il _ [97] [51] [48] [52]) U7<|WD (il _ [98] [51] [48] [53]) U7<|Xm [[i_ 2,ag [97],ag [51],ag [48],ag [52],ag [66],ag [65],ag [],ag [],ag []],[i_ 2,ag [98],ag [51],ag [48],ag [53],ag [66],ag [65],ag [],ag [],ag []]] U12 fl_ λz _ _ n=>WT (lF _ _ [0,1] (by show Sl _ 10 _ [gD (xO 0),gD (xO 1)];rw[lN.1,lN.2.1];exact n.mono mup)) U7 fl_ λA _ _ o=>WY (IH _ b.m_ _ (xB [0,1]) xFs (xRO [0,1]) o.m_ (zJ ok01)) U7 (λB _ _ p=>?_);obtain⟨E,nb,F,rfl⟩:=NS p;refine Wv 5 U<|WI U5 λH=>Wt U6<|WB (j:=0) U12<|C6 2 [1,2,3,6,7] a U<|Wu λR a=>WD (il _ [97] [48] [48] [52]) U7<|WD (il _ [98] [54] [48] [49]) U7<|Xm [[i_ 2,ag [97],ag [48],ag [48],ag [52],ag [66],ag [65],ag [],ag [],ag []],[i_ 2,ag [98],ag [54],ag [48],ag [49],ag [66],ag [65],ag [],ag [],ag []]] U12 fl_ λI _ _ q=>WT (lF _ _ [2,3] (by show Sl _ 10 _ [gD (xO 2),gD (xO 3)];rw[lN.2.2.1,lN.2.2.2];exact q.mono mup)) U7 fl_ λJ _ _ r=>WT (DI _ b.m_ _ (xB [2,3]) xFs (xRO [2,3]) r.m_ (zJ ok23) dc_ dc_ g) U7 fl_ (λK _ _ s=>?_);obtain⟨es,t,u⟩:=s;obtain⟨L,M,N,O,Q,S,rfl⟩:=NQ t u;exact Wv 3 U<|WI U5 λT=>WB (j:=0) U12<|C6 1 [1,2,3,6,7,8,9] a U<|G.freeze 0 U λ_ _ v=>U1 5 U λR a=>WR U8<|Wv 3 U<|WR U8<|Wv 3 U<|WR U8<|Wv 3 U<|WR U8<|Wv 3 U<|WR U8<|Wv 2 U<|WU U6 (λ_=>PtrTo.blockT (Mem.get v mup) _ 1) U3<|Wt U6<|WR U8<|C6 1 [0] a U<|Wx U2<|⟨U,U⟩
theorem EV {o:Obs}{p:Pt}{t:Tri}{z:Rat}(h:(cT B.col o).length<=2):(rowsO B o p t z).length<=8:=by
 unfold rowsO;split
 .rw[SP];split <;> split <;> simp
 split
 .have:=LQ (c:=2) (f:=λk=>[1, -1].map (ir (bs B) (bp B) k (atT t (wgt B.pts t p)) (lM o z))) (l:=cT B.col o) (λk _=>by simp);omega
 have:=LQ (c:=4) (f:=λk=>[1, -1].map (ir (bs B) (bp B) k (atT t λj=>(slf B.pts t j).1) (rN o))++[1, -1].map (ir (bs B) (bp B) k (atT t λj=>(slf B.pts t j).2) (jz o))) (l:=cT B.col o) (λk _=>by simp);omega
def duL (rs:List (List Rat × Rat))(du:Nat->Rat):List Rat:=(List.range rs.length).map du
section
variable {n:Nat} {rs:List (List Rat × Rat)} {du:Nat->Rat}
theorem Nt {k:Nat}(h:k<rs.length):(duL rs du).getD k 0=du k:=Lp.map_range_getD h
theorem I2:(duL rs du).length=rs.length:=by simp[duL]
end
theorem Cy (c:∀j,QB 22 (pt j)):nG s p (eJ s p pt)=0:=by
 have b:(eJ s p pt).length=s:=by unfold eJ chunks;simp
 unfold nG;rw[aL b];refine rI λj a=>?_;rw[b]at a;have e:(eJ s p pt).getD j []=ze p (((List.range (s*p)).map pt).map qtx) j:=by
  unfold eJ chunks;rw[al,SI,Tl a];rfl
 rw[e];have h1:(j+1)*p<=s*p:=To _ a;have h2:(j+1)*p=j*p+p:=Nat.succ_mul _ _;unfold oK;rw[aL (by unfold ze;rw[UI,S2,ar,ar,TO];omega),S3.2 λx d=>?_]
 .rfl
 have f:=TP (Vb d);obtain⟨q,g,rfl⟩:=SL.1 f;obtain⟨j,_,rfl⟩:=SL.1 g;exact bA (c j)
theorem GD (a:∀j,QB 22 (pt j)):JN B (eJ (bs B) (bp B) pt) ((List.range (bs B*bp B)).map pt):=λ_=>by
 refine⟨?_,by simp,λx b=>?_⟩
 .rw[<- zS,<- List.map_flatten,sZ]
 obtain⟨j,_,rfl⟩:=SL.1 b;exact(a j).le dc_
theorem sY (a:∀j,QB 22 (pt j)):∀l∈eJ s p pt,∀x∈l,x.length<=999998:=λl b x c=>by
 obtain⟨j,_,rfl⟩:=SL.1 b;have d:=TP (Vb c);obtain⟨q,e,rfl⟩:=SL.1 d;obtain⟨j,_,rfl⟩:=SL.1 e;exact SV (aV (a j) dc_) dc_
theorem Mx {p:Lp.Sys}:(p.At λj=>((List.range p.n).map pt).getD j 0) ↔ p.At pt:=by
 have e:∀j,j<p.n->((List.range p.n).map pt).getD j 0=pt j:=λj b=>by
  rw[al,SI,Tl b];rfl
 refine forall_congr' λr=>imp_congr_right λ_=>?_;rw[show Lp.sumN (λj=>p.a r j*(λj=>((List.range p.n).map pt).getD j 0) j) p.n=Lp.sumN (λj=>p.a r j*pt j) p.n from Lp.sumN_congr λj b=>by show p.a r j*((List.range p.n).map pt).getD j 0=_;rw[e j b]]
theorem Rq {a:Nat->List RowQ}(b:∀j,QB 22 (pt j)):Po B a (eJ (bs B) (bp B) pt) ((List.range (bs B*bp B)).map pt)=if atB (nB B a) pt=true then 0 else 23:=by
 unfold Po;rw[aF (λh=>h (Cy b))];have this:((nB B a).At λj=>((List.range (bs B*bp B)).map pt).getD j 0) ↔ (nB B a).At pt:=Mx (p:=nB B a) (pt:=pt);by_cases h:(nB B a).At pt
 .rw[aL (this.2 h),aL (BG.2 h)]
 rw[aF λh2=>h (this.1 h2),aF λh2=>h (BG.1 h2)]
end Go.Proofs.YtfjcldheldflbaaGreatDoor
