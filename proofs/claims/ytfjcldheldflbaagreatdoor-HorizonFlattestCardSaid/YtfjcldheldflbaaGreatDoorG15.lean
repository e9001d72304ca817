import Derived.Test.YtfjcldheldflbaaGreatDoorG14
set_option maxHeartbeats 4000000
namespace Go.Proofs.YtfjcldheldflbaaGreatDoor
open Go.Proofs.Tryz
open Go Go.Jog
set_option maxRecDepth 100000
variable {B:Bk}{C:Mem}{i n p:Nat}{ps:List Rat}{pt:Nat->Rat}{rows:List RowQ}{s:Nat}{u v:Value}
def RowsIn6 (D:Mem)(v:Value)(rows:List RowQ):Prop:=∃vs,RowsOk D vs rows/\Sl D 2 v (aA vs rows)
theorem RowsIn6.mono {C D:Mem}{v:Value}{a:List RowQ}(h:RowsIn6 C v a)(b:C.le D):RowsIn6 D v a:=by
 obtain⟨vs,h1,h2⟩:=h;exact⟨vs,RowsOk.mono h1 b,h2.mono b⟩
theorem RowsIn6.m_ {D:Mem}(h:RowsIn6 C v rows)(a:C.le D:=by exact mup):RowsIn6 D v rows:=RowsIn6.mono h a
theorem RowsIn6.T (h:RowsIn6 C v rows):RowsT C v ((dD rows).map dp):=by
 obtain⟨vs,h1,h2⟩:=h;exact jW h1 h2
abbrev sL6 (A:Option Addr)(n c:Nat):Value:=.slice A n c
theorem ri (C:Mem)(M:Tabs C)(d:Value)(B:Bk)(A:List Rat)(c:Nat->List RowQ)(e:BookIn C d B)(h:Calm B A c) :
  Pur cx.P 13 [d] C λu D=>∃v,u=.tuple #[v,.bool true]/\RowsIn6 D v (cU B c):=by
 have aj:=e;have N:=h.cnt (cH B.obs.length);have ak:=h.ob;obtain⟨l,g⟩:∃l,bU (bJ B) c (List.range B.obs.length)=l:=⟨_,rfl⟩;have F:cU B c=l.map SrcQ.r:=by rw[<- G2,g]
 have al:l.length<=120:=by
  have:=N;rw[show oK B c (List.range B.obs.length)=cU B c from rfl,F,au]at this;exact this
 have O:∀D:Mem,C.le D->Pur cx.P 54 [d] D λu E=>∃v,u=.tuple #[v,i_ 0]/\D9 E v l:=λD H=>by
  have:=Nr D (M.mono H) d B A c (e.mono H) h.rich om_ (by rw[g];omega);rw[g]at this;exact this
 rw[F];obtain⟨v1,v2,tv,cv,ov,rfl,h1,h2,h3,h4,h5⟩:=id e.ex;have am:=mx_
 refine V7 func13 29 U3 λw0=>V3 λR a=>Wi U6 λb1=>C6 2 [1] a U<|G.freeze 0 U λ_ _ Q=>V3 λR a=>V1 (bkT Q 5) U8<|Wz (O _ mup) U7 (λan _ _ S=>?_);obtain⟨wv,rfl,T⟩:=S;obtain⟨vs,k,n⟩:=T;have o:=jT k;obtain⟨V,W,rfl,X,ao,_⟩:=id n;have Y:(bY vs l).length=l.length:=by unfold bY;simp[o]
 rw[Y]at n X⊢;refine C6 5 [4,5] a U<|U0 1 [4,5,6] U<|U0 3 [5,6,14,15,16] U<|G.nilArr 140 2<|G.loop (λfr C' I Z=>∃(i:Nat)(p:Option Addr)(n1 q:Nat),(i<=l.length)/\fr=[(5,[],i_ 0),(6,[],.slice p n1 q),(14,[],.slice V l.length W),(15,[],i_ l.length),(16,[],i_ i)]/\I=[.arr (sL6 p n1 q) 140 2 i (prC (vs.take i) (l.take i)).flatten]/\Z=l.length-i) (hn_ [5,6,14,15,16] U) ⟨0,none,0,0,Sm _,U,U,U⟩ (λfr ap aq m _ hI=>?_);obtain⟨i,p,n1,q,hi,rfl,rfl,rfl⟩:=hI;refine U0 1 [5,6,14,15,16,17] U<|G.cd (λt=>?_) λt=>?_
 .have x:i<l.length:=by
   have:=RD t;omega
  obtain⟨s,y⟩:∃s,l[i]?=some s:=⟨l[i],ah x⟩;obtain⟨w,z⟩:∃w,vs[i]?=some w:=⟨vs[i]'om_,ah om_⟩;have aa:=k.2 i w s.r z (by rw[Sh,y];rfl);obtain⟨Ax,ab,rfl,_⟩:=id aa;have ac:=CX o z y;refine V3 λR a=>Wf n.m_ U10 om_ (MH z y) fl_ λar ad=>V1 ad U8<|Wg U5 λb8=>Wa (j:=0) U12<|V5 [5,6,8,14,15,16] a U<|G.freeze 0 U λ_ _ af=>U1 2 U λR a=>V1 (bkT af 2) U8<|Wq [[.slice Ax (s.r.f.map eH).length ab,ae (qtx s.r.b)]] U12 λav _ _ ag=>WB (j:=0) U11 ag.m_ U ax (by show(i+1)*40<=_;omega) fl_ λJ K L=>C6 1 [5,6,14,15,16] a U<|V3 λR a=>V8 _ U U6<|C6 1 [5,6,14,15,16] a U<|Wk (L':=[.arr (sL6 J K L) 140 2 (i+1) (prC (vs.take (i+1)) (l.take (i+1))).flatten]) (by rw[ac,SI];rfl)<|We (m':=l.length-(i+1)) om_ mup (hn_ [5,6,14,15,16] U) ⟨i+1,J,K,L,om_,U,U,U⟩
 have x:i=l.length:=by
  have:=Si t;omega
 subst x;refine U0 5 [2,3] U ?_;rw[SL (show vs.length<=l.length by omega),Ss];refine G.freezeArr 0 (prC vs l) U2 (OA _ _) (by rw[prC,bG (by simp[o]),au]) λCf aw ai=>Wd (G.dropAll (Wu U3 ?_));exact⟨U,_,U,vs,RowsOk.mono k mup,ai⟩
theorem mW (C:Mem)(b:Value)(B:Bk)(d:BookIn C b B)(g:bs B+1=B.col.length)(h:bs B*bp B<=1000):Gives cx.P 17 [b] C (i_ (bs B*bp B:Nat)):=by
 obtain⟨i,j,k,l,m,rfl,h1,h2,h3,h4,h5⟩:=id d.ex;obtain⟨n,o,rfl,e,_⟩:=id h1;obtain⟨p,q,rfl,f,_⟩:=id h4;have r:=mx_
 simp only[au]at e f⊢;exact V7 func17 12 U3 λw0=>V3 λR a=>Wi U6 λs=>C6 1 [1] a U<|G.freeze 0 U λ_ _ c=>U1 1 U λR a=>V1 (bkT c 1) U8<|V2 U6<|Wx (((bs B:Nat):Int)) U4 om_ om_ om_ U2<|V4 2 U<|V1 (bkT c 1) U8<|V2 U6<|V8 (((bs B*bp B:Nat):Int)) (SK _ _) U6<|C6 1 [2] a U<|V6 U2<|⟨U,U⟩
theorem Lx (C:Mem)(n:Nat)(j:n<=1000000):Jog.Fn cx.P 151 [.slice none 0 0,i_ n] C [] λu _ h=>∃A n2 c,u=.slice A n2 c/\h=[.arr u 32 1 0 []]:=by
 have k:=mx_
 refine V7 func151 27 U3 λw0=>U0 1 [0,1] U<|U0 2 [0,1,6] U<|G.cd (λd=>?_) λd=>?_
 .simp at d;omega
 refine U1 2 U λR a=>Xj U9<|V4 2 U<|V8 _ U U6<|V8 _ U U6<|C6 1 [0,1] a U<|U0 2 [0,1,16] U<|G.cd (λf=>?_) λf=>?_
 .have i:0<n:=by
   simp at f;omega
  refine U1 2 U λR a=>Xj U9<|WN 0 0 0 U12 (λ_=>⟨.inl ⟨U,U⟩,.inr ⟨_,U⟩,.inl ⟨U,U⟩,Sg _,Sg _,Sg _⟩) U2<|V2 U6<|XN (m:=n) U12 i (by show n*16<=_;omega) y_ fl_ λb g l=>V4 2 U<|WN 0 0 g U12 (λ_=>⟨.inl ⟨U,U⟩,.inr ⟨_,U⟩,.inl ⟨U,U⟩,Sg _,Sm _,Sg _⟩) U2<|C6 1 [0] a U<|U0 2 [4] U<|X0 0 0 U (Sm _)<|Wd (WD U U ?_);refine⟨_,_,_,U, ?_⟩;have e:(if g=0 then some (⟨b,0,none⟩:Addr) else (some (⟨b,0,none⟩:Addr)).map (·.add (0*1)))=some ⟨b,0,none⟩:=by
   split
   .rfl
   simp[Addr.add_lit]
  rw[e];simp
 refine U0 2 [4] U<|G.nilArr 32 1<|Wd (WD U U ?_);exact⟨none,0,0,U,U⟩
theorem FA (C:Mem)(v:Value)(a:List (Value × List Rat))(h:Sl C 1 v (a.map yK))(B:∀x∈a,Sl C 1 x.1 (x.2.map aM))(K:(gQ a).length<=1000000) :
  Jog.Fn cx.P 85 [v] C [] λu _ e=>∃A n2 c,u=.slice A n2 c/\e=[.arr u 32 1 (gQ a).length ((gQ a).map aM).flatten]:=by
 obtain⟨p,c0,rfl,L,Z,_⟩:=id h;have aa:=mx_
 simp only[au]at h L⊢;refine V7 func85 36 U3 λw0=>U0 1 [0] U<|U0 1 [0,3] U<|U0 3 [0,3,9,10,11] U<|G.loop (λfr M e q=>∃(i:Nat)(z:Int),(i<=a.length/\z=(gQ (a.take i)).length)/\fr=[(0,[],.slice p a.length c0),(3,[],i_ z),(9,[],.slice p a.length c0),(10,[],i_ a.length),(11,[],i_ i)]/\e=[]/\q=a.length-i) (hn_ [0,3,9,10,11] U) ⟨0,0,⟨Sm _,U⟩,U,U,U⟩ (λfr ab ac m _ r=>?_);obtain⟨i,z,⟨hi,s⟩,rfl,rfl,rfl⟩:=r;refine U0 1 [0,3,9,10,11,12] U<|G.cd (λt=>?_) λt=>?_
 .have f:i<a.length:=by
   have:=RD t;omega
  obtain⟨x,d⟩:∃x,a[i]?=some x:=⟨a[i],ah f⟩;have g:=B x (aJ d);obtain⟨w,l⟩:=x;simp only at g;obtain⟨Ax,ad,rfl,N,af,_⟩:=id g;simp only[au]at g N d;have k:=mY d;have E:=wd a (i+1);have O:(gQ (a.take (i+1))).length=(gQ (a.take i)).length+l.length:=by rw[k,So]
  refine V3 λR b=>Wf h.m_ U10 om_ (show(a.map yK)[i]?=some [_] from dJ d) fl_ λag Q=>V1 Q U8<|C6 1 [0,3,5,9,10,11] b U<|U1 3 U λR b=>V8 _ U U6<|C6 1 [0,3,9,10,11] b U<|U0 2 [0,3,9,10,11,20] U<|G.cd (λF=>?_) λF=>?_
  .exfalso;have ai:=RD F;omega
  refine V3 λR b=>V8 _ U U6<|C6 1 [0,3,9,10,11] b U<|We (m':=a.length-(i+1)) om_ mup (hn_ [0,3,9,10,11] U) ⟨i+1,_,⟨by omega,by rw[s];omega⟩,U,U,U⟩
 have f:i=a.length:=by
  have:=Si t;omega
 rw[f,Ss]at s;subst s;refine Wt [(1,3)] U λR b=>V2 U6<|D.call (Lx _ (gQ a).length K) U (.inr dc_) U6 (Sp _) fl_ (λaj _ ak _ S=>?_);obtain⟨T,V,W,rfl,rfl⟩:=S;refine C6 1 [0,6] b U<|U0 3 [6,25,26,27] U<|G.loop (λfr M e q=>∃(i:Nat)(n:Option Addr)(n1 o:Nat),(i<=a.length)/\fr=[(6,[],.slice n n1 o),(25,[],.slice p a.length c0),(26,[],i_ a.length),(27,[],i_ i)]/\e=[.arr (.slice n n1 o) 32 1 (gQ (a.take i)).length ((gQ (a.take i)).map aM).flatten]/\q=a.length-i) (hn_ [6,25,26,27] U) ⟨0,T,V,W,Sm _,U,U,U⟩ (λfr al am m E r=>?_);obtain⟨i,n,n1,o,an,rfl,rfl,rfl⟩:=r;refine U0 1 [6,25,26,27,28] U<|G.cd (λy=>?_) λy=>?_
 .have f:i<a.length:=by
   have:=RD y;omega
  obtain⟨x,d⟩:∃x,a[i]?=some x:=⟨a[i],ah f⟩;have g:=B x (aJ d);have k:=mY d;have E:=wd a (i+1);have O:(gQ (a.take (i+1))).length=(gQ (a.take i)).length+x.2.length:=by rw[k,So]
  refine V3 λR b=>Wf h.m_ U10 om_ (show(a.map yK)[i]?=some [x.1] from dJ d) fl_ λao X=>V1 X U8<|C6 1 [6,8,25,26,27] b U<|U1 2 U λR b=>WB (j:=0) U11 g.m_ (by simp[aM,kR,ae]) (by simp only[au,maxLen];omega) (by show((gQ (a.take i)).length+(x.2.map aM).length)*16<=_;rw[au];omega) fl_ λH I J=>C6 1 [6,25,26,27] b U<|V3 λR b=>V8 _ U U6<|C6 1 [6,25,26,27] b U<|Wk (L':=[.arr (.slice H I J) 32 1 (gQ (a.take (i+1))).length ((gQ (a.take (i+1))).map aM).flatten]) (by rw[k,SV,SI,So,au];rfl)<|We (m':=a.length-(i+1)) om_ mup (hn_ [6,25,26,27] U) ⟨i+1,H,I,J,om_,U,U,U⟩
 have Y:i=a.length:=by
  have:=Si y;omega
 refine U0 2 [2] U<|Wd (WD U U ?_);exact⟨n,n1,o,U,by rw[Y,Ss]⟩
theorem Ah (C:Mem)(g:Tabs C)(v:Value)(l:List Str)(a:Sl C 1 v (l.map kK))(t:l.length<=100000)(h:∀s∈l,s.length<=999998)(j:∀s∈l,aS s=true):Gives cx.P 86 [v] C (.bool true):=by
 obtain⟨k,c0,rfl,_⟩:=id a;simp only[au]at a⊢;refine V7 func86 16 U3 λw0=>U0 1 [0] U<|U0 1 [0,3] U<|G.loop (λfr u n o=>∃(i:Nat),(i<=l.length)/\fr=[(0,[],.slice k l.length c0),(3,[],i_ i)]/\n=[]/\o=l.length-i) (hn_ [0,3] U) ⟨0,Sm _,U,U,U⟩ (λfr w x m _ p=>?_);obtain⟨i,y,rfl,rfl,rfl⟩:=p;refine U0 4 [0,3,7] U<|G.cd (λd=>?_) λd=>?_
 .have q:i<l.length:=by
   have:=RD d;omega
  obtain⟨s,e⟩:∃s,l[i]?=some s:=⟨l[i],ah q⟩;have f:=aJ e;refine U1 2 U λR b=>Wf a.m_ U10 om_ (by rw[Sh,e];rfl:(l.map kK)[i]?=some (kK s)) fl_ λz r=>V1 r U8<|Wb (G6 _ g.m_ s (h s f)) U7<|C6 1 [0,3,15] b U<|G.cd (λc=>?_) λc=>?_
  .rw[j s f]at c;exact absurd c dc_
  refine U1 1 U λR b=>V8 _ U U6<|C6 1 [0,3] b U<|We (m':=l.length-(i+1)) om_ mup (hn_ [0,3] U) ⟨i+1,om_,U,U,U⟩
 exact U0 1 [2] U<|V6 U2<|⟨U,U⟩
theorem Lk (C:Mem)(h:Tabs C)(j k:Value)(a b:List Rat)(d:Sl C 1 j (a.map aM))(e:Sl C 1 k (b.map aM))(B:b.length=a.length)(D:a.length<=1000)(l:∀x∈a,QB 1 x)(n:∀x∈b,QB 22 x)(p:∀i,i<=a.length->QB 40 (lE a b i)) :
  Gives cx.P 89 [j,k] C (ae (qtx (lE a b a.length))):=by
 obtain⟨q,r,rfl,_⟩:=id d;obtain⟨A2,c2,rfl,_⟩:=id e;simp only[au]at d e⊢;refine V7 func89 25 U3 λw0=>U0 1 [0,1] U<|U0 1 [0,1,5] U<|U0 1 [0,1,5,6] U ?_;have s:Value.string ⟨#[48]⟩=ae (qtx (lE a b 0)):=by
  show _=ae (qtx 0);rw[qtx0];rfl
 rw[s];refine G.loop (λfr E t u=>∃(i:Nat),(i<=a.length)/\fr=[(0,[],.slice q a.length r),(1,[],.slice A2 b.length c2),(5,[],ae (qtx (lE a b i))),(6,[],i_ i)]/\t=[]/\u=a.length-i) (hn_ [0,1,5,6] U) ⟨0,Sm _,U,U,U⟩ (λfr F H m _ v=>?_);obtain⟨i,I,rfl,rfl,rfl⟩:=v;refine U0 4 [0,1,5,6,10] U<|G.cd (λf=>?_) λf=>?_
 .have o:i<a.length:=by
   have:=RD f;omega
  obtain⟨x,c⟩:∃x,a[i]?=some x:=⟨a[i]'om_,ah om_⟩;obtain⟨y,hy⟩:∃y,b[i]?=some y:=⟨b[i]'om_,ah om_⟩;have w:=yL c hy;refine Wn [0,1,2,3,4,5,6,7,8,9,10,11] [(9,1),(10,1)] U kr_ λR J g=>V4 3 U<|Wf d.m_ U10 om_ (by rw[Sh,c];rfl:(a.map aM)[i]?=some (aM x)) fl_ λK z=>V1 z U8<|V4 2 U<|Wf e.m_ U10 om_ (by rw[Sh,hy];rfl:(b.map aM)[i]?=some (aM y)) fl_ λL A=>V1 A U8<|Wo (λ_=>(KB _ h.m_ x y 22 dc_ dc_ ((l x (aJ c)).le dc_) (n y (aJ hy)))) U9<|Wo (λ_=>(uO _ h.m_ (lE a b i) (x*y) 40 dc_ dc_ (p i om_) ((fS (l x (aJ c)) (n y (aJ hy))).le dc_))) U9<|C6 1 [0,1,5,6] g U<|U1 1 U λR g=>V8 _ U U6<|C6 1 [0,1,5,6] g U ?_;rw[<- w];refine We (m':=a.length-(i+1)) om_ mup (hn_ [0,1,5,6] U) ⟨i+1,om_,U,U,U⟩
 have o:i=a.length:=by
  have:=Si f;omega
 subst o;exact U0 2 [4] U<|V6 U2<|⟨U,U⟩
def zJ (s p:Nat)(pt:Nat->Rat):List (List Rat):=(List.range s).map λj=>(((List.range (s*p)).map pt).take ((j+1)*p)).drop (j*p)
theorem zI (s p:Nat)(a:Nat->Rat):(zJ s p a).map (·.map qtx)=fh s p a:=by
 unfold zJ fh chunks yU;rw[Th];refine List.map_congr_left λj _=>?_;show(List.drop _ (List.take _ _)).map qtx=_;rw[List.map_drop,Us]
theorem xe (p:Nat)(l:List Rat):∀s,((List.range s).map λj=>(l.take ((j+1)*p)).drop (j*p)).flatten=l.take (s*p)
|0=>by simp
|s+1=>by
  rw[Tz,SV,SI,xe p l s,List.map_singleton,List.flatten_singleton];have e:l.take (s*p)=(l.take ((s+1)*p)).take (s*p):=by rw[Ve,Tj (SY _ (UA s))]
  rw[e,Tf]
theorem sS (s p:Nat)(a:Nat->Rat):(zJ s p a).flatten=(List.range (s*p)).map a:=by
 unfold zJ;rw[xe,SL al]
theorem Pd {a:List (List Rat)}(h:FieldsIn C v (a.map (·.map qtx))):∃xs:List (Value × List Rat),xs.map (·.2)=a/\Sl C 1 v (xs.map yK)/\∀x∈xs,Sl C 1 x.1 (x.2.map aM):=by
 obtain⟨vs,h1,h2,h3⟩:=h;rw[au]at h1;refine⟨vs.zip a, ?_, ?_,λx b=>?_⟩
 .rw[<- List.unzip_snd,List.unzip_zip_right om_]
 .have e:(vs.zip a).map yK=vs.map λw=>[w]:=by
   conv=>rhs;rw[<- List.map_fst_zip (l₁:=vs) (l₂:=a) om_,Th]
   rfl
  rw[e];exact h3
 obtain⟨i,c,rfl⟩:=List.mem_iff_getElem.1 b;rw[List.length_zip]at c;rw[List.getElem_zip];have:=h2 i vs[i] (a[i].map qtx) (ah om_) (by rw[Sh,ah om_];rfl);rw[AX];exact this
open Classical in
noncomputable def yh (n:Nat)(pt:Nat->Rat)(r:RowQ):Bool:=decide (r.b<Lp.sumN (λj=>r.f.getD j 0*pt j) n)
theorem Ng {r:RowQ}(a:i<=n):lE r.f ((List.range n).map pt) i=Lp.sumN (λj=>r.f.getD j 0*pt j) i:=by
 unfold lE;refine Lp.sumN_congr λj b=>?_;rw[ak (l:=(List.range n).map pt),Sh,SU om_];rfl
theorem E8 (C:Mem)(h:Tabs C)(l m:Value)(b n k:Nat)(r:RowQ)(a:Nat->Rat)(u:C b=some (.cells ⟨[m]⟩ 41 (0,0)))(o:Sl C 1 l (r.f.map eH))(c:Sl C 1 m (((List.range n).map a).map aM))(d:RowI r)(e:r.f.length=n)(v:n<=1000)(B:k<=22)(w:Lp.CmD n k a)(y:∀j,QB 22 (a j)) :
  Gives cx.P 88 [.agg ⟨[l,ae (qtx r.b)]⟩,p_ b] C (.bool (yh n a r)):=by
 obtain⟨D,c0,rfl,_⟩:=id o;obtain⟨E,F,rfl,_⟩:=id c;have p:∀i,i<=n->QB 40 (lE r.f ((List.range n).map a) i):=λi s=>by
  rw[Ng s];exact(Qy d w s v).le om_
 have z:∀x∈(List.range n).map a,QB 22 x:=λx c=>by
  obtain⟨j,_,rfl⟩:=Sn.1 c;exact y j
 have A:decide (nZ (lE r.f ((List.range n).map a) n) r.b > 0)=yh n a r:=by
  rw[Bm,Ng (Sg n)];unfold yh;exact S8.2 Iff.rfl
 exact V7 func88 12 U3 λw0=>V3 λR g=>Wi U6 λH=>C6 1 [1,2] g U<|G.freeze 0 U λ_ _ t=>Wn [0,1,2,3,4,5,6,7,8] [(3,1),(6,1)] U kr_ λR I g=>V2 U6<|V1 (bkT t 1) U8<|V1 (bkT u 1) U8<|Wo (λ_=>(Lk _ h.m_ _ _ r.f ((List.range n).map a) o.m_ c.m_ am om_ d.q.1 z (by rw[e];exact p))) U9<|V2 U6<|V1 (bkT t 1) U8<|Wo (λ_=>(xJ _ h.m_ (lE r.f ((List.range n).map a) r.f.length) r.b 40 dc_ dc_ (by rw[e];exact p n (Sg n)) (d.q.2.le dc_))) U9<|C6 2 [3] g U<|V6 U2<|⟨by rw[e,A],U⟩
open Classical in
noncomputable def atB (p:Lp.Sys)(pt:Nat->Rat):Bool:=decide (p.At pt)
theorem BA {p:Lp.Sys}:atB p pt=true ↔ p.At pt:=by
 unfold atB;exact @decide_eq_true_iff _ (Classical.propDecidable _)
open Classical in
theorem Mm :(!rows.any (yh n pt))=atB (bN n (dD rows)) pt:=by
 unfold atB;by_cases h:(bN n (dD rows)).At pt
 .rw[SB h,List.any_eq_false.2 λr hr=>?_]
  .rfl
  have:=gj.1 h r hr;unfold yh;rw[SM (Rat.not_lt.2 this)];decide
 rw[SM h];have:rows.any (yh n pt)=true:=by
  refine SQ λa=>h (gj.2 λr hr=>Rat.not_lt.1 λb=>a ?_);refine UM.2 ⟨r,hr, ?_⟩;unfold yh;exact SB b
 rw[this];rfl
theorem E7 (C:Mem)(l:Tabs C)(m y:Value)(B:Bk)(z:List Rat)(g:Nat->List RowQ)(a:Nat->Rat)(k:Nat)(d:BookIn C m B)(h:Calm B z g)(c:FieldsIn C y (fh (bs B) (bp B) a))(M:k<=22)(A:Lp.CmD (bs B*bp B) k a)(o:∀j,QB 22 (a j)) :
  Gives cx.P 31 [m,y] C (.bool (atB (nC B g) a)):=by
 have E:=d;have N:=h.n12;have O:=h.rich.scol.1;have p:=λ(D:Mem)(e:C.le D)=>mW D m B (d.mono e) O om_;have Q:=cH B.obs.length;rw[<- zI]at c;obtain⟨xs,F,r,S⟩:=Pd c;have t:gQ xs=(List.range (bs B*bp B)).map a:=by unfold gQ;rw[F,sS]
 have T:xs.length=bs B:=by rw[<- au (f:=(·.2)),F];unfold zJ;simp
 obtain⟨As,cs,rfl,V,_⟩:=id r;simp only[au,T]at r V⊢;obtain⟨v1,v2,tv,cv,ov,rfl,h1,h2,h3,h4,h5⟩:=id d.ex;obtain⟨A4,c4,rfl,W,_⟩:=id h4;have X:(B.col.map pi).length=bs B+1:=by rw[au];omega
 simp only[X]at h4 W E p⊢;have ag:=mx_
 obtain⟨n,Y⟩:∃n,bs B*bp B=n:=⟨_,rfl⟩;have H:=h.rl;have Z:=h.rowI Q;have I:∀s∈((List.range (bs B*bp B)).map a).map qtx,aS s=true:=λs c=>by
  obtain⟨q,u,rfl⟩:=Sn.1 c;obtain⟨j,_,rfl⟩:=Sn.1 u;exact bx (o j)
 have J:∀s∈((List.range (bs B*bp B)).map a).map qtx,s.length<=999998:=λs c=>by
  obtain⟨q,u,rfl⟩:=Sn.1 c;obtain⟨j,_,rfl⟩:=Sn.1 u;exact Su (aV (o j) dc_) dc_
 unfold nC;rw[Y]at I J p N t H A⊢;refine V7 func31 42 U3 λw0=>V3 λR b=>Wi U6 λb2=>C6 1 [1,2] b U<|G.freeze 0 U λ_ _ v=>V3 λR b=>V1 (bkT v 5) U8<|Wz (ri _ l.m_ _ B z g E.m_ h) U7 (λah _ _ aa=>?_);obtain⟨lv,rfl,ab⟩:=aa;refine C6 5 [1,2,5,6] b U<|Wt [(1,3)] U λR b=>V2 U6<|D.call (FA _ _ xs r.m_ (λx i=>(S x i).mono mup) (by rw[t];simp;omega)) U (.inr dc_) U6 (Sp _) fl_ (λai _ aj _ ac=>?_);obtain⟨Ax,nx,ad,rfl,rfl⟩:=ac;rw[t];refine Wg U5 λK=>Wa (j:=0) U12<|V5 [1,2,5,6,7] b U<|XG af (λA0 c0 ae _=>?_);obtain⟨rfl,rfl,rfl⟩:Ax=A0/\nx=((List.range n).map a).length/\ad=c0:=by cases ae;exact⟨rfl,rfl,rfl⟩
 refine G.freezeArr 1 (((List.range n).map a).map aM) U2 bK al λ_ _ L=>G.freeze 0 U λ_ _ w=>Wn [0,1,2,3,4,5,6,7,8,9,10,11,12,13,14,15,16,17,18,19,20,21,22,23,24,25,26,27] [] U kr_ λR d b=>V4 5 U<|Wv U6 (λ_=>PtrTo.blockT (Mem.get v mup) _ 1) U3<|V2 U6<|Wx (((bs B:Nat):Int)) U4 om_ om_ om_ U2<|V2 U6<|Wr U8<|V2 U6<|Wv U6 (λ_=>PtrTo.blockT (Mem.get w mup) _ 1) U3<|V2 U6<|Wv U6 (λ_=>PtrTo.blockT (Mem.get v mup) _ 5) U3<|WC (λ_=>(p _ mup)) U9<|V2 U6<|Wr U8<|V2 U6<|Wv U6 (λ_=>PtrTo.blockT (Mem.get w mup) _ 1) U3<|Wo (λ_=>(Ah _ l.m_ _ (((List.range n).map a).map qtx) (by rw[<- fx];exact L.mono mup) am J I)) U9<|Wr U8<|V4 3 U<|Wo (λ_=>(oN _ _ (cU B g) 88 [p_ K] (yh n a) ab.m_ kr_ (λx i D fv e hf=>E8 D (l.mono (Mem.le.trans mup e)) fv _ K n k x a (Mem.le.trans mup e _ _ w) hf (L.mono (Mem.le.trans mup e)) (Z x i) (H x i) om_ M A o))) U9<|V2 U6<|Wr U8<|V2 U6<|V5 [4] b U ?_;clear b d R;refine V6 U2<|⟨?_,U⟩;rw[<- Mm];simp
theorem MM (h:∀r∈rows,RowI r):JB ((dD rows).map dp):=λr hr=>by
 obtain⟨x,a,rfl⟩:=Sn.1 hr;obtain⟨h1,h2⟩:=lY h x a;refine⟨λs hs=>?_,Su (aV h2 dc_) dc_⟩;obtain⟨q,b,rfl⟩:=Sn.1 hs;exact Su (aV (h1 q b) dc_) dc_
theorem JZ {a:List (List Rat × Rat)}:∀i,(zA a ps n i).length=0 ↔ ∀k,k<i->lE (a.getD k ([],0)).1 ps n<=(a.getD k ([],0)).2:=by
 intro i;induction i with
|zero=>exact⟨λ_ k b=>absurd b (Nat.not_lt_zero _),λ_=>rfl⟩
|succ i c =>
  unfold zA;by_cases h:(a.getD i ([],0)).2<lE (a.getD i ([],0)).1 ps n
  .rw[aK h];refine⟨λh2=>by simp at h2,λh2=>?_⟩;have:=h2 i (Nat.lt_succ_self _);grind
  rw[aF h,c];refine⟨λh2 k b=>?_,λh2 k b=>h2 k om_⟩;rcases Nat.lt_or_eq_of_le (Nat.le_of_lt_succ b) with h3|h3
  .exact h2 k h3
  rw[h3];grind
theorem MD :(zA (dD rows) ps n (dD rows).length).length=0 ↔ (bN n (dD rows)).At λj=>ps.getD j 0:=by
 rw[JZ];have hm:(dD rows).length=rows.length:=au _;exact⟨λh r hr=>h r hr,λh r hr=>h r hr⟩
open Classical in
noncomputable def O7 (B:Bk)(RO:Nat->List RowQ)(ls:List (List Str))(ps:List Rat):Int:=if oQ (bs B) (bp B) ls≠0 then oQ (bs B) (bp B) ls else if (nC B RO).At (λj=>ps.getD j 0) then 0 else 23
theorem Ep {a:List (List Str)}(h:oQ s p a=0){x:Str}(c:x∈a.flatten):aS x=true:=by
 unfold oQ at h;split at h
 .obtain⟨l,d,e⟩:=List.mem_flatten.1 c;obtain⟨j,b⟩:=TR d;have f:=(aT.1 b).1;have h1:=iK h j f;rw[ak,b]at h1;unfold oB at h1;split at h1
  .rcases eN (l.all aS) with⟨_,h2⟩|⟨h2,_⟩
   .exact SA.1 h2 x e
   have h3:oc (l.all aS)=0:=h1;rw[h2]at h3;cases h3
  cases h1
 cases h
def JC (B:Bk)(ls:List (List Str))(ps:List Rat):Prop:=oQ (bs B) (bp B) ls=0->ls.flatten=ps.map qtx/\ps.length=bs B*bp B/\∀x∈ps,QB 23 x
theorem DY (b:n<=60)(c:rows.length<=300)(d:∀r∈rows,r.f.length=n)(h:∀r∈rows,RowI r){a:List Rat}(e:a.length=n)(g:∀x∈a,QB 22 x):DZ n ((dD rows).map dp) (a.map qtx)=0 :=
 od b (by rw[dD,au];exact c) (lX (P:=λr=>r.1.length=n) d) (lY h) e g
theorem Fe (C:Mem)(n:Tabs C)(r t u:Value)(B:Bk)(z:List Rat)(e:Nat->List RowQ)(b:List (List Str))(g:List Rat)(o:BookIn C r B)(h:Calm B z e)(D:PN C (bs B*bp B) (cU B e) (List.replicate (bs B*bp B) 0) t)(f:FieldsIn C u b)(v:∀l∈b,∀x∈l,x.length<=999998)(E:b.length<=1000)(F:JC B b g) :
  Gives cx.P 90 [r,t,u] C (i_ (O7 B e b g)):=by
 have H:=o;have I:=h.rich.good;have J:=h.rich.bookz n o;have af:=h.n12;have i:=cH B.obs.length;have K:=h.cnt i;obtain⟨P1,m1,d1,P2,m2,d2,rfl,L,M⟩:=D;obtain⟨vs,_,_,N⟩:=id f;obtain⟨As,cs,rfl,_⟩:=id N;obtain⟨v1,v2,tv,cv,ov,rfl,h1,h2,h3,h4,h5⟩:=id o.ex;refine V7 func90 33 U3 λw0=>V3 λR a=>Wi U6 λb3=>Wi U6 λb4=>C6 1 [2,3,4] a U<|G.freeze 1 U λ_ _ O=>G.freeze 0 U λ_ _ Q=>V3 λR a=>V1 (bkT O 5) U8<|V2 U6<|Ws (sN _ n.m_ _ _ B b H.m_ I J.m_ om_ f.m_ v E) U7 fl_ (λag _ _ S=>?_);obtain⟨T,rfl,p⟩:=S;obtain⟨Aw,mw,cw,rfl⟩:∃A m c,T=Value.slice A m c:=by
  obtain⟨A,c,h,_⟩:=id p;exact⟨_,_,_,h⟩
 refine C6 5 [4,7,8] a U<|U0 2 [4,7,8,17] U<|G.cd (λq=>?_) λq=>?_
 .have d:oQ (bs B) (bp B) b≠0:=by simpa using q
  exact U0 2 [6] U<|V6 U2<|⟨by unfold O7;rw[aK d],U⟩
 have d:oQ (bs B) (bp B) b=0:=by simpa using q
 obtain⟨w,V,W⟩:=F d;rw[aK d]at p;have y:ek (bs B*bp B:Nat) b.flatten=0:=fH.2 ⟨by rw[w,au,V],SA.2 λs f=>Ep d f⟩;refine V3 λR a=>V1 (bkT Q 3) U8<|V2 U6 ?_;refine Ws (zD _ n.m_ (bs B*bp B) _ _ _ (dD (cU B e)) b.flatten (List.replicate (bs B*bp B) 0) g L.m_ (by rw[<- fx];exact M.mono mup) (MM (h.rowI i)) (h.rowsQ i) (DY om_ (Su K dc_) h.rl (h.rowI i) SG (ta _)) om_ (λx X=>(ta _ x X).le dc_) p.m_ (λs f=>by
  obtain⟨l,Y,Z⟩:=List.mem_flatten.1 f;exact v l Y s Z) (λ_=>⟨w,W⟩)) U7 fl_ (λah _ _ aa=>?_)
 obtain⟨Av,mv,ai,rfl,ab⟩:=aa;have ac:=ab y;rw[y];refine C6 5 [8,9] a U<|U1 6 U λR a=>Wr U8<|V5 [8,31] a U<|G.cd (λk=>?_) λk=>?_
 .have ad:¬ (nC B e).At λj=>g.getD j 0:=λha=>by
   have:=MD.2 ha;rw[ac,this]at k;exact absurd k dc_
  exact U0 1 [6] U<|V6 U2<|⟨by unfold O7;rw[aF (λh=>h d),aF ad],U⟩
 have ae:(nC B e).At λj=>g.getD j 0:=MD.1 (by
  have:¬ 0<mv:=by simpa using k
  omega)
 exact U0 2 [6] U<|V6 U2<|⟨by unfold O7;rw[aF (λh=>h d),aK ae],U⟩
theorem Is (C:Mem)(f:Tabs C)(g i:Value)(B:Bk)(d:List Rat)(b:Nat->List RowQ)(a:List (List Str))(e:List Rat)(k:BookIn C g B)(h:Calm B d b)(m:FieldsIn C i a)(r:∀l∈a,∀x∈l,x.length<=999998)(s:a.length<=1000)(t:JC B a e) :
  Gives cx.P 32 [g,i] C (i_ (O7 B b a e)):=by
 have n:=k;obtain⟨vs,_,_,u⟩:=id m;obtain⟨F,cs,rfl,_⟩:=id u;obtain⟨H,I,J,K,L,rfl,h1,h2,h3,h4,h5⟩:=id k.ex;refine V7 func32 19 U3 λw0=>V3 λR c=>Wi U6 λM=>C6 1 [1,2] c U<|G.freeze 0 U λ_ _ o=>Wt [(1,3)] U λR c=>V1 (bkT o 5) U8<|D.call (iH _ f.m_ _ B d b n.m_ h) U (.inr dc_) U6 (Sp _) fl_ (λN _ O _ v=>?_);obtain⟨Q,S,T,us,rfl,p,rfl⟩:=v;refine V4 3 U<|Wg U5 λV=>Wa (j:=0) U12<|C6 1 [1,2,5,6] c U<|U0 2 [1,2,5,6,13] U<|G.cd (λq=>?_) λq=>?_
 .exact absurd q dc_
 refine G.freezeArr 1 (aA us (cU B b)) U2 (co _ _) (by rw[bG p.1]) (λ_ _ w=>?_);rw[gw];refine G.freezeArr 1 ((List.replicate (bs B*bp B) (0:Rat)).map aM) U2 bK al λ_ _ y=>G.freeze 0 U (λz _ A=>?_);have E:=jW (RowsOk.m_ p) (w.mono mup:Sl z 2 _ _);exact V3 λR c=>V1 (bkT o 5) U8<|V1 (bkT A 3) U8<|V2 U6<|Wb (Fe _ f.m_ _ _ _ B d b a e n.m_ h ⟨_,_,_,_,_,_,U,E.mono mup,y.mono mup⟩ m.m_ r s t) U7<|C6 1 [4] c U<|V6 U2<|⟨U,U⟩
theorem nO (C:Mem)(n:Nat)(h:n<=100000):Jog.Fn cx.P 16 [i_ n] C [] λu _f a=>∃b,u=s_ b n n/\a=[.arr u 32 1 n (List.replicate n (ae [48]))]:=by
 refine V7 func16 6 U3 λw0=>U0 1 [0] U<|Wt [(2,3)] U λR c=>Wq [[ae [48]]] U12 λg _ _ d=>V2 U6<|D.call (jZ _ _ n [48] d.m_ om_) U (.inr dc_) U6 (Sp _) fl_ λi _ j _ e=>C6 1 [2] c U ?_;obtain⟨bz,rfl,rfl⟩:=e;refine Wd (WD U U ?_);exact⟨bz,U,U⟩
theorem fX (C:Mem)(n:Nat)(h:n<=100000):Pur cx.P 16 [i_ n] C λu D=>∃b,u=s_ b n n/\Sl D 1 u ((List.replicate n (0:Rat)).map aM) :=
 XF (nO C n h) λu a c ⟨b,h1,h2⟩=>.inr ⟨u,32,1,(List.replicate n 0).map aM,by rw[h2,<- gw];simp,bK,λD _ h=>⟨b,h1,h⟩⟩
theorem O2 {k m:Nat}(h:k<m):(i*m+k) / m=i/\(i*m+k) % m=k:=by
 rw[S3,Nat.mul_add_div om_,Uo h,Nat.mul_add_mod,UO h];exact⟨U,U⟩
abbrev sG7 (A:Option Addr)(n c:Nat):Value:=.slice A n c
abbrev zaj:=λo=>Ent.obj o (.cells ⟨[i_ 0,.slice none 0 0,.slice none 0 0]⟩ 74 (0,0))
theorem H2 (C:Mem)(hT:Tabs C)(bv lv:Value)(B:Bk)(fs:List Rat)(Z:Nat->List RowQ)(v:BookIn C bv B)(h:Calm B fs Z)(a0:bp B<=6)(a1:bs B<=2)(aP:RowsIn6 C lv (cU B Z)) :
  Pur cx.P 23 [bv,lv] C λu D=>∃es,EdgL B.tris es/\PN D (bs B*bp B+bs B*es.length) (sj (cU B Z) (bs B*bp B) (bp B) es (bs B*es.length)) (kH (bs B*bp B) (bs B*es.length)) u:=by
 have a2:=v;have hG:=h.rich.good;have a3:=h.n12;have a4:=h.rich.scol.1;have a5:=h.cnt (cH B.obs.length);have ar:=λ(D:Mem)(hD:C.le D)=>mW D bv B (v.mono hD) a4 om_;obtain⟨v1,v2,tv,cv,ov,rfl,h1,h2,h3,h4,h5⟩:=id v.ex;have hm:MeshIn C (.agg ⟨[v1,v2]⟩) B.pts B.tris:=⟨v1,v2,rfl,h1,h2⟩;obtain⟨A1,c1,rfl,a6,_⟩:=id h1;obtain⟨A4,c4,rfl,a7,_⟩:=id h4;have a8:(B.pts.map gK).length=bp B:=au _;have a9:(B.col.map pi).length=bs B+1:=by rw[au];omega
 simp only[a8,a9]at h1 a6 h4 a7 hm a2 ar⊢;have bH:=mx_
 obtain⟨n,hn⟩:∃n,bs B*bp B=n:=⟨_,rfl⟩;obtain⟨rows,av⟩:∃rows,cU B Z=rows:=⟨_,rfl⟩;rw[show oK B Z (List.range B.obs.length)=rows from av]at a5;rw[hn]at ar a3⊢;rw[av]at aP⊢;have ba:∀r∈rows,r.f.length<=12:=λr hr=>by
  have h1:=h.rl r (by rw[<- av]at hr;exact hr);omega
 obtain⟨vs,aQ,aw⟩:=aP;obtain⟨Al,cl,rfl,bb,_⟩:=id aw;have bc:=aQ.1;rw[bG bc]at aw bb⊢;refine V7 func23 137 U3 λw0=>V3 λR c=>Wi U6 λb2=>Wg U5 λo=>V5 [1,2,4] c U<|G.freeze 1 U λ_ _ aa=>U1 1 U λR c=>V1 (bkT aa 2) U8<|Wz (pj _ hT.m_ _ B.pts B.tris hm.m_ hG) U7 (λbI _ _ bd=>?_);obtain⟨es,ev,rfl,ay,az⟩:=bd;obtain⟨N,O,rfl,be,_⟩:=id az;simp only[au]at az be⊢;obtain⟨bf,bJ⟩:=ay.le hG.ok.ins a0;obtain⟨a,K⟩:∃a,bs B*es.length=a:=⟨_,rfl⟩;have bL:a<=30:=by rw[<- K];exact TA a1 bf
 refine C6 5 [1,2,4,5] c U<|Wn [0,1,2,3,4,5,6,7] [(1,1)] U kr_ λR v c=>V1 (bkT aa 5) U8<|WC (λ_=>(ar _ mup)) U9<|V2 U6<|V1 (bkT aa 1) U8<|V2 U6<|Wx (((bs B:Nat):Int)) U4 om_ om_ om_ U2<|V4 2 U<|V5 [1,2,4,5,7,8] c U<|U1 4 U λR c=>Wx (((a:Nat):Int)) U4 (by rw[<- K,SK]) om_ om_ U2<|Wx (((n+a:Nat):Int)) U4 om_ om_ om_ U2<|Wm [i_ (n+a:Nat),.slice none 0 0,.slice none 0 0] U8<|Wg U5 λp=>Wa (j:=0) U12<|V5 [1,2,4,5,7,8,9] c U<|U0 3 [2,4,5,7,8,9,37,38,39] U<|G.nilArr 140 2<|G.loop (λfr E s F=>∃(i:Nat)(d:Option Addr)(n0 c0:Nat)(us:List Value),(i<=rows.length/\RowsOk E us ((rows.take i).map (cj a)))/\fr=[(2,[],p_ b2),(4,[],p_ o),(5,[],.slice N es.length O),(7,[],i_ n),(8,[],i_ (bs B:Nat)),(9,[],p_ p),(37,[],.slice Al rows.length cl),(38,[],i_ rows.length),(39,[],i_ i)]/\s=[.arr (sG7 d n0 c0) 140 2 i (aA us ((rows.take i).map (cj a))).flatten,.obj p (.cells ⟨[i_ (n+a:Nat),.slice d n0 c0,.slice none 0 0]⟩ 74 (0,0)),zaj o]/\F=rows.length-i) (hn_ [2,4,5,7,8,9,37,38,39] U) ⟨0,none,0,0,[],⟨Sm _,U,λi w r h=>by cases h⟩,U,U,U⟩ (λfr bM bN m _ H=>?_);obtain⟨i,d,n0,c0,us,⟨hi,A⟩,rfl,rfl,rfl⟩:=H;refine U0 1 [2,4,5,7,8,9,37,38,39,40] U<|G.cd (λaB=>?_) λaB=>?_
 .have ab:i<rows.length:=by
   have:=RD aB;omega
  obtain⟨r,ad⟩:∃r,rows[i]?=some r:=⟨rows[i],ah ab⟩;obtain⟨w,aR⟩:∃w,vs[i]?=some w:=⟨vs[i]'om_,ah om_⟩;have aC:=aQ.2 i w r aR ad;obtain⟨Aw,cw,rfl,_⟩:=id aC;have bO:r.f.length<=12:=ba r (aJ ad);have L:(rows.take (i+1)).map (cj a)=(rows.take i).map (cj a)++[cj a r]:=by rw[SH,ad,SV];rfl
  refine V3 λR c=>Wf aw.m_ U10 om_ (by unfold aA;rw[List.getElem?_zipWith,aR,ad]:(aA vs rows)[i]?=some [.slice Aw (r.f.map eH).length cw,ae (qtx r.b)]) fl_ (λbP bg=>?_);refine V1 bg U8<|Wg U5 λbQ=>Wa (j:=0) U12<|V5 [2,4,5,7,8,9,11,37,38,39] c U<|G.freeze 0 U λ_ _ aS=>G.cut (λfr E s F=>∃(d:Option Addr)(n0 c0:Nat)(ai:List Value),(RowsOk E ai ((rows.take (i+1)).map (cj a)))/\fr=[(2,[],p_ b2),(4,[],p_ o),(5,[],.slice N es.length O),(7,[],i_ n),(8,[],i_ (bs B:Nat)),(9,[],p_ p),(37,[],.slice Al rows.length cl),(38,[],i_ rows.length),(39,[],i_ i)]/\s=[.arr (sG7 d n0 c0) 140 2 (i+1) (aA ai ((rows.take (i+1)).map (cj a))).flatten,.obj p (.cells ⟨[i_ (n+a:Nat),.slice d n0 c0,.slice none 0 0]⟩ 74 (0,0)),zaj o]) ?_ (λfr bR bS F bT H=>?_)
  .refine WW (.cut [0,2,3,5,6,7,8,11,12] (.alt 1 (.fin [4,9,10,13,14,15,16,17]) (.alt 4 (.cut [] (.alt 1 (.fin [9,10,13,14,15,16,17]) (.alt 9 (.cut [] (.alt 1 (.fin [10,13,14,15,16,17]) (.alt 10 (.fin [1,13,14,15,16,17]) .stop))) .stop))) .stop))) [(4,3),(3,0),(12,0)] U U kr_ λR v c Q=>V4 2 U<|WF (λ_=>((bkT aS 1).mono v)) U9<|V4 3 U<|Wx (((a:Nat):Int)) U4 (by rw[<- K,SK]) om_ om_ U2<|V2 U6<|WF (λ_=>((bkT aS 1).mono v)) U9<|WK Q U ⟨?_, ?_,trivial⟩
   .try obtain⟨V,W,cc,rfl,rfl⟩:=M
    first|refine WU af U9 ?_|refine WU ac U9 ?_
    refine D.call (DX _ _ r.f aC.m_ om_) U (.inr dc_) U6 (Sp _) fl_ (λbh bi bj _ M=>?_)
    try obtain⟨V,W,cc,rfl,rfl⟩:=M
    refine Ws (fX _ a om_) U7 fl_ (λaT aU _ X=>?_);obtain⟨bz,rfl,S⟩:=X;refine WB (j:=0) U11 S.m_ (lD _) (by simp only[au,SG,maxLen];omega) (by simp only[au,SG];omega) fl_ λe g l=>Wm [.slice e g l,ae (qtx r.b)] U8<|Wq [[.slice e g l,ae (qtx r.b)]] U12 λaD aE _ T=>WB (j:=1) U11 T.m_ U ax (by simp only[Sk];omega) fl_ λx y z=>V2 U6<|Wa (j:=2) U12<|V5 [2,4,5,7,8,9,37,38,39] c U ?_;clear c v Q R;have I:(aA us ((rows.take i).map (cj a))).flatten++[[Value.slice e g l,ae (qtx r.b)]].flatten=(aA (us++[.slice e g l]) ((rows.take (i+1)).map (cj a))).flatten:=by
     rw[L,ck A.1,SI];rfl
    rw[I,<- SI,<- SV];exact G.freezeArr 2 ((r.f++List.replicate a (0:Rat)).map aM) U2 bK al λCf aj J=>G.perm (L':=[.arr (sG7 x y z) 140 2 (i+1) (aA (us++[.slice e g l]) ((rows.take (i+1)).map (cj a))).flatten,.obj p (.cells ⟨[i_ (n+a:Nat),.slice x y z,.slice none 0 0]⟩ 74 (0,0)),zaj o]) (pkL [1,0,0] U)<|Wj 0 mup (hn_ [2,4,5,7,8,9,37,38,39] U) ⟨x,y,z,us++[.slice e g l],by rw[L];exact eX (RowsOk.m_ A) J,U,U⟩
   refine D.call (DX _ _ r.f aC.m_ om_) U (.inr dc_) U6 (Sp _) fl_ λbh bi bj _ M=>WK Q U ⟨?_, ?_,trivial⟩
   .try obtain⟨V,W,cc,rfl,rfl⟩:=M
    first|refine WU af U9 ?_|refine WU ac U9 ?_
    try obtain⟨V,W,cc,rfl,rfl⟩:=M
    refine Ws (fX _ a om_) U7 fl_ (λaT aU _ X=>?_);obtain⟨bz,rfl,S⟩:=X;refine WB (j:=0) U11 S.m_ (lD _) (by simp only[au,SG,maxLen];omega) (by simp only[au,SG];omega) fl_ λe g l=>Wm [.slice e g l,ae (qtx r.b)] U8<|Wq [[.slice e g l,ae (qtx r.b)]] U12 λaD aE _ T=>WB (j:=1) U11 T.m_ U ax (by simp only[Sk];omega) fl_ λx y z=>V2 U6<|Wa (j:=2) U12<|V5 [2,4,5,7,8,9,37,38,39] c U ?_;clear c v Q R;have I:(aA us ((rows.take i).map (cj a))).flatten++[[Value.slice e g l,ae (qtx r.b)]].flatten=(aA (us++[.slice e g l]) ((rows.take (i+1)).map (cj a))).flatten:=by
     rw[L,ck A.1,SI];rfl
    rw[I,<- SI,<- SV];exact G.freezeArr 2 ((r.f++List.replicate a (0:Rat)).map aM) U2 bK al λCf aj J=>G.perm (L':=[.arr (sG7 x y z) 140 2 (i+1) (aA (us++[.slice e g l]) ((rows.take (i+1)).map (cj a))).flatten,.obj p (.cells ⟨[i_ (n+a:Nat),.slice x y z,.slice none 0 0]⟩ 74 (0,0)),zaj o]) (pkL [1,0,0] U)<|Wj 0 mup (hn_ [2,4,5,7,8,9,37,38,39] U) ⟨x,y,z,us++[.slice e g l],by rw[L];exact eX (RowsOk.m_ A) J,U,U⟩
   try obtain⟨V,W,cc,rfl,rfl⟩:=M
   refine Ws (fX _ a om_) U7 fl_ λaT aU _ X=>WK Q U ⟨?_, ?_,trivial⟩
   .try obtain⟨V,W,cc,rfl,rfl⟩:=M
    first|refine WU af U9 ?_|refine WU ac U9 ?_
    obtain⟨bz,rfl,S⟩:=X;refine WB (j:=0) U11 S.m_ (lD _) (by simp only[au,SG,maxLen];omega) (by simp only[au,SG];omega) fl_ λe g l=>Wm [.slice e g l,ae (qtx r.b)] U8<|Wq [[.slice e g l,ae (qtx r.b)]] U12 λaD aE _ T=>WB (j:=1) U11 T.m_ U ax (by simp only[Sk];omega) fl_ λx y z=>V2 U6<|Wa (j:=2) U12<|V5 [2,4,5,7,8,9,37,38,39] c U ?_;clear c v Q R;have I:(aA us ((rows.take i).map (cj a))).flatten++[[Value.slice e g l,ae (qtx r.b)]].flatten=(aA (us++[.slice e g l]) ((rows.take (i+1)).map (cj a))).flatten:=by
     rw[L,ck A.1,SI];rfl
    rw[I,<- SI,<- SV];exact G.freezeArr 2 ((r.f++List.replicate a (0:Rat)).map aM) U2 bK al λCf aj J=>G.perm (L':=[.arr (sG7 x y z) 140 2 (i+1) (aA (us++[.slice e g l]) ((rows.take (i+1)).map (cj a))).flatten,.obj p (.cells ⟨[i_ (n+a:Nat),.slice x y z,.slice none 0 0]⟩ 74 (0,0)),zaj o]) (pkL [1,0,0] U)<|Wj 0 mup (hn_ [2,4,5,7,8,9,37,38,39] U) ⟨x,y,z,us++[.slice e g l],by rw[L];exact eX (RowsOk.m_ A) J,U,U⟩
   obtain⟨bz,rfl,S⟩:=X;refine WB (j:=0) U11 S.m_ (lD _) (by simp only[au,SG,maxLen];omega) (by simp only[au,SG];omega) fl_ (λe g l=>?_)
   try obtain⟨V,W,cc,rfl,rfl⟩:=M
   first|refine WU af U9 ?_|refine WU ac U9 ?_
   refine Wm [.slice e g l,ae (qtx r.b)] U8<|Wq [[.slice e g l,ae (qtx r.b)]] U12 λaD aE _ T=>WB (j:=1) U11 T.m_ U ax (by simp only[Sk];omega) fl_ λx y z=>V2 U6<|Wa (j:=2) U12<|V5 [2,4,5,7,8,9,37,38,39] c U ?_;clear c v Q R;have I:(aA us ((rows.take i).map (cj a))).flatten++[[Value.slice e g l,ae (qtx r.b)]].flatten=(aA (us++[.slice e g l]) ((rows.take (i+1)).map (cj a))).flatten:=by
    rw[L,ck A.1,SI];rfl
   rw[I,<- SI,<- SV];exact G.freezeArr 2 ((r.f++List.replicate a (0:Rat)).map aM) U2 bK al λCf aj J=>G.perm (L':=[.arr (sG7 x y z) 140 2 (i+1) (aA (us++[.slice e g l]) ((rows.take (i+1)).map (cj a))).flatten,.obj p (.cells ⟨[i_ (n+a:Nat),.slice x y z,.slice none 0 0]⟩ 74 (0,0)),zaj o]) (pkL [1,0,0] U)<|Wj 0 mup (hn_ [2,4,5,7,8,9,37,38,39] U) ⟨x,y,z,us++[.slice e g l],by rw[L];exact eX (RowsOk.m_ A) J,U,U⟩
  obtain⟨d,n0,c0,ai,Y,rfl,rfl⟩:=H;refine V3 λR c=>V8 _ U U6<|C6 1 [2,4,5,7,8,9,37,38,39] c U ?_;clear c R;refine We (m':=rows.length-(i+1)) om_ mup (hn_ [2,4,5,7,8,9,37,38,39] U) ⟨i+1,d,n0,c0,ai,⟨by omega,Y⟩,U,U,U⟩
 have ab:i=rows.length:=by
  have:=Si aB;omega
 subst ab;refine U0 2 [2,4,5,7,8,9,61,62] U ?_;rw[Ss]at A⊢;refine Wk (L':=[.arr (sG7 d n0 c0) 140 2 (rows.length+2*(0*es.length)) (aA us (rows.map (cj a)++rgL (n+a) n (bp B) es (0*es.length))).flatten,.obj p (.cells ⟨[i_ (n+a:Nat),.slice d n0 c0,.slice none 0 0]⟩ 74 (0,0)),zaj o]) (by rw[Nat.zero_mul,show rgL (n+a) n (bp B) es 0=[] from U,SF];rfl)<|G.loop (λfr E s F=>∃(i:Nat)(d:Option Addr)(n0 c0:Nat)(us:List Value),(i<=bs B/\RowsOk E us (rows.map (cj a)++rgL (n+a) n (bp B) es (i*es.length)))/\fr=[(2,[],p_ b2),(4,[],p_ o),(5,[],.slice N es.length O),(7,[],i_ n),(8,[],i_ (bs B:Nat)),(9,[],p_ p),(61,[],i_ (bs B:Nat)),(62,[],i_ i)]/\s=[.arr (sG7 d n0 c0) 140 2 (rows.length+2*(i*es.length)) (aA us (rows.map (cj a)++rgL (n+a) n (bp B) es (i*es.length))).flatten,.obj p (.cells ⟨[i_ (n+a:Nat),.slice d n0 c0,.slice none 0 0]⟩ 74 (0,0)),zaj o]/\F=bs B-i) (hn_ [2,4,5,7,8,9,61,62] U) ⟨0,d,n0,c0,us,⟨Sm _,by rw[Nat.zero_mul,show rgL (n+a) n (bp B) es 0=[] from U,SF];exact RowsOk.mono A mup⟩,U,U,U⟩ (λfr bU bV m _ H=>?_);obtain⟨i,d,n0,c0,us,⟨hi,an⟩,rfl,rfl,rfl⟩:=H;refine U0 1 [2,4,5,7,8,9,61,62,63] U<|G.cd (λaF=>?_) λaF=>?_
 .have ab:i<bs B:=by
   have:=RD aF;omega
  refine U0 2 [2,4,5,7,8,9,12,61,62] U<|U0 3 [2,4,5,7,8,9,12,61,62,65,66,67] U ?_
  skip
  refine G.loop (λfr E s F=>∃(k:Nat)(d:Option Addr)(n0 c0:Nat)(us:List Value),(k<=es.length/\RowsOk E us (rows.map (cj a)++rgL (n+a) n (bp B) es (i*es.length+k)))/\fr=[(2,[],p_ b2),(4,[],p_ o),(5,[],.slice N es.length O),(7,[],i_ n),(8,[],i_ (bs B:Nat)),(9,[],p_ p),(12,[],i_ i),(61,[],i_ (bs B:Nat)),(62,[],i_ i),(65,[],.slice N es.length O),(66,[],i_ es.length),(67,[],i_ k)]/\s=[.arr (sG7 d n0 c0) 140 2 (rows.length+2*(i*es.length+k)) (aA us (rows.map (cj a)++rgL (n+a) n (bp B) es (i*es.length+k))).flatten,.obj p (.cells ⟨[i_ (n+a:Nat),.slice d n0 c0,.slice none 0 0]⟩ 74 (0,0)),zaj o]/\F=es.length-k) (hn_ [2,4,5,7,8,9,12,61,62,65,66,67] U) ⟨0,d,n0,c0,us,⟨Sm _,RowsOk.mono an mup⟩,U,U,U⟩ (λfr bW bX m _ H=>?_);obtain⟨k,d,n0,c0,us,⟨hk,Y⟩,rfl,rfl,rfl⟩:=H;refine U0 1 [2,4,5,7,8,9,12,61,62,65,66,67,68] U<|G.cd (λaG=>?_) λaG=>?_
  .have ao:k<es.length:=by
    have:=RD aG;omega
   have aH:i*es.length+k<bs B*es.length:=Do ab ao;obtain⟨t,ht⟩:∃t,i*es.length+k=t:=⟨_,rfl⟩;obtain⟨aI,aW⟩:=O2 (i:=i) ao;rw[ht]at aI aW aH Y⊢;obtain⟨bY,bZ⟩:=AY aH;obtain⟨bk,bl,b0⟩:=DG (ay.ok (n:=bp B) hG.ok.ins (bs B)) aH;rw[hn,aI]at bk bl;have bm:(es.map rF)[k]?=some (rF (edg es t)):=by
    rw[Sh,ah ao];unfold edg;rw[aW,ak,ah ao];rfl
   refine U1 1 U λR c=>Wf az.m_ U10 om_ bm fl_ λb1 bn=>V1 bn U8<|Wg U5 λbo=>V2 U6<|Wa (j:=0) U12<|V5 [2,4,5,7,8,9,12,13,14,61,62,65,66,67] c U<|G.freeze 0 U λ_ _ aX=>V3 λR c=>WR [[ae [49]],[ae [45,49]]] U12 fl_ λbq _ _ aY=>C6 2 [2,4,5,7,8,9,12,13,14,61,62,65,66,67,72,73,74] c U ?_;clear c R;rw[RT]at aY;refine Wk (L':=[.arr (sG7 d n0 c0) 140 2 (rows.length+2*t+0) (aA us (rows.map (cj a)++(rgL (n+a) n (bp B) es t++(rgK (n+a) n (bp B) es t).take 0))).flatten,.obj p (.cells ⟨[i_ (n+a:Nat),.slice d n0 c0,.slice none 0 0]⟩ 74 (0,0)),zaj o]) (by rw[List.take_zero,SF];rfl)<|G.loop (λfr E s F=>∃(q:Nat)(d:Option Addr)(n0 c0:Nat)(us:List Value),(q<=2/\RowsOk E us (rows.map (cj a)++(rgL (n+a) n (bp B) es t++(rgK (n+a) n (bp B) es t).take q)))/\fr=[(2,[],p_ b2),(4,[],p_ o),(5,[],.slice N es.length O),(7,[],i_ n),(8,[],i_ (bs B:Nat)),(9,[],p_ p),(12,[],i_ i),(13,[],i_ k),(14,[],p_ bo),(61,[],i_ (bs B:Nat)),(62,[],i_ i),(65,[],.slice N es.length O),(66,[],i_ es.length),(67,[],i_ k),(72,[],s_ bq 2 2),(73,[],i_ 2),(74,[],i_ q)]/\s=[.arr (sG7 d n0 c0) 140 2 (rows.length+2*t+q) (aA us (rows.map (cj a)++(rgL (n+a) n (bp B) es t++(rgK (n+a) n (bp B) es t).take q))).flatten,.obj p (.cells ⟨[i_ (n+a:Nat),.slice d n0 c0,.slice none 0 0]⟩ 74 (0,0)),zaj o]/\F=2-q) (hn_ [2,4,5,7,8,9,12,13,14,61,62,65,66,67,72,73,74] U) ⟨0,d,n0,c0,us,⟨Sm _,by rw[List.take_zero,SF];exact RowsOk.mono Y mup⟩,U,U,U⟩ (λfr b3 b5 m _ H=>?_);obtain⟨q,d,n0,c0,us,⟨b6,ap⟩,rfl,rfl,rfl⟩:=H;refine U0 1 [2,4,5,7,8,9,12,13,14,61,62,65,66,67,72,73,74,75] U<|G.cd (λaK=>?_) λaK=>?_
   .have aq:q<2:=by
     have:=RD aK;omega
    refine V3 λR c=>Wf aY.m_ U10 om_ (by rw[Sh,GP aq];rfl:(([1, -1]:List Rat).map aM)[q]?=some (aM (qq q))) fl_ λb7 br=>V1 br U8<|C6 1 [2,4,5,7,8,9,12,13,14,16,61,62,65,66,67,72,73,74] c U<|Wt [(2,3)] U λR c=>V2 U6<|V9 af U9<|D.call (nO _ (n+a) om_) U (.inr dc_) U6 (Sp _) fl_ (λb8 _ ca _ bt=>?_);obtain⟨bz,rfl,rfl⟩:=bt;rw[G9];have bu:(Value.string ⟨#[45,49]⟩)=tq (-1):=by show ae [45,49]=ae (qtx (-1));rw[zX]
    refine C6 1 [2,4,5,7,8,9,12,13,14,16,17,61,62,65,66,67,72,73,74] c U<|U1 4 U λR c=>V1 (bkT aa 1) U8<|V2 U6<|V8 (((i*bp B:Nat):Int)) (SK _ _) U6<|Wp (0) U9 k_ U2<|V1 (bkT aX 1) U8<|Wx (((i*bp B+(edg es t).1:Nat):Int)) U4 om_ om_ om_ U2<|V2 U6<|Ww ((i*bp B+(edg es t).1)) U10 (λ_=>⟨by omega,by omega,(T0 _).symm⟩) U2<|WA (j:=0) U11 am<|V5 [2,4,5,7,8,9,12,13,14,16,17,61,62,65,66,67,72,73,74] c U ?_;clear c R;rw[ip am];refine Wn [0,1,2,3,4,5,6,7,8,9,10,11,12,13] [(11,1),(4,0),(8,0)] U kr_ λR v c=>V4 4 U<|WF (λ_=>((bkT aa 1).mono v)) U9<|V2 U6<|V8 (((i*bp B:Nat):Int)) (SK _ _) U6<|Wp (1) U9 k_ U2<|WF (λ_=>((bkT aX 1).mono v)) U9<|Wx (((i*bp B+(edg es t).2:Nat):Int)) U4 om_ om_ om_ U2<|V2 U6<|Wo (λ_=>(Aj _ (qq q) (Su (aV (xq q) dc_) dc_))) U9<|Ww ((i*bp B+(edg es t).2)) U10 (λ_=>⟨by omega,by omega,(T0 _).symm⟩) U2<|WA (j:=0) U11 am<|V5 [2,4,5,7,8,9,12,13,14,17,61,62,65,66,67,72,73,74] c U ?_;clear c v R;rw[ip am];refine U1 5 U λR c=>V8 (((i*es.length:Nat):Int)) (SK _ _) U6<|Wx (((n+i*es.length:Nat):Int)) U4 om_ om_ om_ U2<|V2 U6<|Wx (((n+t:Nat):Int)) U4 om_ om_ om_ U2<|Ww ((n+t)) U10 (λ_=>⟨by omega,by omega,(T0 _).symm⟩) U2<|WA (j:=0) U11 am<|V5 [2,4,5,7,8,9,12,13,14,17,61,62,65,66,67,72,73,74] c U ?_;clear c R;rw[bu,ip am,<- pS];refine G.freezeArr 0 ((rgF (n+a) n (bp B) es.length t (edg es t) (qq q)).map aM) ⟨(by unfold rgF;rw[aI];rfl),U⟩ bK (by rw[au,uL]) λ_ _ bw=>U1 1 U λR c=>V9 af U9<|V2 U6<|Wm [s_ bz (n+a) (n+a),ae [48]] U8<|Wq [[s_ bz (n+a) (n+a),ae [48]]] U12 λcb _ _ bx=>WB (j:=0) U11 bx.m_ U ax (by simp only[Sk];omega) fl_ λaL aN aO=>V2 U6<|Wa (j:=1) U12<|V5 [2,4,5,7,8,9,12,13,14,61,62,65,66,67,72,73,74] c U<|V3 λR c=>V8 _ U U6<|C6 1 [2,4,5,7,8,9,12,13,14,61,62,65,66,67,72,73,74] c U ?_;clear c R;have aZ:rows.map (cj a)++(rgL (n+a) n (bp B) es t++(rgK (n+a) n (bp B) es t).take (q+1))=(rows.map (cj a)++(rgL (n+a) n (bp B) es t++(rgK (n+a) n (bp B) es t).take q))++[⟨rgF (n+a) n (bp B) es.length t (edg es t) (qq q),0⟩]:=by rw[CN aq];simp only[SX]
    have I:(aA us (rows.map (cj a)++(rgL (n+a) n (bp B) es t++(rgK (n+a) n (bp B) es t).take q))).flatten++[[s_ bz (n+a) (n+a),ae [48]]].flatten=(aA (us++[s_ bz (n+a) (n+a)]) (rows.map (cj a)++(rgL (n+a) n (bp B) es t++(rgK (n+a) n (bp B) es t).take (q+1)))).flatten:=by
     rw[aZ,ck ap.1,SI,qtx0]
    refine G.perm (L':=[.arr (sG7 aL aN aO) 140 2 (rows.length+2*t+(q+1)) (aA (us++[s_ bz (n+a) (n+a)]) (rows.map (cj a)++(rgL (n+a) n (bp B) es t++(rgK (n+a) n (bp B) es t).take (q+1)))).flatten,.obj p (.cells ⟨[i_ (n+a:Nat),.slice aL aN aO,.slice none 0 0]⟩ 74 (0,0)),zaj o]) (by rw[<- I];(exact pkL [1,0,0] U)) ?_;refine We (m':=2-(q+1)) om_ mup (hn_ [2,4,5,7,8,9,12,13,14,61,62,65,66,67,72,73,74] U) ⟨q+1,aL,aN,aO,us++[s_ bz (n+a) (n+a)],⟨by omega,by rw[aZ];exact eX (RowsOk.m_ ap) bw.m_⟩,U,U,U⟩
   have aq:q=2:=by
    have:=Si aK;omega
   subst aq;refine V3 λR c=>V8 _ U U6<|C6 1 [2,4,5,7,8,9,12,61,62,65,66,67] c U ?_;clear c R;rw[show(rgK (n+a) n (bp B) es t).take 2=rgK (n+a) n (bp B) es t from rfl,<- uJ]at ap⊢;refine Wk (L':=[.arr (sG7 d n0 c0) 140 2 (rows.length+2*(i*es.length+(k+1))) (aA us (rows.map (cj a)++rgL (n+a) n (bp B) es (i*es.length+(k+1)))).flatten,.obj p (.cells ⟨[i_ (n+a:Nat),.slice d n0 c0,.slice none 0 0]⟩ 74 (0,0)),zaj o]) (by rw[show i*es.length+(k+1)=t+1 by omega,show rows.length+2*(t+1)=rows.length+2*t+2 by omega]) ?_;refine We (m':=es.length-(k+1)) om_ mup (hn_ [2,4,5,7,8,9,12,61,62,65,66,67] U) ⟨k+1,d,n0,c0,us,⟨by omega,by rw[<- Ur,ht];exact RowsOk.mono ap mup⟩,U,U,U⟩
  obtain rfl:es.length=k:=by
   have:=Si aG;omega
  refine V3 λR c=>V8 _ U U6<|C6 1 [2,4,5,7,8,9,61,62] c U ?_;clear c R;rw[<- Nat.succ_mul]at Y⊢;refine We (m':=bs B-(i+1)) om_ mup (hn_ [2,4,5,7,8,9,61,62] U) ⟨i+1,d,n0,c0,us,⟨by omega,RowsOk.mono Y mup⟩,U,U,U⟩
 obtain rfl:bs B=i:=by
  have:=Si aF;omega
 refine Wt [(1,3)] U λR c=>V2 U6<|D.call (nO _ n om_) U (.inr dc_) U6 (Sp _) fl_ (λcf _ cg _ bA=>?_);obtain⟨bz,rfl,rfl⟩:=bA;refine Wq [[ae [49]]] U12 λch _ _ bB=>V4 3 U<|Wx (((a:Nat):Int)) U4 (by rw[<- K,SK]) om_ om_ U2<|Ws (Hb _ _ a 1 [49] KJ bB.m_ om_) U7 fl_ (λci _ _ bC=>?_);obtain⟨cm,rfl,bD⟩:=bC;refine WB (j:=0) U11 bD.m_ (lD _) (by simp only[au,SG,maxLen];omega) (by simp only[au,SG];omega) fl_ λcn cp cq=>V2 U6<|Wa (j:=2) U12<|V5 [4,9] c U<|V3 λR c=>V9 ag U9<|Wa (j:=3) U12<|V5 [4] c U ?_;clear c R;have bE:List.replicate n (ae [48])++((List.replicate a (1:Rat)).map aM).flatten=((kH n a).map aM).flatten:=by
  rw[gw];unfold kH;rw[SV,SI]
 rw[bE];refine G.freezeArr 2 ((kH n a).map aM) U2 bK (by rw[au,lZ];simp) (λCf aj J=>?_);rw[K]at an⊢;refine G.freezeArr 2 (aA us (rows.map (cj a)++rgL (n+a) n (bp B) es a)) U2 (co _ _) (by rw[bG an.1,So,au,uK]) λCg cr bF=>Wd (WO ag U4 ?_);refine⟨U,es,ay,_,_,_,_,_,_,by rw[K];rfl, ?_, ?_⟩
 .rw[K];exact jW (RowsOk.m_ an) bF.m_
 rw[K];exact J.mono mup
theorem ik (C:Mem)(a x y d:Str):Gives cx.P 56 [ae a,ae x,ae y,ae d] C (.agg ⟨[i_ 2,ae a,ae x,ae y,ae d,ae [66],ae [65],ae [],ae [],ae []]⟩):=by
 refine V7 func56 15 U3 λw0=>V3 λR b=>Wg U5 λc=>V5 [0,1,2,3,8] b U<|U1 3 U λR b=>Wm [ae x,ae y] U8<|V2 U6<|Wm [i_ 2,ae a,ae x,ae y,ae d,ae [66],ae [65],ae [],ae [],ae []] U8<|Wa (j:=0) U12<|V5 [8] b U<|Wd (WO ag U4 ?_);exact⟨U,U⟩
theorem RG (l:List Nat):(xB l).pts.map gK=[[ae [48],ae [48]],[ae [54],ae [48]],[ae [48],ae [52]]]:=by
 show [[ae (qtx 0),ae (qtx 0)],[ae (qtx 6),ae (qtx 0)],[ae (qtx 0),ae (qtx 4)]]=_;rw[qtx0,KH,MT]
theorem RM (l:List Nat):(xB l).col.map pi=[[ae [65],ae [48],ae []],[ae [66],ae [48],ae []]]:=by
 show [[ae [65],ae (qtx 0),ae []],[ae [66],ae (qtx 0),ae []]]=_;rw[qtx0]
theorem lC (C:Mem)(b:Value)(l:List Nat)(c:Sl C 10 b ((l.map xO).map gD)):Pur cx.P 55 [b] C λu D=>BookIn D u (xB l):=by
 obtain⟨f,c0,rfl,_⟩:=id c;refine V7 func55 20 U3 λw0=>V3 λR a=>Wg U5 λp=>V5 [0,2] a U<|V3 λR a=>Wm [ae [48],ae [48]] U8<|Wm [ae [54],ae [48]] U8<|Wm [ae [48],ae [52]] U8<|WR [[ae [48],ae [48]],[ae [54],ae [48]],[ae [48],ae [52]]] U12 fl_ λd _ _ g=>Wm [i_ 0,i_ 1,i_ 2] U8<|WR [[i_ 0,i_ 1,i_ 2]] U12 fl_ λe _ _ h=>Wm [s_ d 3 3,s_ e 1 1] U8<|Wg U5 λq=>Wa (j:=0) U12<|V5 [0,2,3] a U<|V3 λR a=>Wm [ae [65],ae [48],ae []] U8<|Wm [ae [66],ae [48],ae []] U8<|WR [[ae [65],ae [48],ae []],[ae [66],ae [48],ae []]] U12 fl_ λi _ _ k=>C6 1 [0,2,3,4] a U<|G.freeze 0 U λ_ _ m=>V3 λR a=>V1 (bkT m 2) U8<|WR [[ae [49,48]],[ae [49,48]],[ae [49,48]]] U12 fl_ λn _ _ o=>V4 2 U<|Wm [s_ d 3 3,s_ e 1 1,s_ n 3 3,s_ i 2 2,.slice f ((l.map xO).map gD).length c0] U8<|Wa (j:=0) U12<|V5 [2] a U<|Wd (WO ag U4 ?_);exact⟨U,_,_,_,_,_,U,by rw[RG];exact g.mono mup,h.mono mup,o.mono mup,by rw[RM];exact k.mono mup,c.mono mup⟩
def xC:List Rat:=Eo 3 0 (0,1,2) (wgt (xB []).pts (0,1,2) (3,0)) 3
theorem xC_e:sgL xC 0=[1/2,1/2,0]/\sgL xC 1=[-1/2, -1/2,0]:=by decide +kernel
theorem RK:∀k,k<2->Lp.Lim (bN 3 (dD (xR 0))) (λj=>(sgL xC k).getD j 0) 20:=λk a=>by
 have b:∀k<2,∀j<3,wlB 2 ((sgL xC k).getD j 0)=true:=by decide +kernel
 exact vl dc_ (Mz 0 dc_) ⟨2,by decide,by decide,λj c=>Gf (b k a j c)⟩
theorem NB (h:Nv (bN 3 (dD (xR 0))) xC u):u=.tuple #[ae [54],ae [54],i_ 0]:=by
 obtain⟨e,f,g,i,_,h1,h2,h3⟩:=h;rw[xC_e.1]at h1;rw[xC_e.2]at h2;obtain⟨a,c⟩:=h1.same RJ;obtain⟨b,d⟩:=(h2 om_).same P9;rcases h3 with⟨h3,_⟩|⟨_,rfl⟩
 .omega
 unfold F3 oM;rw[aK a,aK b,c a,d b,show(1:Rat)*6=6 by decide +kernel,show(-1:Rat) * -6=6 by decide +kernel,KH]
theorem NE {D:Mem}(h:BuiO (xB [0,1]) (xRO [0,1]) D u):∃(A:Option Addr)(n c:Nat),u=.tuple #[.slice none 0 0,.agg ⟨[.slice A n c]⟩,.bool false,i_ 0]:=by
 cases h with
|yes pt v h1 h2 h3 h4 =>
  unfold nC at h1;rw[Qx]at h1;exact absurd ⟨pt,h1⟩ x_no
|no du a h1 h2 =>
  obtain⟨A,c,rfl,_⟩:=id h2;exact⟨_,_,_,U⟩
theorem NC {D:Mem}{b:List (Nat × Nat)}(d:EdgL (xB [2,3]).tris b)(h:FlatO (xB [2,3]) (xRO [2,3]) b D u):∃(A:Option Addr)(n c:Nat)(A2:Option Addr)(n2 c2:Nat),u=.tuple #[.agg ⟨[.slice A n c,ae [54],.slice A2 n2 c2]⟩,i_ 0]:=by
 obtain rfl:=d.same Q9;have a:=Qb;rw[<- Qw]at a;cases h with
|opt v pt du g dv h1 h2 h3 =>
  obtain⟨vs,_,_,e⟩:=h2;obtain⟨A,c,rfl,_⟩:=id e;obtain⟨A2,c2,rfl,_⟩:=id h3;have f:=(h1.val.same a).2 rfl;exact⟨_,_,_,_,_,_,by rw[f,KH]⟩
|inf h1 =>
  obtain⟨_,⟨y,hy,_⟩,_⟩|⟨h,_⟩|⟨h,_⟩:=a
  .exact absurd ⟨y,hy⟩ h1
  .cases h
  cases h
theorem lL:gD (xO 0)=[i_ 2,ae [97],ae [51],ae [48],ae [52],ae [66],ae [65],ae [],ae [],ae []]/\gD (xO 1)=[i_ 2,ae [98],ae [51],ae [48],ae [53],ae [66],ae [65],ae [],ae [],ae []] /\
  gD (xO 2)=[i_ 2,ae [97],ae [48],ae [48],ae [52],ae [66],ae [65],ae [],ae [],ae []]/\gD (xO 3)=[i_ 2,ae [98],ae [54],ae [48],ae [49],ae [66],ae [65],ae [],ae [],ae []]:=by
 rw[JM,JM,JM,JM];exact⟨U,U,U,U⟩
theorem RF:(.agg ⟨[ae [51],ae [48]]⟩:Value)=ptV (3,0):=by
 show _=Value.agg ⟨[ae (qtx 3),ae (qtx 0)]⟩;rw[Hi,qtx0]
theorem If (C:Mem)(b:Tabs C):Gives cx.P 11 [] C (.bool true):=by
 have c:=λ(D:Mem)(d:C.le D)(bv:Value)(e:BookIn D bv (xB [0]))=>Iq D (b.mono d) bv (xB [0]) xFs (xRO [0]) 0 (3,0) 0 [] (0,1,2) [49,48] e (zC ok0) dc_ (MA 0 dc_).2.2.2.2 ⟨bx (MA 0 dc_).2.1,bx (MA 0 dc_).2.2.1⟩ (JU 0 dc_) rfl (x_w 0 dc_)
  (by rw[<- QH];exact P5 0 dc_) (λk f=>by
   have:=RK k f;rw[<- rows0]at this;exact this)
 have g:∀es,EdgL (xB [2,3]).tris es->bs (xB [2,3])*bp (xB [2,3])+bs (xB [2,3])*es.length<=12:=λes h=>by
  obtain rfl:=h.same Q9;decide
 refine V7 func11 64 U3 λw0=>U1 1 U λR a=>WV [] trivial (a _ _ _ U ?_);refine V3 λR a=>Wb (ik _ [97] [51] [48] [52]) U7<|WR [[i_ 2,ae [97],ae [51],ae [48],ae [52],ae [66],ae [65],ae [],ae [],ae []]] U12 fl_ λw _ _ i=>Ws (lC _ _ [0] (by show Sl _ 10 _ [gD (xO 0)];rw[lL.1];exact i.mono mup)) U7 fl_ λx _ _ l=>Wm [ae [51],ae [48]] U8 ?_;rw[RF];refine Wz (c _ mup _ l.m_) U7 (λy _ _ m=>?_);obtain rfl:=NB (by have:=m;unfold nC at this;rw[rows0]at this;exact this);refine C6 7 [1,2,3] a U<|V3 λR a=>Wb (ik _ [97] [51] [48] [52]) U7<|Wb (ik _ [98] [51] [48] [53]) U7<|WR [[i_ 2,ae [97],ae [51],ae [48],ae [52],ae [66],ae [65],ae [],ae [],ae []],[i_ 2,ae [98],ae [51],ae [48],ae [53],ae [66],ae [65],ae [],ae [],ae []]] U12 fl_ λz _ _ n=>Ws (lC _ _ [0,1] (by show Sl _ 10 _ [gD (xO 0),gD (xO 1)];rw[lL.1,lL.2.1];exact n.mono mup)) U7 fl_ λA _ _ o=>Wz (Iw _ b.m_ _ (xB [0,1]) xFs (xRO [0,1]) o.m_ (zC ok01)) U7 (λB _ _ p=>?_);obtain⟨E,nb,F,rfl⟩:=NE p;refine V4 5 U<|Wg U5 λH=>V2 U6<|Wa (j:=0) U12<|C6 2 [1,2,3,6,7] a U<|V3 λR a=>Wb (ik _ [97] [48] [48] [52]) U7<|Wb (ik _ [98] [54] [48] [49]) U7<|WR [[i_ 2,ae [97],ae [48],ae [48],ae [52],ae [66],ae [65],ae [],ae [],ae []],[i_ 2,ae [98],ae [54],ae [48],ae [49],ae [66],ae [65],ae [],ae [],ae []]] U12 fl_ λI _ _ q=>Ws (lC _ _ [2,3] (by show Sl _ 10 _ [gD (xO 2),gD (xO 3)];rw[lL.2.2.1,lL.2.2.2];exact q.mono mup)) U7 fl_ λJ _ _ r=>Ws (Dy _ b.m_ _ (xB [2,3]) xFs (xRO [2,3]) r.m_ (zC ok23) dc_ dc_ g) U7 fl_ (λK _ _ s=>?_);obtain⟨es,t,u⟩:=s;obtain⟨L,M,N,O,Q,S,rfl⟩:=NC t u;exact V4 3 U<|Wg U5 λT=>Wa (j:=0) U12<|C6 1 [1,2,3,6,7,8,9] a U<|G.freeze 0 U λ_ _ v=>U1 5 U λR a=>Wr U8<|V4 3 U<|Wr U8<|V4 3 U<|Wr U8<|V4 3 U<|Wr U8<|V4 3 U<|Wr U8<|V4 2 U<|Wv U6 (λ_=>PtrTo.blockT (Mem.get v mup) _ 1) U3<|V2 U6<|Wr U8<|C6 1 [0] a U<|V6 U2<|⟨U,U⟩
theorem EN {o:Obs}{p:Pt}{t:Tri}{z:Rat}(h:(cR B.col o).length<=2):(rowsO B o p t z).length<=8:=by
 unfold rowsO;split
 .rw[So];split <;> split <;> simp
 split
 .have:=LG (c:=2) (f:=λk=>[1, -1].map (iq (bs B) (bp B) k (atT t (wgt B.pts t p)) (lK o z))) (l:=cR B.col o) (λk _=>by simp);omega
 have:=LG (c:=4) (f:=λk=>[1, -1].map (iq (bs B) (bp B) k (atT t λj=>(slf B.pts t j).1) (rG o))++[1, -1].map (iq (bs B) (bp B) k (atT t λj=>(slf B.pts t j).2) (ju o))) (l:=cR B.col o) (λk _=>by simp);omega
def duL (rs:List (List Rat × Rat))(du:Nat->Rat):List Rat:=(List.range rs.length).map du
section
variable {n:Nat} {rs:List (List Rat × Rat)} {du:Nat->Rat}
theorem Nf {k:Nat}(h:k<rs.length):(duL rs du).getD k 0=du k:=Lp.map_range_getD h
theorem Ph:(duL rs du).length=rs.length:=by simp[duL]
end
theorem uA (c:∀j,QB 22 (pt j)):oQ s p (fh s p pt)=0:=by
 have b:(fh s p pt).length=s:=by unfold fh chunks;simp
 unfold oQ;rw[aK b];refine rB λj a=>?_;rw[b]at a;have e:(fh s p pt).getD j []=yU p (((List.range (s*p)).map pt).map qtx) j:=by
  unfold fh chunks;rw[ak,Sh,SU a];rfl
 rw[e];have h1:(j+1)*p<=s*p:=SY _ a;have h2:(j+1)*p=j*p+p:=Nat.succ_mul _ _;unfold oB;rw[aK (by unfold yU;rw[Uj,Sy,au,au,Tn];omega),SA.2 λx d=>?_]
 .rfl
 have f:=To (UC d);obtain⟨q,g,rfl⟩:=Sn.1 f;obtain⟨j,_,rfl⟩:=Sn.1 g;exact bx (c j)
theorem Gt (a:∀j,QB 22 (pt j)):JC B (fh (bs B) (bp B) pt) ((List.range (bs B*bp B)).map pt):=λ_=>by
 refine⟨?_,by simp,λx b=>?_⟩
 .rw[<- zI,<- List.map_flatten,sS]
 obtain⟨j,_,rfl⟩:=Sn.1 b;exact(a j).le dc_
theorem Ew (a:∀j,QB 22 (pt j)):∀l∈fh s p pt,∀x∈l,x.length<=999998:=λl b x c=>by
 obtain⟨j,_,rfl⟩:=Sn.1 b;have d:=To (UC c);obtain⟨q,e,rfl⟩:=Sn.1 d;obtain⟨j,_,rfl⟩:=Sn.1 e;exact Su (aV (a j) dc_) dc_
theorem Ml {p:Lp.Sys}:(p.At λj=>((List.range p.n).map pt).getD j 0) ↔ p.At pt:=by
 have e:∀j,j<p.n->((List.range p.n).map pt).getD j 0=pt j:=λj b=>by
  rw[ak,Sh,SU b];rfl
 refine forall_congr' λr=>imp_congr_right λ_=>?_;rw[show Lp.sumN (λj=>p.a r j*(λj=>((List.range p.n).map pt).getD j 0) j) p.n=Lp.sumN (λj=>p.a r j*pt j) p.n from Lp.sumN_congr λj b=>by show p.a r j*((List.range p.n).map pt).getD j 0=_;rw[e j b]]
theorem Q3 {a:Nat->List RowQ}(b:∀j,QB 22 (pt j)):O7 B a (fh (bs B) (bp B) pt) ((List.range (bs B*bp B)).map pt)=if atB (nC B a) pt=true then 0 else 23:=by
 unfold O7;rw[aF (λh=>h (uA b))];have this:((nC B a).At λj=>((List.range (bs B*bp B)).map pt).getD j 0) ↔ (nC B a).At pt:=Ml (p:=nC B a) (pt:=pt);by_cases h:(nC B a).At pt
 .rw[aK (this.2 h),aK (BA.2 h)]
 rw[aF λh2=>h (this.1 h2),aF λh2=>h (BA.1 h2)]
end Go.Proofs.YtfjcldheldflbaaGreatDoor
