import Derived.Test.YtfjcldheldflbaaGreatDoorG16
set_option maxHeartbeats 4000000
namespace Go.Proofs.YtfjcldheldflbaaGreatDoor
open Go.Proofs.Tryz
open Go Go.Jog
set_option maxRecDepth 100000
variable {B:Bk}{C:Mem}{RO:Nat->List RowQ}{b:Bool}{du:Nat->Rat}{dv:Value}{es:List (Nat × Nat)}{k m n:Nat}{pt:Nat->Rat}{rs:List (List Rat × Rat)}{sv v:Value}{x:Rat}
structure ResIn (C:Mem)(B:Bk)(sv dv:Value)(ls:List (List Str))(pt:Nat->Rat)(tot:Str)(d:List Str)(ds:List Rat):Prop where
 hs:FieldsIn C sv ls
 sh:∀l∈ls,∀x∈l,x.length<=999998
 ll:ls.length<=1000
 hp:P4 B ls pt
 ht:tot.length<=999998
 hd:Sl C 1 dv (d.map kL)
 dl:∀s∈d,s.length<=999998
 dq:d.all aS=true->d=ds.map qtx/\∀x∈ds,QB 23 x
theorem ResIn.mono {C D:Mem}{B:Bk}{a b:Value}{c:List (List Str)}{e:Nat->Rat}{f:Str}{d:List Str}{g:List Rat}(h:ResIn C B a b c e f d g)(i:C.le D):ResIn D B a b c e f d g :=
 ⟨h.hs.mono i,h.sh,h.ll,h.hp,h.ht,h.hd.mono i,h.dl,h.dq⟩
theorem ResIn.m_ {D:Mem}{a:List (List Str)}{b:Str}{d:List Str}{c:List Rat}(h:ResIn C B sv dv a pt b d c)(e:C.le D:=by exact mup):ResIn D B sv dv a pt b d c:=ResIn.mono h e
theorem Ss (h:(!decide (ot b=0))=true):b=false:=by cases b with
|false=>rfl
|true=>exact absurd h dc_
theorem on_b (h:(!decide (ot b=0))=false):b=true:=by cases b with
|true=>rfl
|false=>exact absurd h dc_
theorem Rc (h:(!decide ((if b=true then (0:Int) else 23)=0))=true):b=false:=by cases b with
|false=>rfl
|true=>exact absurd h dc_
theorem Sr (h:(!decide ((if b=true then (0:Int) else 23)=0))=false):b=true:=by cases b with
|true=>rfl
|false=>exact absurd h dc_
section
variable {B:Bk} {fs:List Rat} {RO:Nat->List RowQ} {es:List (Nat × Nat)}
theorem me (h:Calm B fs RO)(b:bs B=1)(c:bp B<=4)(g:EdgL B.tris es):nR B es<=12/\JM ((rsR B RO es).map dw)/\RowsQ (nR B es) (rsR B RO es)/\D9 (nR B es) ((rsR B RO es).map dw) ((obR B es).map qtx)=0/\(obR B es).length=nR B es/\∀x∈obR B es,QB 23 x:=by
 obtain⟨_,i⟩:=g.le h.rich.good.ok.ins (SV c dc_);have l:=i c;have d:nR B es<=12:=by unfold nR;rw[b];omega
 have e:=M1 (es:=es) h.rl;have a:=Ov (s:=bs B) (p:=bp B) (es:=es) (h.rowI (cK B.obs.length));have j:=h.cnt (cK B.obs.length);have f:(sD (di B RO) (bs B*bp B) (bp B) es (bs B*es.length)).length<=150:=by
  rw[CT,b];have:(di B RO).length<=120:=j;omega
 exact⟨d,MY a,MX a e f,D8 (SV d dc_) (SV f dc_) e a (mf _ _) (Ak _ _),mf _ _,λx k=>(Ak _ _ x k).le dc_⟩
theorem CB {C:Mem}{a:Value}{b:Nat->Rat}(c:bs B=1)(d:FieldsIn C a (eJ (bs B) (bp B) b)):FieldsIn C a (txs [(List.range (bp B)).map b]):=by
 rw[<- qg,<- c];exact d
theorem CA (h:Calm B fs RO)(b:bs B=1)(c:bp B<=4)(d:EdgL B.tris es){a:Nat->Rat}(e:Lp.CmD (bs B*bp B) 21 a):RufQ es [(List.range (bp B)).map a] :=
 Oi (RD e (by rw[b];omega)) (d.le h.rich.good.ok.ins (SV c dc_)).1
end
theorem Fm (C:Mem)(o:Tabs C)(N O Q:Value)(B:Bk)(z:List Rat)(i:Nat->List RowQ)(g:List (Nat × Nat))(t:List (List Str))(k:Nat->Rat)(l:Str)(d:List Str)(p:List Rat)
  (D:BookIn C N B) (h:Calm B z i) (E:bs B=1) (S:bp B<=4) (u:EdgL B.tris g) (Z:ResIn C B O Q t k l d p) :
  Gives cx.P 46 [N,.agg ⟨[O,ag l,Q]⟩] C (i_ (zN B i g t k l d p)):=by
 obtain⟨hs,T,V,aa,ab,hd,ac,ad⟩:=Z;have F:=D;have W:=h.rich.good;have hZ:=h.rich.bookz o D;have au:=h.n12;obtain⟨hn,f1,f2,f3,f4,f5⟩:=me h E S u;obtain⟨vs,_,_,ae⟩:=id hs;obtain⟨As,cs,rfl,_⟩:=id ae;obtain⟨Ad,cd,rfl,_⟩:=id hd;obtain⟨H,I,tv,cv,ov,rfl,h1,h2,h3,h4,h5⟩:=id D.ex;have hm:MeshIn C (.agg ⟨[H,I]⟩) B.pts B.tris:=⟨H,I,rfl,h1,h2⟩;refine Wy func46 77 U3 λw0=>Wu λR e=>WH U6 λb2=>WH U6 λb3=>C6 1 [2,3] e U<|G.freeze 1 U λ_ _ v=>G.freeze 0 U λ_ _ q=>Wu λR e=>Ws (PtrTo.blockT (Mem.get v mup) _ 5) U8<|WT (CR _ o.m_ _ B z i F.m_ h om_ om_) U7 fl_ (λav _ _ af=>?_);obtain⟨aw,x,rfl,ah,A1,n1,c1,A2,n2,c2,rfl,ai,aj⟩:=af;obtain rfl:=u.same ah;refine Wv 3 U<|WI U5 λb5=>WB (j:=0) U12<|C6 1 [2,3,5,6] e U<|U0 2 [2,3,5,6,19] U<|G.cd (λX=>?_) λX=>?_
 .exact absurd X dc_
 refine G.freeze 0 U λ_ _ ak=>Wu λR e=>Ws (PtrTo.blockT (Mem.get v mup) _ 5) U8<|Wt U6<|Ws (PtrTo.blockT (Mem.get q mup) _ 1) U8<|WT (nE _ o.m_ _ _ B t F.m_ W hZ.m_ om_ hs.m_ T V) U7 fl_ (λax _ _ al=>?_);obtain⟨wv,rfl,an⟩:=al;obtain⟨Aw,mw,cw,rfl⟩:∃A m c,wv=Value.slice A m c:=by
  obtain⟨A,c,h,_⟩:=id an;exact⟨_,_,_,h⟩
 refine C6 5 [2,3,5,8] e U<|U0 2 [2,3,5,8,29] U<|G.cd (λJ=>?_) λJ=>?_
 .have n:nG (bs B) (bp B) t≠0:=by simpa using J
  exact U0 2 [4] U<|Wx U2<|⟨by unfold zN;rw[aL n],U⟩
 have n:nG (bs B) (bp B) t=0:=by simpa using J
 obtain⟨rfl,ao,Y⟩:=aa n;refine U1 1 U λR e=>Ws (PtrTo.blockT (Mem.get q mup) _ 1) U8<|WD (dD _ o.m_ l ab) U7<|C6 1 [2,3,5,9] e U<|U0 2 [2,3,5,9,35] U<|G.cd (λK=>?_) λK=>?_
 .have r:=Ss K;exact U0 2 [4] U<|Wx U2<|⟨by unfold zN;rw[aF (λh=>h n),aL r,r];rfl,U⟩
 have r:=on_b K;refine Wu λR e=>Ws (PtrTo.blockT (Mem.get v mup) _ 5) U8<|Wt U6<|Ws (PtrTo.blockT (Mem.get q mup) _ 1) U8<|WD (IE _ o.m_ _ _ B z i (eJ (bs B) (bp B) k) ((List.range (bs B*bp B)).map k) F.m_ h hs.m_ T V (GD Y)) U7 ?_;rw[Rq Y];refine C6 1 [2,3,5,10] e U<|U0 2 [2,3,5,10,42] U<|G.cd (λL=>?_) λL=>?_
 .have s:=Rc L;exact U0 2 [4] U<|Wx U2<|⟨by unfold zN;rw[aF (show ¬ atB (nB B i) k=true by rw[s];decide),aF (λh=>h n),aF (by rw[r];decide),aL s],U⟩
 have s:=Sr L;refine Wu λR e=>Ws (bkT ak 3) U8<|Wt U6<|Ws (PtrTo.blockT (Mem.get q mup) _ 1) U8<|WC (Eg _ o.m_ (nR B g) _ _ _ (rsR B i g) d (obR B g) p ai.m_ (by rw[<- fy];exact aj.mono mup) f1 f2 f3 f4 om_ f5 hd.m_ ac ad) U7 fl_<|C6 5 [2,3,6,11] e U<|U0 2 [2,3,6,11,52] U<|G.cd (λM=>?_) λM=>?_
 .have w:wn (nR B g) (rsR B i g) d p (obR B g)≠0:=by simpa using M
  exact U0 2 [4] U<|Wx U2<|⟨by unfold zN;rw[aF (λh=>h n),aF (by rw[r];decide),aF (by rw[s];decide),aL w],U⟩
 have w:wn (nR B g) (rsR B i g) d p (obR B g)=0:=by simpa using M
 refine U1 1 U λR e=>Ws (PtrTo.blockT (Mem.get v mup) _ 2) U8<|Wt U6<|Ws (PtrTo.blockT (Mem.get q mup) _ 1) U8<|WC (IB _ o.m_ H I _ B.pts B.tris [(List.range (bp B)).map k] hm.m_ W ((CB E hs).mono mup) (λf hf=>by rw[S6.1 hf,ar,TO];rfl) am g u (CA h E S u ao)) U7 fl_ ?_;rw[SN];refine C6 5 [3,6,11,12] e U<|U1 5 U λR e=>WU U6 (λ_=>PtrTo.blockT (Mem.get q mup) _ 1) U3<|Wv 4 U<|WU U6 (λ_=>PtrTo.blockT (Mem.get q mup) _ 1) U3<|Wt U6<|WX U8<|WR U8<|Ww [6,75] e U<|G.cd (λy=>?_) λy=>?_
 .have ap:¬ (Ge (nR B g) (rsR B i g) d p (obR B g)=l/\qtx (rfA g [(List.range (bp B)).map k] 1)=l):=by
   rintro ⟨a,b⟩;rw[a,b]at y;simp at y
  exact U0 1 [4] U<|Wx U2<|⟨by unfold zN;rw[aF (λh=>h n),aF (by rw[r];decide),aF (by rw[s];decide),aF (λh=>h w),aF ap],U⟩
 have aq:Ge (nR B g) (rsR B i g) d p (obR B g)=l/\qtx (rfA g [(List.range (bp B)).map k] 1)=l:=by
  simpa using y
 exact U0 2 [4] U<|Wx U2<|⟨by unfold zN;rw[aF (λh=>h n),aF (by rw[r];decide),aF (by rw[s];decide),aF (λh=>h w),aL aq],U⟩
theorem Fa (C:Mem)(k:Tabs C)(I J K:Value)(B:Bk)(u:List Rat)(i:Nat->List RowQ)(e:List (Nat × Nat))(r:List (List Str))(l:Nat->Rat)(j:Str)(d:List Str)(n:List Rat)
  (o:BookIn C I B) (h:Calm B u i) (y:bs B=1) (L:bp B<=4) (v:EdgL B.tris e) (Q:ResIn C B J K r l j d n) :
  Gives cx.P 51 [I,.agg ⟨[J,ag j,K]⟩] C (i_ (zN B i e r l j d n)):=by
 obtain⟨hs,S,T,V,W,hd,X,Y⟩:=Q;have w:=o;have M:=h.rich.good;have Z:=h.rich.bookz k o;have ap:=h.n12;obtain⟨hn,f1,f2,f3,f4,f5⟩:=me h y L v;obtain⟨vs,_,_,aa⟩:=id hs;obtain⟨As,cs,rfl,_⟩:=id aa;obtain⟨Ad,cd,rfl,_⟩:=id hd;obtain⟨z,D,tv,cv,ov,rfl,h1,h2,h3,h4,h5⟩:=id o.ex;have hm:MeshIn C (.agg ⟨[z,D]⟩) B.pts B.tris:=⟨z,D,rfl,h1,h2⟩;refine Wy func51 62 U3 λw0=>Wu λR g=>WH U6 λb2=>WH U6 λb3=>C6 1 [2,3] g U<|G.freeze 1 U λ_ _ s=>G.freeze 0 U λ_ _ p=>Wu λR g=>Ws (PtrTo.blockT (Mem.get s mup) _ 5) U8<|WY (ru _ k.m_ _ B u i w.m_ h) U7 (λaq _ _ ab=>?_);obtain⟨lv,rfl,N⟩:=ab;obtain⟨au,av,ac⟩:=id N;obtain⟨Al,cl,rfl,_⟩:=id ac;refine C6 5 [2,3,5] g U<|Wu λR g=>Ws (PtrTo.blockT (Mem.get s mup) _ 5) U8<|Wt U6<|Ws (PtrTo.blockT (Mem.get p mup) _ 1) U8<|WT (nE _ k.m_ _ _ B r w.m_ M Z.m_ om_ hs.m_ S T) U7 fl_ (λaw _ _ ad=>?_);obtain⟨wv,rfl,ae⟩:=ad;obtain⟨Aw,mw,cw,rfl⟩:∃A m c,wv=Value.slice A m c:=by
  obtain⟨A,c,h,_⟩:=id ae;exact⟨_,_,_,h⟩
 refine C6 5 [2,3,5,8] g U<|U0 2 [2,3,5,8,24] U<|G.cd (λE=>?_) λE=>?_
 .have q:nG (bs B) (bp B) r≠0:=by simpa using E
  exact U0 2 [4] U<|Wx U2<|⟨by unfold zN;rw[aL q],U⟩
 have q:nG (bs B) (bp B) r=0:=by simpa using E
 obtain⟨rfl,O,af⟩:=V q;refine U1 1 U λR g=>Ws (PtrTo.blockT (Mem.get p mup) _ 1) U8<|WD (xM _ k.m_ j W) U7<|C6 1 [2,3,5,29] g U<|G.cd (λF=>?_) λF=>?_
 .have t:aS j=false:=by simpa using F
  exact U0 1 [4] U<|Wx U2<|⟨by unfold zN;rw[aF (λh=>h q),aL t],U⟩
 have t:aS j=true:=by simpa using F
 refine Wu λR g=>Ws (PtrTo.blockT (Mem.get s mup) _ 5) U8<|Wt U6<|Ws (PtrTo.blockT (Mem.get p mup) _ 1) U8<|WC (Fh _ k.m_ _ _ B u i l 21 w.m_ h hs.m_ dc_ O af) U7 fl_<|C6 1 [2,3,5,34] g U<|G.cd (λH=>?_) λH=>?_
 .have x:atB (nB B i) l=false:=by simpa using H
  exact U0 1 [4] U<|Wx U2<|⟨by unfold zN;rw[aF (λh=>h q),aF (by rw[t];decide),aL x],U⟩
 have x:atB (nB B i) l=true:=by simpa using H
 refine WM [0,1,3,4,2,5,6,7,8,9,10] [(5,1)] U kr_ λR o g=>Ws (PtrTo.blockT (Mem.get s mup) _ 5) U8<|Wv 2 U<|Ws (PtrTo.blockT (Mem.get p mup) _ 1) U8<|WT (Ic _ k.m_ _ _ B u i w.m_ h om_ om_ N.m_) U7 fl_ (λax _ _ ah=>?_);obtain⟨ay,ai,A1,n1,c1,A2,n2,c2,rfl,aj,ak⟩:=ah;obtain rfl:=v.same ai;refine WN (λ_=>(Eg _ k.m_ (nR B e) _ _ _ (rsR B i e) d (obR B e) n aj.m_ (by rw[<- fy];exact ak.mono mup) f1 f2 f3 f4 om_ f5 hd.m_ X Y)) U9<|Wv 5 U<|Ww [2,3,9,10] g U<|WM [0,1,2,3,4,5,6,7,8,9,10,11,12,13,14,15,16] [] U kr_ λR o g=>Wv 5 U<|WU U6 (λ_=>PtrTo.blockT (Mem.get p mup) _ 1) U3<|Wv 2 U<|WU U6 (λ_=>PtrTo.blockT (Mem.get s mup) _ 5) U3<|Wt U6<|WU U6 (λ_=>PtrTo.blockT (Mem.get p mup) _ 1) U3<|WN (λ_=>(Ff _ k.m_ z D _ _ _ _ B.pts B.tris [(List.range (bp B)).map l] hm.m_ M ((CB y hs).mono mup) (λf hf=>by rw[S6.1 hf,ar,TO];rfl) am e v (CA h y L v O))) U9 ?_;rw[SN];refine Wt U6<|WU U6 (λ_=>PtrTo.blockT (Mem.get p mup) _ 1) U3<|Wt U6<|WX U8<|WR U8<|Ww [10,60] g U<|G.cd (λh60=>?_) λh60=>?_
 .have al:wn (nR B e) (rsR B i e) d n (obR B e)=0:=by
   simp only[S1,Uo]at h60;exact h60.1
  have an:¬ (Ge (nR B e) (rsR B i e) d n (obR B e)=j/\qtx (rfA e [(List.range (bp B)).map l] 1)=j):=by
   rintro ⟨a,b⟩;rw[a,b]at h60;simp at h60
  exact U0 1 [4] U<|Wx U2<|⟨by unfold zN;rw[aF (λh=>h q),aF (by rw[t];decide),aF (by rw[x];decide),aF (λh=>h al),aF an],U⟩
 have ao:wn (nR B e) (rsR B i e) d n (obR B e)=0->Ge (nR B e) (rsR B i e) d n (obR B e)=j/\qtx (rfA e [(List.range (bp B)).map l] 1)=j:=by
  intro h0;rw[h0]at h60;simpa using h60
 refine U0 2 [4] U<|Wx U2<|⟨?_,U⟩;unfold zN;rw[aF (λh=>h q),aF (by rw[t];decide),aF (by rw[x];decide)];by_cases h0:wn (nR B e) (rsR B i e) d n (obR B e)=0
 .rw[aF (λh=>h h0),aL (ao h0),h0]
 rw[aL h0]
theorem mq (o:Obs):(gD o).length=10:=rfl
abbrev zO:List Value:=[.int .i64 0,.string ⟨#[]⟩,.string ⟨#[]⟩,.string ⟨#[]⟩,.string ⟨#[]⟩,.string ⟨#[]⟩,.string ⟨#[]⟩,.string ⟨#[]⟩,.string ⟨#[]⟩,.string ⟨#[]⟩]
theorem Jp (C:Mem)(v:Value)(l:List Obs)(b:Sl C 10 v (l.map gD))(t:l.length<=1000000):Jog.Fn cx.P 53 [v] C [] λu _w e=>∃A n c,u=.slice A n c/\e=[.arr (.slice A n c) 126 10 l.length (l.map gD).flatten]:=by
 obtain⟨f,c0,rfl,m,x,y,o⟩:=id b;have z:=mx_
 simp only[ar]at b m⊢;refine Wy func53 8 U3 λw0=>U0 1 [0] U<|U1 1 U λR d=>XH U9<|Ww [0,4] d U<|G.cd (λh4=>?_) λh4=>?_
 .have p:f=none:=by
   cases f with
  |none=>rfl
  |some a=>cases h4
  have s:l=[]:=by
   cases l with
  |nil=>rfl
  |cons q r =>
    obtain⟨a,g,_⟩:=o 0 (gD q) rfl;rw[p]at g;cases g
  refine U0 1 [2] U<|G.nilArr 126 10<|WE (W6 U U ?_);exact⟨none,0,0,U,by rw[s];rfl⟩
 refine Wu λR d=>Xu [] U12 fl_ λB=>Wt U6<|W0 (j:=0) U11 b.m_ (by simp[gD,kS,ag]) (by simp only[ar,Tp,maxLen];omega) (by simp only[ar,Tp];omega) fl_ λh i k=>C6 1 [2] d U<|WK (L':=[.arr (.slice h i k) 126 10 l.length (l.map gD).flatten]) am<|WE (W6 U U ?_);exact⟨h,i,k,U,U⟩
abbrev zak:=λ(l:List Obs) a=>Ent.arr a 126 10 l.length (l.map gD).flatten
theorem yD (C:Mem)(v:Value)(l:List Obs)(g:FuncId)(e:List Value)(p:Obs->Bool)(F:l.length<=1000000)(r:∀x∈l,∀f,C.le f->Gives cx.P g (.agg ⟨gD x⟩::e) f (.bool (p x))) :
  Jog.Fn cx.P 156 [v,.func (.func g) #[] ⟨e⟩] C [zak l v] λu _H h=>u=i_ (ic p l 0)/\h=[zak l v]:=by
 refine Wy func156 19 U3 λw0=>G.form ah (λo I=>?_);obtain⟨A,c0,s⟩:∃A c0,v=.slice A l.length c0:=by
  rcases o with⟨h1,h2⟩|⟨g,c,h1,_⟩
  .exact⟨none,0,by rw[h1,h2]⟩
  exact⟨_,c,h1⟩
 subst s;refine U0 1 [0,1] U<|U0 3 [0,1,7,8] U<|G.loop (λfr f h t=>∃(k:Nat),(k<=l.length/\∀y∈l.take k,p y=false)/\fr=[(0,[],.slice A l.length c0),(1,[],.func (.func g) #[] ⟨e⟩),(7,[],i_ l.length),(8,[],i_ k)]/\h=[zak l (.slice A l.length c0)]/\t=l.length-k) (hn_ [0,1,7,8] U) ⟨0,⟨SM _,by simp⟩,U,U,U⟩ (λfr J K m q w=>?_);obtain⟨k,⟨L,a⟩,rfl,rfl,rfl⟩:=w;refine U0 1 [0,1,7,8,9] U<|G.cd (λi=>?_) λi=>?_
 .simp only[SS]at i;have z:k<l.length:=by omega
  obtain⟨x,b⟩:∃x,l[k]?=some x:=⟨l[k],aj z⟩;have B:x∈l:=aK b;obtain⟨D,c,E⟩:∃g c,(Value.slice A l.length c0)=s_ g l.length c:=by
   rcases o with⟨h1,h2⟩|⟨g,c,h1,_⟩
   .omega
   exact⟨g,c,h1⟩
  obtain⟨rfl,rfl⟩:some (⟨D,0,none⟩:Addr)=A/\c=c0:=by cases E;exact⟨rfl,rfl⟩
  refine U0 2 [0,1,5,7,8] U<|U1 3 U λR j=>WV (k*10) U10 w_ U2<|Xa ah U6 (λ_=>(by rw[da mq b];rfl)) U2<|WD (r x B _ q) U7<|Ww [0,1,5,7,8,16] j U<|G.cd (λn=>?_) λn=>?_
  .refine U0 2 [4] U<|WE (W6 U U ?_);exact⟨by rw[mN (k:=0) b n a,TX],U⟩
  refine Wu λR j=>Wz _ U U6<|C6 1 [0,1,7,8] j U<|WF (m':=l.length-(k+1)) om_ q (hn_ [0,1,7,8] U) ⟨k+1,⟨by omega,λy hy=>by
   rw[S9,b]at hy;rcases SZ.1 hy with d|d
   .exact a y d
   simp only[T7,S6]at d;subst d;exact n⟩,U,U,U⟩
 simp only[Tk]at i;refine U0 1 [4] U<|WE (W6 U U ?_);rw[Td om_]at a;exact⟨by rw[jD a],U⟩
theorem vU (C:Mem)(v:Value)(l:List Obs)(o:FuncId)(s:List Value)(p:Obs->Bool)(N:l.length<=1000000)(H:∀x∈l,∀d,C.le d->Gives cx.P o (.agg ⟨gD x⟩::s) d (.bool (p x))) :
  Jog.Fn cx.P 96 [v,.func (.func o) #[] ⟨s⟩] C [.arr v 126 10 l.length (l.map gD).flatten] λu d t=>t=[]/\Sl d 10 u ((l.filter λx=>!(p x)).map gD):=by
 refine Wy func96 42 U3 λw0=>G.form ah (λI al=>?_);obtain⟨A,c0,O⟩:∃A c0,v=.slice A l.length c0:=by
  rcases I with⟨h1,h2⟩|⟨g,c,h1,_⟩
  .exact⟨none,0,by rw[h1,h2]⟩
  exact⟨_,c,h1⟩
 subst O;refine U0 1 [0,1] U<|WQ [(2,3)] U λR a=>Wv 2 U<|D.call (yD _ _ l o s p N H) U (.inr dc_) U6 (SQ _) fl_ (λan _ ao Q S=>?_);obtain⟨rfl,rfl⟩:=S;refine C6 1 [0,1,5] a U<|U0 2 [0,1,5,12] U<|G.cd (λe=>?_) λe=>?_
 .have T:∀y∈l,p y=false:=by
   rcases ib p l with⟨_,h2⟩|⟨k,x,h1,_⟩
   .exact h2
   exfalso;rw[h1]at e;simp at e
  have V:l.filter (λx=>!(p x))=l:=List.filter_eq_self.2 (λy hy=>by rw[T y hy];rfl);refine U0 2 [4] U<|G.freezeArr 0 (l.map gD) rfl rfl (by intro r hr;obtain⟨x,_,rfl⟩:=SL.1 hr;exact mq x) am (λW X z=>WE (W6 rfl rfl ?_));exact⟨U,by rw[V];exact z⟩
 obtain⟨k0,x0,Y,J,Z,aa⟩:∃k x,ic p l 0=((k:Nat):Int)/\l[k]?=some x/\p x=true/\∀y∈l.take k,p y=false:=by
  rcases ib p l with⟨h1,h2⟩|⟨k,x,h1,h2⟩
  .exfalso;rw[h1]at e;simp at e
  exact⟨k,x,h1,h2⟩
 have aq:k0<l.length:=(R0.1 J).1;rw[Y];obtain⟨g,c,ab,ac,ar⟩:∃g c,(Value.slice A l.length c0)=s_ g l.length c/\l.length<=c/\c<=maxLen:=by
  rcases I with⟨h1,h2⟩|⟨g,c,h1,h2,h3⟩
  .omega
  exact⟨g,c,h1,h2,h3⟩
 obtain⟨rfl,rfl⟩:some (⟨g,0,none⟩:Addr)=A/\c=c0:=by cases ab;exact⟨rfl,rfl⟩
 have ad:(l.take (k0+1)).filter (λx=>!(p x))=l.take k0:=by
  rw[S9,J,Uc];simp only[T7,List.filter_cons,Z,Bool.not_true,List.filter_nil];rw[aF dc_,S8];exact List.filter_eq_self.2 (λy hy=>by rw[aa y hy];rfl)
 refine U1 1 U λR a=>Wz _ U U6<|C6 1 [0,1,5,6] a U<|G.loop (λfr d t μ=>∃(j i:Nat)(r:List Obs),(i<j/\j<=l.length/\r.length=l.length/\r.take i=(l.take j).filter (λx=>!(p x))/\(∀q,j<=q->r[q]?=l[q]?))/\fr=[(0,[],s_ g l.length c),(1,[],.func (.func o) #[] ⟨s⟩),(5,[],i_ i),(6,[],i_ j)]/\t=[.arr (s_ g l.length c) 126 10 l.length (r.map gD).flatten]/\μ=l.length-j) (hn_ [0,1,5,6] U) ⟨k0+1,k0,l,⟨by omega,by omega,U,ad.symm,λ_ _=>rfl⟩,U,U,U⟩ (λfr av aw m B hI=>?_);obtain⟨j,i,r,⟨ax,ay,f,w,E⟩,rfl,rfl,rfl⟩:=hI;refine U0 4 [0,1,5,6,19] U<|G.cd (λF=>?_) λF=>?_
 .simp only[SS]at F;have az:j<l.length:=by omega
  obtain⟨x,b⟩:∃x,r[j]?=some x:=⟨r[j]'om_,aj om_⟩;have K:l[j]?=some x:=by rw[<- E j (SH _)];exact b
  have ae:x∈l:=aK K;have L:(l.take (j+1)).filter (λx=>!(p x))=(l.take j).filter (λx=>!(p x))++(if p x=true then [] else [x]):=by
   rw[S9,K,Uc];cases af:p x <;> simp[af]
  refine U1 2 U λR a=>WV (j*10) U10 w_ U2<|Xa ah U6 (λ_=>(by rw[da mq b];rfl)) U2<|WI U5 λb7=>WB (j:=0) U12<|Ww [0,1,5,6,7] a U<|U1 1 U λR a=>WA ah U9<|WD (H x ae _ (Q.trans B)) U7<|C6 1 [0,1,5,6,7,29] a U<|G.cd (λn=>?_) λn=>?_
  .simp only[Vg]at n;refine U1 2 U λR a=>WA ah U9<|WV (i*10) U10 w_ U2<|WZ (j:=1) U11 (by show i*10+10<=_;rw[bK mq,f];have h9:(i+1)*10<=l.length*10:=To _ om_;omega)<|Ww [0,1,5,6] a U<|U1 1 U λR a=>Wz _ U U6<|C6 1 [0,1,5,6] a U<|U1 1 U λR a=>Wz _ U U6<|C6 1 [0,1,5,6] a U ?_;have hw:aC (r.map gD).flatten (gD x) (i*10)=((r.set i x).map gD).flatten:=bE mq x om_;refine Xb 1 U<|WK (L':=[.arr (s_ g l.length c) 126 10 l.length ((r.set i x).map gD).flatten]) (by rw[<- hw];rfl) ?_;refine WF (m':=l.length-(j+1)) om_ B (hn_ [0,1,5,6] U) ⟨j+1,i+1,r.set i x,⟨by omega,by omega,by simpa using f,by
    rw[L,aF (by rw[n];decide),<- w,S9,List.take_set_of_le (SH _),Vq om_];rfl,λq hq=>by rw[VC om_];exact E q om_⟩,rfl,rfl,rfl⟩
  simp only[Bool.not_eq_false']at n;refine U1 1 U λR a=>Wz _ U U6<|C6 1 [0,1,5,6] a U<|Xb 0 U ?_;refine WF (m':=l.length-(j+1)) om_ B (hn_ [0,1,5,6] U) ⟨j+1,i,r,⟨by omega,by omega,f,by rw[L,aL n,S8];exact w,λq hq=>E q om_⟩,U,U,U⟩
 simp only[Tk]at F;have ag:j=l.length:=by omega
 rw[ag,SU]at w;have aA:i<=l.length:=by omega
 refine U1 2 U λR a=>Xd i l.length c U12 (λ_=>⟨.inr ⟨_,U⟩,.inl ⟨U,U⟩,.inl ⟨U,U⟩,by omega,ac,SH _⟩) U2 ?_;refine YP 0 (off:=i*10) U U U U U U U U U U U (by
  by_cases ai:c=i
  .exact .inl om_
  refine .inr ?_;rw[aF ai];simp only[Uk,Addr.add_lit,TX]) (by rw[bK mq,f,<- Ug];exact To _ om_) ?_
 refine Ww [0,5] a U<|U1 2 U λR a=>Xd 0 i c U12 (λ_=>⟨.inl ⟨U,U⟩,.inr ⟨_,U⟩,.inl ⟨U,U⟩,by omega,by omega,SH _⟩) U2<|C6 1 [4] a U<|G.freezeArr 0 ((r.take i).map gD++List.replicate (l.length-i) zO) U ?_ ?_ ap (λW X z=>WE (W6 U U ?_))
 .unfold aC;have e1:(fK zO (l.length-i)).length=(l.length-i)*10:=cH _ _;refine Eq.trans (congrArg (·++_) (congrArg (·++_) (cj mq r i).1)) ?_;rw[Ta,Tn];congr 1;rw[<- dJ];refine Eq.trans (congrArg (_++·) (Uq ?_)) (S8 _);rw[bK mq,f];refine SV (Nat.le_of_eq ?_) (Nat.le_of_eq (congrArg (i*10+·) e1.symm));rw[<- Ug];congr 1;omega
 .intro x b;rcases SZ.1 b with b|b
  .obtain⟨y,_,rfl⟩:=SL.1 b;exact mq y
  rw[Uj b];rfl
 refine⟨U, ?_⟩;have M:=Sl.sub z (l:=0) (h:=i) (m:=c) (SM _) ap om_ (SH _);have ak:(((r.take i).map gD++List.replicate (l.length-i) zO).take i).drop 0=(l.filter λx=>!(p x)).map gD:=by
  rw[TU,List.take_append_of_le_length ap,Td ap,w]
 rw[ak]at M;exact M
abbrev zal:=λr=>Ent.obj r (.cells ⟨[.slice none 0 0,.slice none 0 0,.slice none 0 0,.slice none 0 0,.slice none 0 0]⟩ 45 (0,0))
theorem Fe (C:Mem)(L:Tabs C)(M:Value)(S:Sht)(H:Hts)(l:List Sgt)(hP:PlanIn C M S H l)(q:PlanR S H l):Pur cx.P 41 [M] C λu D=>∃bv,u=.tuple #[bv,.bool (decide (bp (fF S H (l.take 2))<=4))]/\BookIn D bv (fF S H (l.take 2)):=by
 obtain⟨A,c,rfl,N⟩:=hP;have hG:=(gW (S.kd % 8) (Ts _ dc_) S.a S.b S.h).1;have az:l.length<=c/\c<=maxLen:=by
  obtain⟨A',c',O,h1,h2,_⟩:=id N;simp only[Value.slice.injEq]at O;obtain⟨_,_,rfl⟩:=O;rw[ar]at h1;exact⟨h1,h2⟩
 have Q:∀s∈l.take 2,SgtR s:=λs h=>q.s s (TP h);have ae:=uk S H (l.take 2) Q;have T:=N.sub (l:=0) (h:=min l.length 2) (m:=c) (SM _) (by rw[ar];omega) om_ (SH _);rw[TU,<- UR,show l.take (min l.length 2)=l.take 2 by rw[Nat.min_comm,<- VD,SU]]at T;have aA:=mx_
 have aB:(su S (l.take 2)).length<=6:=by rw[pl];omega
 refine Wy func41 57 U3 λw0=>Wu λR d=>WH U6 λb1=>WI U5 λr=>C6 1 [1,2] d U<|U1 1 U λR d=>WA af U9<|Wt U6<|WA af U9<|Wt U6<|D.min (((min l.length 2:Nat):Int)) U6 om_ U2<|Xd 0 (min l.length 2) c U12 (λ_=>⟨.inl ⟨U,U⟩,.inr ⟨_,U⟩,.inl ⟨U,U⟩,by omega,by omega,SH _⟩) U2<|Wt U6<|WB (j:=1) U12<|Ww [1,2] d U<|G.freeze 0 U λ_ _ ai=>Wu λR d=>Ws (bkT ai 12) U8<|WY (H7 _ L.m_ S H _ (l.take 2) q.kd q.h T.m_ Q hG) U7 (λaC _ _ aj=>?_);obtain⟨v1,v2,tv,cv,ov,rfl,t,v,w,V,y⟩:=id aj.ex;obtain⟨W,X,rfl,_⟩:=id t;obtain⟨Y,Z,rfl,_⟩:=id v;obtain⟨B3,d3,rfl,_⟩:=id w;obtain⟨B4,d4,rfl,aa,aD,_⟩:=id V;obtain⟨B5,d5,rfl,_⟩:=id y;have z:(iY S H (l.take 2)).col.length=3:=rfl;have f:=V.sub (l:=0) (h:=2) (m:=d4) om_ (by rw[ar,z];decide) (by rw[ar,z]at aa;omega) (SH _);have f:Sl _ 3 _ (colS.map pq):=f;simp only[ar,z]at aa t v w y⊢;refine WI U5 λB=>WB (j:=0) U12<|Ww [2,4] d U<|U1 1 U λR d=>WA ah U9<|C6 2 [2,4,21] d U<|G.cd (λab=>?_) λab=>?_
 .refine U1 1 U λR d=>WA ah U9<|Xd 0 2 d4 U12 (λ_=>⟨.inl ⟨U,U⟩,.inr ⟨_,U⟩,.inl ⟨U,U⟩,by omega,by omega,SH _⟩) U2<|Wt U6<|WB (j:=0) U12<|Ww [2,4] d U ?_;obtain⟨E,F,o,_⟩:=id f;have o:_=Value.slice E 2 F:=o;refine WK (L':=[.obj B (.cells ⟨[.slice W (iY S H (l.take 2)).pts.length X,.slice Y (iY S H (l.take 2)).tris.length Z,.slice B3 (iY S H (l.take 2)).terr.length d3,.slice E 2 F,.slice B5 (iY S H (l.take 2)).obs.length d5]⟩ 45 (0,0)),zal r]) (by rw[<- o];rfl) ?_;rw[o]at f;refine G.cut (λfr I L' μ=>∃(g:Option Addr)(i:Nat)(e:Nat),(Sl I 1 (.slice g 2 i) (usS.map dE))/\fr=[(2,[],p_ r),(4,[],p_ B),(5,[],p_ e)]/\L'=[.obj e (.cells ⟨[.slice g 2 i]⟩ 181 (0,0)),.obj B (.cells ⟨[.slice W (iY S H (l.take 2)).pts.length X,.slice Y (iY S H (l.take 2)).tris.length Z,.slice B3 (iY S H (l.take 2)).terr.length d3,.slice E 2 F,.slice B5 (iY S H (l.take 2)).obs.length d5]⟩ 45 (0,0)),zal r]) ?_ (λfr aE aF μ aG hI=>?_)
  .refine Xt (.cut [0,1,2,3,4,5,6,7,8,9] (.alt 10 (.fin [11,12]) (.alt 11 (.fin [10,12]) .stop))) [] U U kr_ λR k d J=>Wt U6<|WA ah U9<|WG f.m_ U10 om_ (rfl:(colS.map pq)[0]?=some (pq ⟨[65],0,none⟩)) fl_ λaH ak=>Xv ak U10 fl_ λaI al=>Ws al U8<|Wt U6<|WA ah U9<|WG f.m_ U10 om_ (rfl:(colS.map pq)[1]?=some (pq ⟨[66],0,some 5⟩)) fl_ λaJ am=>Xv am U10 fl_ λaK an=>Ws an U8<|Xh J U ⟨?_, ?_,trivial⟩
   .refine WP [[ag [65]],[ag [66]]] U12 λao ap _ n=>WI U5 (λe=>?_);obtain⟨g,i,rfl,_⟩:=id n;exact WB (j:=0) U12<|Ww [2,4,5] d U<|WJ 0 mup (hn_ [2,4,5] U) ⟨g,i,e,n.mono mup,U,U⟩
   refine WI U5 λe=>WP [[ag [65]],[ag [66]]] U12 (λao ap _ n=>?_);obtain⟨g,i,rfl,_⟩:=id n;exact WB (j:=0) U12<|Ww [2,4,5] d U<|WJ 0 mup (hn_ [2,4,5] U) ⟨g,i,e,n.mono mup,U,U⟩
  obtain⟨g,i,e,aq,rfl,rfl⟩:=hI;refine G.freeze 0 U λ_ _ au=>WQ [(2,3),(4,3)] U λR d=>Wt U6<|WA ah U9<|D.call (Jp _ _ (su S (l.take 2)) y.m_ om_) U (.inr dc_) U6 (SQ _) fl_ (λaL _ aM _ av=>?_);obtain⟨Aq,nq,cq,rfl,rfl⟩:=av;refine Wt U6<|D.call (vU _ _ (su S (l.take 2)) 97 [p_ e] (rO usS) om_ (λx hx I ac=>GR I x usS _ e (aq.mono (Mem.le.trans mup ac)) dc_ (Mem.le.trans mup ac _ _ au))) U (.inr dc_) U6 (SQ _) fl_ (λaN _ aO _ aw=>?_);obtain⟨rfl,p⟩:=aw;rw[<- JA S H (l.take 2)]at p;obtain⟨A6,d6,rfl,_⟩:=id p;simp only[ar]at p⊢;refine Wt U6<|WB (j:=0) U12<|Ww [2,4] d U<|G.freeze 0 U (λC7 _ K=>?_);have ad:BookIn C7 _ (fF S H (l.take 2)):=⟨_,_,_,_,_,rfl,t.mono mup,v.mono mup,w.mono mup,f.mono mup,p.mono mup⟩;refine Wu λR d=>Ws (bkT K 5) U8<|WY (ru _ L.m_ _ (fF S H (l.take 2)) _ _ ad ae) U7 (λaP _ _ ax=>?_);obtain⟨lv,rfl,aQ⟩:=ax;refine C6 5 [2,4,7] d U<|WM [0,1,2,3,4,5,6,7,8,9,10] [(0,0),(5,0)] U kr_ λR k d=>W9 (λ_=>((bkT K 5).mono k)) U9<|Wv 4 U<|W9 (λ_=>((bkT K 1).mono k)) U9<|Wv 2 U<|WR U8<|WB (j:=0) U12<|Wt U6<|Ww [2,3] d U ?_;clear d k R;refine WE (XZ ah U U U U U ?_);have ay:(true && decide ((((iY S H (l.take 2)).pts.length:Nat):Int)<=4))=decide (bp (fF S H (l.take 2))<=4):=by
   rw[VO];exact Tx.2 ⟨λh=>by show(iY S H (l.take 2)).pts.length<=4;omega,λh=>by have h2:(iY S H (l.take 2)).pts.length<=4:=h;omega⟩
  exact⟨U,_,by rw[<- ay];rfl,ad.mono mup⟩
 exact absurd ab dc_
theorem Fy {D:Mem}{u:Value}(h:FlatO B RO es D u):∃(A:Option Addr)(n c:Nat)(tot:Str)(A2:Option Addr)(n2 c2:Nat)(e:Int),u=.tuple #[.agg ⟨[.slice A n c,ag tot,.slice A2 n2 c2]⟩,i_ e] /\
  ((e=22/\n=0/\¬ (GC B RO es).Hold)∨(e=0/\∃v pt du,tot=qtx v/\Lp.OptR (GC B RO es) (Qg B es) 20 v pt du/\FieldsIn D (.slice A n c) (eJ (bs B) (bp B) pt)/\Sl D 1 (.slice A2 n2 c2) ((duL (rsR B RO es) du).map aP))):=by
 cases h with
|opt v pt du b dv a h1 h2 =>
  obtain⟨vs,_,_,h3⟩:=id h1;obtain⟨A,c,rfl,_⟩:=id h3;obtain⟨A2,c2,rfl,_⟩:=id h2;exact⟨_,_,_,_,_,_,_,0,U,.inr ⟨U,v,pt,du,U,a,h1,h2⟩⟩
|inf h1=>exact⟨none,0,0,[],none,0,0,22,rfl,.inl ⟨rfl,rfl,h1⟩⟩
theorem PlanIn.mono {C D:Mem}{a:Value}{S:Sht}{H:Hts}{l:List Sgt}(h:PlanIn C a S H l)(b:C.le D):PlanIn D a S H l:=by
 obtain⟨A,c,e,h⟩:=h;exact⟨A,c,e,h.mono b⟩
theorem PlanIn.m_ {D:Mem}{a:Value}{S:Sht}{H:Hts}{l:List Sgt}(h:PlanIn C a S H l)(b:C.le D:=by exact mup):PlanIn D a S H l:=PlanIn.mono h b
theorem L3 (b:∀r,QB 20 (du r)):(∀s∈(duL rs du).map qtx,s.length<=999998)/\(((duL rs du).map qtx).all aS=true->(duL rs du).map qtx=(duL rs du).map qtx/\∀x∈duL rs du,QB 23 x):=by
 have h:∀x∈duL rs du,QB 20 x:=λx a=>by
  obtain⟨k,_,rfl⟩:=SL.1 a;exact b k
 refine⟨λs hs=>?_,λ_=>⟨U,λx a=>(h x a).le dc_⟩⟩;obtain⟨x,a,rfl⟩:=SL.1 hs;exact SV (aV (h x a) dc_) dc_
theorem OA {D:Mem}{v:Rat}(c:bs B=1)(a:Lp.OptR (GC B RO es) (Qg B es) 20 v pt du)(d:P4 B (eJ (bs B) (bp B) pt) pt)(e:FieldsIn D sv (eJ (bs B) (bp B) pt))(b:Sl D 1 dv ((duL (rsR B RO es) du).map aP)) :
  ResIn D B sv dv (eJ (bs B) (bp B) pt) pt (qtx v) ((duL (rsR B RO es) du).map qtx) (duL (rsR B RO es) du):=by
 obtain⟨f,g⟩:=L3 (rs:=rsR B RO es) a.qd;rw[fy]at b;exact⟨e,sY λj=>(a.qp j).le dc_,by rw[c];unfold eJ chunks;simp,d,SV (aV a.qv dc_) dc_,b,f,g⟩
def byQ (m:Nat):Rat:=kV (((m % 5:Nat):Int)-2) 2
theorem RI (m:Nat):byQ m*2=((((m % 5:Nat):Int)-2:Int):Rat):=mV (w:=2) dc_
theorem Mr (m:Nat):QB 1 (byQ m):=og dc_ om_ dc_
theorem QQ {p:Nat}:((List.range p).map pt).set k x=(List.range p).map λj=>if j=k then x else pt j:=by
 refine List.ext_getElem am λi h1 h2=>?_;rw[List.getElem_set];simp only[List.getElem_map,List.getElem_range];by_cases h:k=i
 .rw[aL h,aL h.symm]
 rw[aF h,aF (Ne.symm h)]
theorem PQ (h:Lp.CmD n 20 pt):Lp.CmD n 21 λj=>if j=k then pt k+byQ m else pt j:=by
 obtain⟨d,o,db,a⟩:=h;have g:=RI m;obtain⟨y,hy,i⟩:∃y:Int,byQ m*2=y/\y.natAbs<=2:=⟨_,g,by omega⟩;have c:10*B9 ^ 20<B9 ^ 21:=by decide +kernel
 unfold Lp.CmD;generalize B9 ^ 20=M at db a c;generalize B9 ^ 21=N at c⊢;refine⟨2*d,by omega,by omega,λj l=>?_⟩;obtain⟨z,e,b⟩:=a j l;by_cases f:j=k
 .subst f;refine⟨2*z+y*d, ?_, ?_⟩
  .simp only[aL,VS,TF,<- e,<- hy];rw[show((2:Int):Rat)=2 from rfl];grind
  have:=jb i (VU db);omega
 refine⟨2*z, ?_,by omega⟩;simp only[aF f,TF,<- e];rw[show((2:Int):Rat)=2 from rfl];grind
theorem JI {q:Rat}(m:Nat)(h:QB 20 q):QB 22 (q+byQ m):=(sj h (Mr m)).le dc_
theorem Sn (h:∀j,QB 20 (pt j))(j:Nat):QB 22 ((λj=>if j=k then pt k+byQ m else pt j) j):=by
 by_cases a:j=k
 .simp only[aL a];exact JI m (h k)
 simp only[aF a];exact(h j).le dc_
section
variable {D:Mem} {B:Bk} {sv dv:Value} {ls:List (List Str)} {pt:Nat->Rat} {tot:Str} {d:List Str} {ds:List Rat}
theorem Hg (h:ResIn D B sv dv ls pt tot d ds){t:Str}(a:t.length<=999998):ResIn D B sv dv ls pt t d ds:=⟨h.hs,h.sh,h.ll,h.hp,a,h.hd,h.dl,h.dq⟩
theorem OB (h:ResIn D B sv dv ls pt tot d ds)(a:bs B=1){w:Value}(b:Sl D 1 w []):ResIn D B w dv [] pt tot d ds :=
 ⟨⟨[],rfl,λj v l h _=>(by simp at h),b⟩,λl c=>(by cases c),SM _,λh0=>(by unfold nG at h0;rw[a,aF dc_]at h0;cases h0),h.ht,h.hd,h.dl,h.dq⟩
theorem QY (h:ResIn D B sv dv ls pt tot d ds)(c:bs B=1){w:Value}{a:Nat->Rat}(e:FieldsIn D w (eJ (bs B) (bp B) a))(f:Lp.CmD (bs B*bp B) 21 a)(b:∀j,QB 22 (a j)):ResIn D B w dv (eJ (bs B) (bp B) a) a tot d ds :=
 ⟨e,sY b,by rw[c];unfold eJ chunks;simp,λ_=>⟨rfl,f,b⟩,h.ht,h.hd,h.dl,h.dq⟩
theorem M3 (h:ResIn D B sv dv ls pt tot d ds){w:Value}{q:List Rat}(b:Sl D 1 w (q.map dH))(c:∀x∈q,QB 22 x):ResIn D B sv w ls pt tot (q.map qtx) q:=by
 refine⟨h.hs,h.sh,h.ll,h.hp,h.ht, ?_,λs hs=>?_,λ_=>⟨U,λx a=>(c x a).le dc_⟩⟩
 .rw[gK]at b;exact b
 obtain⟨x,a,rfl⟩:=SL.1 hs;exact SV (aV (c x a) dc_) dc_
end
theorem HP {D:Mem}{w:Value}{a:Nat->Rat}(c:bs B=1)(b:Sl D 1 w (((List.range (bp B)).map a).map dH))(d:Sl D 1 v [[w]]):FieldsIn D v (eJ (bs B) (bp B) a):=by
 rw[c,qg];refine⟨[w],U,λj x l h1 h2=>?_,d⟩;cases j with
|succ j=>simp at h1
|zero =>
  cases h1
  cases h2
  rw[gK]at b;exact b
theorem IW {D:Mem}(a:bs B=1)(h:FieldsIn D v (eJ (bs B) (bp B) pt)):∃A n c,Sl D 1 v [[.slice A n c]]/\Sl D 1 (.slice A n c) (((List.range (bp B)).map pt).map dH):=by
 rw[a,qg]at h;obtain⟨vs,h1,h2,h3⟩:=h
 match vs,h1 with
|[w],_ =>
  have h4:=h2 0 w _ rfl rfl;have h5:Sl D 1 w (((List.range (bp B)).map pt).map dH):=by rw[gK];exact h4
  obtain⟨A,c,rfl,_⟩:=id h5;exact⟨A,_,c,h3,h5⟩
theorem SB (a:∀r,QB 20 (du r)):∀x∈duL rs du,QB 20 x:=λx b=>by
 obtain⟨k,_,rfl⟩:=SL.1 b;exact a k
theorem QO {l:List Rat}(h:∀x∈l,QB 20 x)(a:QB 20 x):∀y∈l.set k (x+byQ m),QB 22 y:=λy hy=>by
 rcases T5 hy with hy|rfl
 .exact(h y hy).le dc_
 exact JI m a
def tS (i:Nat):Str:=if i=0 then [] else if i=1 then [49,47,49] else [48]
theorem Sf {i:Nat}(h:i<3):([[ag []],[ag [49,47,49]],[ag [48]]]:List (List Value))[i]?=some [ag (tS i)]:=by
 rcases(by omega:i=0∨i=1∨i=2) with rfl|rfl|rfl <;> rfl
theorem QD (i:Nat):(tS i).length<=999998:=by
 unfold tS;split
 .simp
 split <;> simp
theorem RF (h:Lp.CmD n k pt)(e:m<=n):Lp.CmD m k pt:=by
 obtain⟨d,a,b,c⟩:=h;exact⟨d,a,b,λj f=>c j om_⟩
theorem zM (C:Mem)(w:Tabs C)(pv:Value)(S:Sht)(H:Hts)(l:List Sgt)(kk g p:Nat)(_a7:kk<256)(a8:g<256)(_a9:p<256)(hP:PlanIn C pv S H l)(ai:PlanR S H l):Gives cx.P 9 [pv,.agg ⟨[.int .u8 kk,.int .u8 g,.int .u8 p]⟩] C (.bool true):=by
 have ak:=λ(D:Mem)(hD:C.le D)=>Fe D (w.mono hD) pv S H l (hP.mono hD) ai;obtain⟨A,c,rfl,ba⟩:=hP;obtain⟨B,J⟩:∃B,fF S H (l.take 2)=B:=⟨_,rfl⟩;have t:=uk S H (l.take 2) λs h=>ai.s s (TP h);have u:bs (fF S H (l.take 2))=1:=rfl;have aA:0<bp (fF S H (l.take 2)):=(Mt S H []).1;rw[J]at t ak u aA;generalize fsK (cI (S.kd % 8) S.a S.b S.h).length H=fs at t;generalize roS S H (l.take 2)=RO at t;have hS:=cK B.obs.length;have bb:=t.n12;have hG:=t.rich.good;have bc:=mx_
 refine Wy func9 128 U3 λw0=>Wu λR f=>WH U6 λb2=>WH U6 λb3=>C6 1 [2,3] f U<|Wu λR f=>WD (Iq _ w.m_) U7<|C6 1 [2,3,14] f U<|G.cd (λal=>?_) λal=>?_
 .exact absurd al dc_
 refine G.freeze 1 U λ_ _ aB=>G.freeze 0 U λ_ _ K=>Wu λR f=>Ws (bkT aB 12) U8<|WY (ak _ mup) U7 (λbd _ _ aC=>?_);obtain⟨bv,rfl,T⟩:=aC;obtain⟨v1,v2,tv,cv,ov,rfl,g1,g2,g3,g4,g5⟩:=id T.ex;obtain⟨B1,d1,rfl,_⟩:=id g1;obtain⟨B2,d2,rfl,_⟩:=id g2;obtain⟨B3,d3,rfl,_⟩:=id g3;obtain⟨B4,d4,rfl,_⟩:=id g4;obtain⟨B5,d5,rfl,_⟩:=id g5;refine Wv 3 U<|WI U5 λb5=>WB (j:=0) U12<|C6 1 [3,5,6] f U<|U0 2 [3,5,21] U<|G.cd (λan=>?_) λan=>?_
 .exact U0 1 [4] U<|Wx U2<|⟨U,U⟩
 have V:bp B<=4:=by simpa using an
 refine G.freeze 0 U λ_ _ ab=>Wu λR f=>Ws (bkT ab 5) U8<|WT (DI _ w.m_ _ B fs RO T.m_ t om_ om_ (λes F=>(me t u V F).1)) U7 fl_ (λbe _ _ aD=>?_);obtain⟨es,F,aE⟩:=aD;obtain⟨L,I,cs,tot,M,nd,cd,e,rfl,ao⟩:=Fy aE;have aF:=F.ok (n:=bp B) hG.ok.ins (bs B);refine Wv 3 U<|WI U5 λb7=>WB (j:=0) U12<|C6 1 [3,5,7,8] f U<|U0 2 [3,5,7,8,28] U<|G.cd (λN=>?_) λN=>?_
 .have he:e=22:=by
   rcases ao with⟨h,_⟩|⟨h,_⟩
   .exact h
   rw[h]at N;exact absurd N dc_
  exact U0 3 [4] U<|Wx U2<|⟨by rw[he];rfl,U⟩
 obtain⟨rfl,v,pt,du,rfl,z,ap,aq⟩:e=0/\∃v pt du,tot=qtx v/\Lp.OptR (GC B RO es) (Qg B es) 20 v pt du/\FieldsIn _ (.slice L I cs) (eJ (bs B) (bp B) pt)/\Sl _ 1 (.slice M nd cd) ((duL (rsR B RO es) du).map aP):=by
  rcases ao with⟨h,_⟩|h
  .rw[h]at N;exact absurd N dc_
  exact h
 obtain⟨_,_,_,aG⟩:=NV t u aF z;have E:=OA u z aG ap aq;have aH:=RF z.cd (show bs B*bp B<=_ from Nat.le_add_right _ _);obtain⟨Af,nf,cf,ac,ar⟩:=IW u ap;obtain⟨rfl,au⟩:I=1/\1<=cs:=by
  obtain⟨A',c',e,h1,_⟩:=id ac;simp only[Value.slice.injEq]at e;obtain⟨_,rfl,rfl⟩:=e;exact⟨U,h1⟩
 obtain⟨o,W⟩:∃o,(List.range (bp B)).map pt=o:=⟨_,rfl⟩;have aI:o.length=bp B:=by rw[<- W];simp
 rw[W]at ar;obtain⟨q,ad⟩:∃q,duL (rsR B RO es) du=q:=⟨_,rfl⟩;have X:=SB (rs:=rsR B RO es) z.qd;have av:=aq;rw[vN,<- gK,ad]at av;rw[ad]at E X;have aJ:q.length<=1000000:=by rw[<- ad,I2];have:=(me t u V F).2.2.1.m;omega
 refine U1 1 U λR f=>Ws (bkT K 1) U8<|Xg (p) (5) U6 om_ U2<|W7 (c:=((p % 5:Nat):Int)) U8 (wrap_i64 om_ om_) fl_<|WW ((((p % 5:Nat):Int)-2)) U4 om_ om_ om_ U2<|WC (Nf _ w.m_ (((p % 5:Nat):Int)-2) 2 om_ dc_ dc_) U7 fl_<|C6 1 [3,5,7,9] f U<|U1 1 U λR f=>Ws (bkT K 1) U8<|Xg (kk) (6) U6 om_ U2<|Ww [3,5,7,9,39] f U<|U0 2 [3,5,7,9,39,40] U<|G.cut (λfr C' L' μ=>∃(L:Option Addr)(I cs:Nat)(tot:Str)(M:Option Addr)(nd cd:Nat)(ls:List (List Str))(Y:Nat->Rat)(d:List Str)(ds:List Rat),(ResIn C' B (.slice L I cs) (.slice M nd cd) ls Y tot d ds)/\fr=[(5,[],p_ b5),(7,[],p_ b7)]/\L'=[.obj b7 (.cells ⟨[.slice L I cs,ag tot,.slice M nd cd]⟩ 104 (0,0))]) ?_ (λfr _ bf μ _ hI=>?_)
 .refine G.cd (λaL=>?_) λaL=>?_
  .refine WQ [(4,3)] U λR f=>Wt U6<|WA ah U9<|WG ac.m_ U10 om_ (rfl:([[.slice Af nf cf]]:List (List Value))[0]?=some _) fl_ λbg aM=>Ws aM U8<|D.call (zc _ _ o ar.m_ om_) U (.inr dc_) U6 (SQ _) fl_ (λbh _ bi _ aN=>?_);obtain⟨Ag,ng,O,rfl,rfl⟩:=aN;refine C6 1 [3,5,7,9,10] f U<|G.form ah (λaO _=>?_);obtain⟨Z,k1,e1,q1,m1⟩:=aO.resolve_left (by rintro ⟨_,h⟩;omega);obtain⟨rfl,rfl,rfl⟩:Ag=some ⟨Z,0,none⟩/\ng=o.length/\O=k1:=by cases e1;exact⟨rfl,rfl,rfl⟩
   have hm:=Ts g (show 0<o.length by omega);have aQ:∀k,k<o.length->o[k]?=some (pt k):=λk hk=>by
    rw[aI]at hk;rw[<- W,SI,Tl hk];rfl
   have aR:=aQ _ hm;have Q:=bE (enc:=dH) (s:=1) fl_ (l:=o) (i:=g % o.length) (pt (g % o.length)+byQ p) hm;rw[T0]at Q;refine U1 1 U λR f=>Ws (bkT K 1) U8<|W7 (c:=((g:Nat):Int)) U8 (wrap_i64 om_ om_) fl_<|Wv 2 U<|Xg (g) (o.length) U6 om_ U2<|C6 1 [5,7,9,10,11] f U<|U1 4 U λR f=>WV ((g % o.length)) U10 (λ_=>⟨by omega,by omega,(T0 _).symm⟩) U2<|Xa ah U6 (λ_=>(by have h:=da (enc:=dH) (s:=1) fl_ aR;rw[T0]at h;exact congrArg (cJ _) h)) U2<|Wt U6<|WC (kb _ w.m_ (pt (g % o.length)) (byQ p) 20 dc_ dc_ (z.qp _) ((Mr p).le dc_)) U7 fl_<|WV ((g % o.length)) U10 (λ_=>⟨by omega,by omega,(T0 _).symm⟩) U2<|WZ (j:=0) U11 (by rw[bK (enc:=dH) (s:=1) fl_];show g % o.length+1<=_;omega)<|Ww [5,7,10] f U<|G.freezeArr 0 ((o.set (g % o.length) (pt (g % o.length)+byQ p)).map dH) rfl Q (by intro r hr;obtain⟨y,_,rfl⟩:=SL.1 hr;rfl) am (λCs aw aS=>?_);have aU:Sl Cs 1 (s_ Z o.length O) (((List.range (bp B)).map λj=>if j=g % o.length then pt (g % o.length)+byQ p else pt j).map dH):=by rw[<- QQ,W];exact aS
   refine U1 1 U λR f=>WP [[s_ Z o.length O]] U12 λbj _ _ ax=>Wt U6 ?_;obtain⟨bk,bl,rfl,_⟩:=id ax;refine WB (j:=0) U12<|Ww [5,7] f U<|WJ 0 mup (hn_ [5,7] U) ⟨_,_,_,_,_,_,_,_,_,_,_,QY E.m_ u (HP u aU.m_ ax.m_) (PQ aH) (Sn z.qp),U,U⟩
  refine U0 2 [3,5,7,9,39,65] U<|G.cd (λaW=>?_) λaW=>?_
  .refine U1 1 U λR f=>WA ah U9<|Wt U6<|WC (kb _ w.m_ v (byQ p) 20 dc_ dc_ z.qv ((Mr p).le dc_)) U7 fl_<|Wt U6<|WB (j:=0) U12<|Ww [5,7] f U<|WJ 0 mup (hn_ [5,7] U) ⟨_,_,_,_,_,_,_,_,_,_,_,Hg E.m_ (SV (aV (JI p z.qv) dc_) dc_),U,U⟩
  refine U0 2 [3,5,7,9,39,72] U<|G.cd (λaX=>?_) λaX=>?_
  .refine WQ [(3,3)] U λR f=>Wv 2 U<|WA ah U9<|D.call (ni _ _ q av.m_ aJ) U (.inr dc_) U6 (SQ _) fl_ (λbm _ bn _ aY=>?_);obtain⟨Ag,ng,O,rfl,rfl⟩:=aY;refine Wv 2 U<|WB (j:=1) U12<|Ww [3,5,7,9] f U<|XY af (λA0 c0 aZ a0=>?_);obtain⟨rfl,rfl,rfl⟩:Ag=A0/\ng=q.length/\O=c0:=by cases aZ;exact⟨rfl,rfl,rfl⟩
   refine U1 2 U λR f=>WA ah U9<|C6 2 [3,5,7,9,84] f U<|G.cd (λay=>?_) λay=>?_
   .have a1:0<q.length:=by
     have:=aT ay;omega
    obtain⟨Z,rfl⟩:=a0 om_;have hm:=Ts g a1;obtain⟨x,hx⟩:∃x,q[g % q.length]?=some x:=⟨_,aj hm⟩;have az:=X x (aK hx);have Q:=bE (enc:=dH) (s:=1) fl_ (l:=q) (i:=g % q.length) (x+byQ p) hm;rw[T0]at Q;refine U1 1 U λR f=>Ws (bkT K 1) U8<|W7 (c:=((g:Nat):Int)) U8 (wrap_i64 om_ om_) fl_<|Wv 2 U<|WA ah U9<|Wt U6<|Xg (g) (q.length) U6 om_ U2<|C6 1 [5,7,9,12] f U<|WM [0,1,2,3,4,5,6,7,8,9,10,11,12,13] [(11,1)] U kr_ λR J f=>Wv 2 U<|WA ah U9<|Wv 3 U<|WA ah U9<|Wt U6<|WV ((g % q.length)) U10 (λ_=>⟨by omega,by omega,(T0 _).symm⟩) U2<|Xa af U6 (λ_=>(by have h:=da (enc:=dH) (s:=1) fl_ hx;rw[T0]at h;exact congrArg (cJ _) h)) U2<|Wt U6<|WN (λ_=>(kb _ w.m_ x (byQ p) 20 dc_ dc_ az ((Mr p).le dc_))) U9<|WV ((g % q.length)) U10 (λ_=>⟨by omega,by omega,(T0 _).symm⟩) U2<|WZ (j:=1) U11 (by rw[bK (enc:=dH) (s:=1) fl_];show g % q.length+1<=_;omega)<|Ww [5,7] f U ?_;clear f J R;refine G.freezeArr 0 ((q.set (g % q.length) (x+byQ p)).map dH) rfl Q (by intro r hr;obtain⟨y,_,rfl⟩:=SL.1 hr;rfl) am λCs aw ae=>WJ 0 mup (hn_ [5,7] U) ⟨_,_,_,_,_,_,_,_,_,_,_,M3 E.m_ ae.m_ (QO X az),U,U⟩
   refine G.freezeArr 1 (q.map dH) rfl rfl (by intro r hr;obtain⟨y,_,rfl⟩:=SL.1 hr;rfl) am λCs aw ae=>WJ 0 mup (hn_ [5,7] U) ⟨_,_,_,_,_,_,_,_,_,_,_,M3 E.m_ ae.m_ (λx hx=>(X x hx).le dc_),U,U⟩
  refine U0 2 [3,5,7,39,106] U<|G.cd (λa2=>?_) λa2=>?_
  .refine U1 1 U λR f=>WA ah U9<|Xd 1 1 cs U12 (λ_=>⟨.inr ⟨_,U⟩,.inl ⟨U,U⟩,.inl ⟨U,U⟩,SH _,au,SH _⟩) U2<|Wt U6<|WB (j:=0) U12<|Ww [5,7] f U ?_;have a3:=ac.sub (l:=1) (h:=1) (m:=cs) (SH _) (SH _) au (SH _);refine WJ 0 mup (hn_ [5,7] U) ⟨_,_,_,_,_,_,_,_,_,_,_,OB E.m_ u a3.m_,U,U⟩
  refine U0 2 [3,5,7,112] U<|G.cd (λa4=>?_) λa4=>?_
  .refine Wu λR f=>WP [[ag []],[ag [49,47,49]],[ag [48]]] U12 λbo _ _ a5=>Wt U6<|Ws (bkT K 1) U8<|Xg (g) (3) U6 om_ U2<|WG a5.m_ U10 om_ (Sf (Ts g dc_)) fl_ λbq a6=>Ws a6 U8<|Wt U6<|WB (j:=0) U12<|Ww [5,7] f U<|WJ 0 mup (hn_ [5,7] U) ⟨_,_,_,_,_,_,_,_,_,_,_,Hg E.m_ (QD (g % 3)),U,U⟩
  refine WJ 0 mup (hn_ [5,7] U) ⟨_,_,_,_,_,_,_,_,_,_,_,E.mono mup,U,U⟩
 obtain⟨L ,I ,cs ,tot ,M ,nd ,cd ,ls ,Y ,d ,ds,hX,rfl,rfl⟩:=hI;refine WM [0,1,2,3,4,5,6,7] [(2,1),(5,1)] U kr_ λR J f=>Ws (bkT ab 5) U8<|WA ah U9<|W5 (λ_=>(Fm _ w.m_ _ _ _ B fs RO es ls Y tot d ds T.m_ t u V F hX.m_)) U9<|Ws (bkT ab 5) U8<|WA ah U9<|W5 (λ_=>(Fa _ w.m_ _ _ _ B fs RO es ls Y tot d ds T.m_ t u V F hX.m_)) U9<|Wv 2 U<|Ww [4] f U ?_;clear f J R;exact Wx U2<|⟨by simp,U⟩
end Go.Proofs.YtfjcldheldflbaaGreatDoor
