import Derived.Test.YtfjcldheldflbaaGreatDoorG16
set_option maxHeartbeats 4000000
namespace Go.Proofs.YtfjcldheldflbaaGreatDoor
open Go.Proofs.Tryz
open Go Go.Jog
set_option maxRecDepth 100000
variable {B:Bk}{C:Mem}{RO:Nat->List RowQ}{b:Bool}{du:Nat->Rat}{dv:Value}{es:List (Nat × Nat)}{pt:Nat->Rat}{sv u:Value}
structure ResIn (C:Mem)(B:Bk)(sv dv:Value)(ls:List (List Str))(pt:Nat->Rat)(tot:Str)(d:List Str)(ds:List Rat):Prop where
 hs:FieldsIn C sv ls
 sh:∀l∈ls,∀x∈l,x.length<=999998
 ll:ls.length<=1000
 hp:PL B ls pt
 ht:tot.length<=999998
 hd:Sl C 1 dv (d.map kK)
 dl:∀s∈d,s.length<=999998
 dq:d.all aS=true->d=ds.map qtx/\∀x∈ds,QB 23 x
theorem ResIn.mono {C D:Mem}{B:Bk}{a b:Value}{c:List (List Str)}{e:Nat->Rat}{f:Str}{d:List Str}{g:List Rat}(h:ResIn C B a b c e f d g)(i:C.le D):ResIn D B a b c e f d g :=
 ⟨h.hs.mono i,h.sh,h.ll,h.hp,h.ht,h.hd.mono i,h.dl,h.dq⟩
theorem ResIn.m_ {D:Mem}{a:List (List Str)}{b:Str}{d:List Str}{c:List Rat}(h:ResIn C B sv dv a pt b d c)(e:C.le D:=by exact mup):ResIn D B sv dv a pt b d c:=ResIn.mono h e
theorem R3 (h:(!decide (oc b=0))=true):b=false:=by cases b with
|false=>rfl
|true=>exact absurd h dc_
theorem on_b (h:(!decide (oc b=0))=false):b=true:=by cases b with
|true=>rfl
|false=>exact absurd h dc_
theorem QR (h:(!decide ((if b=true then (0:Int) else 23)=0))=true):b=false:=by cases b with
|false=>rfl
|true=>exact absurd h dc_
theorem R2 (h:(!decide ((if b=true then (0:Int) else 23)=0))=false):b=true:=by cases b with
|true=>rfl
|false=>exact absurd h dc_
section
variable {B:Bk} {fs:List Rat} {RO:Nat->List RowQ} {es:List (Nat × Nat)}
theorem qE (h:Calm B fs RO)(b:bs B=1)(c:bp B<=4)(g:EdgL B.tris es):nR B es<=12/\JB ((rsR B RO es).map dp)/\RowsQ (nR B es) (rsR B RO es)/\DZ (nR B es) ((rsR B RO es).map dp) ((obR B es).map qtx)=0/\(obR B es).length=nR B es/\∀x∈obR B es,QB 23 x:=by
 obtain⟨_,i⟩:=g.le h.rich.good.ok.ins (Su c dc_);have l:=i c;have d:nR B es<=12:=by unfold nR;rw[b];omega
 have e:=MO (es:=es) h.rl;have a:=Oc (s:=bs B) (p:=bp B) (es:=es) (h.rowI (cH B.obs.length));have j:=h.cnt (cH B.obs.length);have f:(sj (cU B RO) (bs B*bp B) (bp B) es (bs B*es.length)).length<=150:=by
  rw[CM,b];have:(cU B RO).length<=120:=j;omega
 exact⟨d,MM a,ML a e f,DY (Su d dc_) (Su f dc_) e a (lZ _ _) (zV _ _),lZ _ _,λx k=>(zV _ _ x k).le dc_⟩
theorem Cp {C:Mem}{a:Value}{b:Nat->Rat}(c:bs B=1)(d:FieldsIn C a (fh (bs B) (bp B) b)):FieldsIn C a (txs [(List.range (bp B)).map b]):=by
 rw[<- Gw,<- c];exact d
theorem Co (h:Calm B fs RO)(b:bs B=1)(c:bp B<=4)(d:EdgL B.tris es){a:Nat->Rat}(e:Lp.CmD (bs B*bp B) 21 a):RufQ es [(List.range (bp B)).map a] :=
 N3 (Rh e (by rw[b];omega)) (d.le h.rich.good.ok.ins (Su c dc_)).1
end
theorem Fc (C:Mem)(o:Tabs C)(N O Q:Value)(B:Bk)(z:List Rat)(i:Nat->List RowQ)(g:List (Nat × Nat))(t:List (List Str))(k:Nat->Rat)(l:Str)(d:List Str)(p:List Rat)
  (D:BookIn C N B) (h:Calm B z i) (E:bs B=1) (S:bp B<=4) (u:EdgL B.tris g) (Z:ResIn C B O Q t k l d p) :
  Gives cx.P 46 [N,.agg ⟨[O,ae l,Q]⟩] C (i_ (J0 B i g t k l d p)):=by
 obtain⟨hs,T,V,aa,ab,hd,ac,ad⟩:=Z;have F:=D;have W:=h.rich.good;have hZ:=h.rich.bookz o D;have ar:=h.n12;obtain⟨hn,f1,f2,f3,f4,f5⟩:=qE h E S u;obtain⟨vs,_,_,af⟩:=id hs;obtain⟨As,cs,rfl,_⟩:=id af;obtain⟨Ad,cd,rfl,_⟩:=id hd;obtain⟨H,I,tv,cv,ov,rfl,h1,h2,h3,h4,h5⟩:=id D.ex;have hm:MeshIn C (.agg ⟨[H,I]⟩) B.pts B.tris:=⟨H,I,rfl,h1,h2⟩;refine V7 func46 77 U3 λw0=>V3 λR e=>Wi U6 λb2=>Wi U6 λb3=>C6 1 [2,3] e U<|G.freeze 1 U λ_ _ v=>G.freeze 0 U λ_ _ q=>V3 λR e=>V1 (PtrTo.blockT (Mem.get v mup) _ 5) U8<|Ws (CK _ o.m_ _ B z i F.m_ h om_ om_) U7 fl_ (λav _ _ ag=>?_);obtain⟨aw,x,rfl,ah,A1,n1,c1,A2,n2,c2,rfl,ai,aj⟩:=ag;obtain rfl:=u.same ah;refine V4 3 U<|Wg U5 λb5=>Wa (j:=0) U12<|C6 1 [2,3,5,6] e U<|U0 2 [2,3,5,6,19] U<|G.cd (λX=>?_) λX=>?_
 .exact absurd X dc_
 refine G.freeze 0 U λ_ _ ak=>V3 λR e=>V1 (PtrTo.blockT (Mem.get v mup) _ 5) U8<|V2 U6<|V1 (PtrTo.blockT (Mem.get q mup) _ 1) U8<|Ws (sN _ o.m_ _ _ B t F.m_ W hZ.m_ om_ hs.m_ T V) U7 fl_ (λax _ _ am=>?_);obtain⟨wv,rfl,an⟩:=am;obtain⟨Aw,mw,cw,rfl⟩:∃A m c,wv=Value.slice A m c:=by
  obtain⟨A,c,h,_⟩:=id an;exact⟨_,_,_,h⟩
 refine C6 5 [2,3,5,8] e U<|U0 2 [2,3,5,8,29] U<|G.cd (λJ=>?_) λJ=>?_
 .have n:oQ (bs B) (bp B) t≠0:=by simpa using J
  exact U0 2 [4] U<|V6 U2<|⟨by unfold J0;rw[aK n],U⟩
 have n:oQ (bs B) (bp B) t=0:=by simpa using J
 obtain⟨rfl,ao,Y⟩:=aa n;refine U1 1 U λR e=>V1 (PtrTo.blockT (Mem.get q mup) _ 1) U8<|Wb (dB _ o.m_ l ab) U7<|C6 1 [2,3,5,9] e U<|U0 2 [2,3,5,9,35] U<|G.cd (λK=>?_) λK=>?_
 .have r:=R3 K;exact U0 2 [4] U<|V6 U2<|⟨by unfold J0;rw[aF (λh=>h n),aK r,r];rfl,U⟩
 have r:=on_b K;refine V3 λR e=>V1 (PtrTo.blockT (Mem.get v mup) _ 5) U8<|V2 U6<|V1 (PtrTo.blockT (Mem.get q mup) _ 1) U8<|Wb (Is _ o.m_ _ _ B z i (fh (bs B) (bp B) k) ((List.range (bs B*bp B)).map k) F.m_ h hs.m_ T V (Gt Y)) U7 ?_;rw[Q3 Y];refine C6 1 [2,3,5,10] e U<|U0 2 [2,3,5,10,42] U<|G.cd (λL=>?_) λL=>?_
 .have s:=QR L;exact U0 2 [4] U<|V6 U2<|⟨by unfold J0;rw[aF (show ¬ atB (nC B i) k=true by rw[s];decide),aF (λh=>h n),aF (by rw[r];decide),aK s],U⟩
 have s:=R2 L;refine V3 λR e=>V1 (bkT ak 3) U8<|V2 U6<|V1 (PtrTo.blockT (Mem.get q mup) _ 1) U8<|Wc (D7 _ o.m_ (nR B g) _ _ _ (rsR B i g) d (obR B g) p ai.m_ (by rw[<- fx];exact aj.mono mup) f1 f2 f3 f4 om_ f5 hd.m_ ac ad) U7 fl_<|C6 5 [2,3,6,11] e U<|U0 2 [2,3,6,11,52] U<|G.cd (λM=>?_) λM=>?_
 .have w:zB (nR B g) (rsR B i g) d p (obR B g)≠0:=by simpa using M
  exact U0 2 [4] U<|V6 U2<|⟨by unfold J0;rw[aF (λh=>h n),aF (by rw[r];decide),aF (by rw[s];decide),aK w],U⟩
 have w:zB (nR B g) (rsR B i g) d p (obR B g)=0:=by simpa using M
 refine U1 1 U λR e=>V1 (PtrTo.blockT (Mem.get v mup) _ 2) U8<|V2 U6<|V1 (PtrTo.blockT (Mem.get q mup) _ 1) U8<|Wc (Ip _ o.m_ H I _ B.pts B.tris [(List.range (bp B)).map k] hm.m_ W ((Cp E hs).mono mup) (λf hf=>by rw[SD.1 hf,au,Tn];rfl) al g u (Co h E S u ao)) U7 fl_ ?_;rw[Sk];refine C6 5 [3,6,11,12] e U<|U1 5 U λR e=>Wv U6 (λ_=>PtrTo.blockT (Mem.get q mup) _ 1) U3<|V4 4 U<|Wv U6 (λ_=>PtrTo.blockT (Mem.get q mup) _ 1) U3<|V2 U6<|Wy U8<|Wr U8<|V5 [6,75] e U<|G.cd (λy=>?_) λy=>?_
 .have ap:¬ (JR (nR B g) (rsR B i g) d p (obR B g)=l/\qtx (rfA g [(List.range (bp B)).map k] 1)=l):=by
   rintro ⟨a,b⟩;rw[a,b]at y;simp at y
  exact U0 1 [4] U<|V6 U2<|⟨by unfold J0;rw[aF (λh=>h n),aF (by rw[r];decide),aF (by rw[s];decide),aF (λh=>h w),aF ap],U⟩
 have aq:JR (nR B g) (rsR B i g) d p (obR B g)=l/\qtx (rfA g [(List.range (bp B)).map k] 1)=l:=by
  simpa using y
 exact U0 2 [4] U<|V6 U2<|⟨by unfold J0;rw[aF (λh=>h n),aF (by rw[r];decide),aF (by rw[s];decide),aF (λh=>h w),aK aq],U⟩
theorem mh (o:Obs):(gD o).length=10:=rfl
abbrev zO:List Value:=[.int .i64 0,.string ⟨#[]⟩,.string ⟨#[]⟩,.string ⟨#[]⟩,.string ⟨#[]⟩,.string ⟨#[]⟩,.string ⟨#[]⟩,.string ⟨#[]⟩,.string ⟨#[]⟩,.string ⟨#[]⟩]
theorem Jd (C:Mem)(v:Value)(l:List Obs)(b:Sl C 10 v (l.map gD))(t:l.length<=1000000):Jog.Fn cx.P 53 [v] C [] λu _w e=>∃A n c,u=.slice A n c/\e=[.arr (.slice A n c) 126 10 l.length (l.map gD).flatten]:=by
 obtain⟨f,c0,rfl,m,x,y,o⟩:=id b;have z:=mx_
 simp only[au]at b m⊢;refine V7 func53 8 U3 λw0=>U0 1 [0] U<|U1 1 U λR d=>Xg U9<|V5 [0,4] d U<|G.cd (λh4=>?_) λh4=>?_
 .have p:f=none:=by
   cases f with
  |none=>rfl
  |some a=>cases h4
  have s:l=[]:=by
   cases l with
  |nil=>rfl
  |cons q r =>
    obtain⟨a,g,_⟩:=o 0 (gD q) rfl;rw[p]at g;cases g
  refine U0 1 [2] U<|G.nilArr 126 10<|Wd (WD U U ?_);exact⟨none,0,0,U,by rw[s];rfl⟩
 refine V3 λR d=>W0 [] U12 fl_ λB=>V2 U6<|WB (j:=0) U11 b.m_ (by simp[gD,kR,ae]) (by simp only[au,SZ,maxLen];omega) (by simp only[au,SZ];omega) fl_ λh i k=>C6 1 [2] d U<|Wk (L':=[.arr (.slice h i k) 126 10 l.length (l.map gD).flatten]) al<|Wd (WD U U ?_);exact⟨h,i,k,U,U⟩
abbrev zak:=λ(l:List Obs) a=>Ent.arr a 126 10 l.length (l.map gD).flatten
theorem yy (C:Mem)(v:Value)(l:List Obs)(g:FuncId)(e:List Value)(p:Obs->Bool)(F:l.length<=1000000)(r:∀x∈l,∀f,C.le f->Gives cx.P g (.agg ⟨gD x⟩::e) f (.bool (p x))) :
  Jog.Fn cx.P 156 [v,.func (.func g) #[] ⟨e⟩] C [zak l v] λu _H h=>u=i_ (ib p l 0)/\h=[zak l v]:=by
 refine V7 func156 19 U3 λw0=>G.form ag (λo I=>?_);obtain⟨A,c0,s⟩:∃A c0,v=.slice A l.length c0:=by
  rcases o with⟨h1,h2⟩|⟨g,c,h1,_⟩
  .exact⟨none,0,by rw[h1,h2]⟩
  exact⟨_,c,h1⟩
 subst s;refine U0 1 [0,1] U<|U0 3 [0,1,7,8] U<|G.loop (λfr f h t=>∃(k:Nat),(k<=l.length/\∀y∈l.take k,p y=false)/\fr=[(0,[],.slice A l.length c0),(1,[],.func (.func g) #[] ⟨e⟩),(7,[],i_ l.length),(8,[],i_ k)]/\h=[zak l (.slice A l.length c0)]/\t=l.length-k) (hn_ [0,1,7,8] U) ⟨0,⟨Sm _,by simp⟩,U,U,U⟩ (λfr J K m q w=>?_);obtain⟨k,⟨L,a⟩,rfl,rfl,rfl⟩:=w;refine U0 1 [0,1,7,8,9] U<|G.cd (λi=>?_) λi=>?_
 .simp only[Sr]at i;have z:k<l.length:=by omega
  obtain⟨x,b⟩:∃x,l[k]?=some x:=⟨l[k],ah z⟩;have B:x∈l:=aJ b;obtain⟨D,c,E⟩:∃g c,(Value.slice A l.length c0)=s_ g l.length c:=by
   rcases o with⟨h1,h2⟩|⟨g,c,h1,_⟩
   .omega
   exact⟨g,c,h1⟩
  obtain⟨rfl,rfl⟩:some (⟨D,0,none⟩:Addr)=A/\c=c0:=by cases E;exact⟨rfl,rfl⟩
  refine U0 2 [0,1,5,7,8] U<|U1 3 U λR j=>Ww (k*10) U10 w_ U2<|WJ ag U6 (λ_=>(by rw[dx mh b];rfl)) U2<|Wb (r x B _ q) U7<|V5 [0,1,5,7,8,16] j U<|G.cd (λn=>?_) λn=>?_
  .refine U0 2 [4] U<|Wd (WD U U ?_);exact⟨by rw[mI (k:=0) b n a,Tw],U⟩
  refine V3 λR j=>V8 _ U U6<|C6 1 [0,1,7,8] j U<|We (m':=l.length-(k+1)) om_ q (hn_ [0,1,7,8] U) ⟨k+1,⟨by omega,λy hy=>by
   rw[SH,b]at hy;rcases Sx.1 hy with d|d
   .exact a y d
   simp only[TE,SD]at d;subst d;exact n⟩,U,U,U⟩
 simp only[SS]at i;refine U0 1 [4] U<|Wd (WD U U ?_);rw[SL om_]at a;exact⟨by rw[jA a],U⟩
theorem vP (C:Mem)(v:Value)(l:List Obs)(o:FuncId)(s:List Value)(p:Obs->Bool)(N:l.length<=1000000)(H:∀x∈l,∀d,C.le d->Gives cx.P o (.agg ⟨gD x⟩::s) d (.bool (p x))) :
  Jog.Fn cx.P 96 [v,.func (.func o) #[] ⟨s⟩] C [.arr v 126 10 l.length (l.map gD).flatten] λu d t=>t=[]/\Sl d 10 u ((l.filter λx=>!(p x)).map gD):=by
 refine V7 func96 42 U3 λw0=>G.form ag (λI an=>?_);obtain⟨A,c0,O⟩:∃A c0,v=.slice A l.length c0:=by
  rcases I with⟨h1,h2⟩|⟨g,c,h1,_⟩
  .exact⟨none,0,by rw[h1,h2]⟩
  exact⟨_,c,h1⟩
 subst O;refine U0 1 [0,1] U<|Wt [(2,3)] U λR a=>V4 2 U<|D.call (yy _ _ l o s p N H) U (.inr dc_) U6 (Sp _) fl_ (λao _ ap Q S=>?_);obtain⟨rfl,rfl⟩:=S;refine C6 1 [0,1,5] a U<|U0 2 [0,1,5,12] U<|G.cd (λe=>?_) λe=>?_
 .have T:∀y∈l,p y=false:=by
   rcases ia p l with⟨_,h2⟩|⟨k,x,h1,_⟩
   .exact h2
   exfalso;rw[h1]at e;simp at e
  have V:l.filter (λx=>!(p x))=l:=List.filter_eq_self.2 (λy hy=>by rw[T y hy];rfl);refine U0 2 [4] U<|G.freezeArr 0 (l.map gD) U2 (by intro r hr;obtain⟨x,_,rfl⟩:=Sn.1 hr;exact mh x) al (λW X z=>Wd (WD rfl rfl ?_));exact⟨U,by rw[V];exact z⟩
 obtain⟨k0,x0,Y,J,Z,aa⟩:∃k x,ib p l 0=((k:Nat):Int)/\l[k]?=some x/\p x=true/\∀y∈l.take k,p y=false:=by
  rcases ia p l with⟨h1,h2⟩|⟨k,x,h1,h2⟩
  .exfalso;rw[h1]at e;simp at e
  exact⟨k,x,h1,h2⟩
 have aq:k0<l.length:=(aT.1 J).1;rw[Y];obtain⟨g,c,ab,ac,ar⟩:∃g c,(Value.slice A l.length c0)=s_ g l.length c/\l.length<=c/\c<=maxLen:=by
  rcases I with⟨h1,h2⟩|⟨g,c,h1,h2,h3⟩
  .omega
  exact⟨g,c,h1,h2,h3⟩
 obtain⟨rfl,rfl⟩:some (⟨g,0,none⟩:Addr)=A/\c=c0:=by cases ab;exact⟨rfl,rfl⟩
 have ad:(l.take (k0+1)).filter (λx=>!(p x))=l.take k0:=by
  rw[SH,J,TM];simp only[TE,List.filter_cons,Z,Bool.not_true,List.filter_nil];rw[aF dc_,SF];exact List.filter_eq_self.2 (λy hy=>by rw[aa y hy];rfl)
 refine U1 1 U λR a=>V8 _ U U6<|C6 1 [0,1,5,6] a U<|G.loop (λfr d t μ=>∃(j i:Nat)(r:List Obs),(i<j/\j<=l.length/\r.length=l.length/\r.take i=(l.take j).filter (λx=>!(p x))/\(∀q,j<=q->r[q]?=l[q]?))/\fr=[(0,[],s_ g l.length c),(1,[],.func (.func o) #[] ⟨s⟩),(5,[],i_ i),(6,[],i_ j)]/\t=[.arr (s_ g l.length c) 126 10 l.length (r.map gD).flatten]/\μ=l.length-j) (hn_ [0,1,5,6] U) ⟨k0+1,k0,l,⟨by omega,by omega,U,ad.symm,λ_ _=>rfl⟩,U,U,U⟩ (λfr av aw m B hI=>?_);obtain⟨j,i,r,⟨ax,ay,f,w,E⟩,rfl,rfl,rfl⟩:=hI;refine U0 4 [0,1,5,6,19] U<|G.cd (λF=>?_) λF=>?_
 .simp only[Sr]at F;have az:j<l.length:=by omega
  obtain⟨x,b⟩:∃x,r[j]?=some x:=⟨r[j]'om_,ah om_⟩;have K:l[j]?=some x:=by rw[<- E j (Sg _)];exact b
  have ae:x∈l:=aJ K;have L:(l.take (j+1)).filter (λx=>!(p x))=(l.take j).filter (λx=>!(p x))++(if p x=true then [] else [x]):=by
   rw[SH,K,TM];cases af:p x <;> simp[af]
  refine U1 2 U λR a=>Ww (j*10) U10 w_ U2<|WJ ag U6 (λ_=>(by rw[dx mh b];rfl)) U2<|Wg U5 λb7=>Wa (j:=0) U12<|V5 [0,1,5,6,7] a U<|U1 1 U λR a=>V9 ag U9<|Wb (H x ae _ (Q.trans B)) U7<|C6 1 [0,1,5,6,7,29] a U<|G.cd (λn=>?_) λn=>?_
  .simp only[UH]at n;refine U1 2 U λR a=>V9 ag U9<|Ww (i*10) U10 w_ U2<|WA (j:=1) U11 (by show i*10+10<=_;rw[bM mh,f];have h9:(i+1)*10<=l.length*10:=SY _ om_;omega)<|V5 [0,1,5,6] a U<|U1 1 U λR a=>V8 _ U U6<|C6 1 [0,1,5,6] a U<|U1 1 U λR a=>V8 _ U U6<|C6 1 [0,1,5,6] a U ?_;have hw:aB (r.map gD).flatten (gD x) (i*10)=((r.set i x).map gD).flatten:=bI mh x om_;refine WH 1 U<|Wk (L':=[.arr (s_ g l.length c) 126 10 l.length ((r.set i x).map gD).flatten]) (by rw[<- hw];rfl) ?_;refine We (m':=l.length-(j+1)) om_ B (hn_ [0,1,5,6] U) ⟨j+1,i+1,r.set i x,⟨by omega,by omega,by simpa using f,by
    rw[L,aF (by rw[n];decide),<- w,SH,List.take_set_of_le (Sg _),UR om_];rfl,λq hq=>by rw[Vd om_];exact E q om_⟩,rfl,rfl,rfl⟩
  simp only[Bool.not_eq_false']at n;refine U1 1 U λR a=>V8 _ U U6<|C6 1 [0,1,5,6] a U<|WH 0 U ?_;refine We (m':=l.length-(j+1)) om_ B (hn_ [0,1,5,6] U) ⟨j+1,i,r,⟨by omega,by omega,f,by rw[L,aK n,SF];exact w,λq hq=>E q om_⟩,U,U,U⟩
 simp only[SS]at F;have ai:j=l.length:=by omega
 rw[ai,Ss]at w;have aA:i<=l.length:=by omega
 refine U1 2 U λR a=>WN i l.length c U12 (λ_=>⟨.inr ⟨_,U⟩,.inl ⟨U,U⟩,.inl ⟨U,U⟩,by omega,ac,Sg _⟩) U2 ?_;refine Yq 0 (off:=i*10) U U U U U U U U U U U (by
  by_cases aj:c=i
  .exact .inl om_
  refine .inr ?_;rw[aF aj];simp only[TU,Addr.add_lit,Tw]) (by rw[bM mh,f,<- TQ];exact SY _ om_) ?_
 refine V5 [0,5] a U<|U1 2 U λR a=>WN 0 i c U12 (λ_=>⟨.inl ⟨U,U⟩,.inr ⟨_,U⟩,.inl ⟨U,U⟩,by omega,by omega,Sg _⟩) U2<|C6 1 [4] a U<|G.freezeArr 0 ((r.take i).map gD++List.replicate (l.length-i) zO) ⟨U,?_⟩ ?_ am (λW X z=>Wd (WD U U ?_))
 .unfold aB;have e1:(fI zO (l.length-i)).length=(l.length-i)*10:=cG _ _;refine Eq.trans (congrArg (·++_) (congrArg (·++_) (ci mh r i).1)) ?_;rw[SI,SX];congr 1;rw[<- dH];refine Eq.trans (congrArg (_++·) (TZ ?_)) (SF _);rw[bM mh,f];refine Su (Nat.le_of_eq ?_) (Nat.le_of_eq (congrArg (i*10+·) e1.symm));rw[<- TQ];congr 1;omega
 .intro x b;rcases Sx.1 b with b|b
  .obtain⟨y,_,rfl⟩:=Sn.1 b;exact mh y
  rw[TT b];rfl
 refine⟨U, ?_⟩;have M:=Sl.sub z (l:=0) (h:=i) (m:=c) (Sm _) am om_ (Sg _);have ak:(((r.take i).map gD++List.replicate (l.length-i) zO).take i).drop 0=(l.filter λx=>!(p x)).map gD:=by
  rw[Tt,List.take_append_of_le_length am,SL am,w]
 rw[ak]at M;exact M
abbrev zal:=λr=>Ent.obj r (.cells ⟨[.slice none 0 0,.slice none 0 0,.slice none 0 0,.slice none 0 0,.slice none 0 0]⟩ 45 (0,0))
theorem E4 (C:Mem)(L:Tabs C)(M:Value)(S:Sht)(H:Hts)(l:List Sgt)(hP:PlanIn C M S H l)(q:PlanR S H l):Pur cx.P 41 [M] C λu D=>∃bv,u=.tuple #[bv,.bool (decide (bp (gg S H (l.take 2))<=4))]/\BookIn D bv (gg S H (l.take 2)):=by
 obtain⟨A,c,rfl,N⟩:=hP;have hG:=(gV (S.kd % 8) (S5 _ dc_) S.a S.b S.h).1;have az:l.length<=c/\c<=maxLen:=by
  obtain⟨A',c',O,h1,h2,_⟩:=id N;simp only[Value.slice.injEq]at O;obtain⟨_,_,rfl⟩:=O;rw[au]at h1;exact⟨h1,h2⟩
 have Q:∀s∈l.take 2,SgtR s:=λs h=>q.s s (To h);have ah:=ue S H (l.take 2) Q;have T:=N.sub (l:=0) (h:=min l.length 2) (m:=c) (Sm _) (by rw[au];omega) om_ (Sg _);rw[Tt,<- Us,show l.take (min l.length 2)=l.take 2 by rw[Nat.min_comm,<- Ve,Ss]]at T;have aA:=mx_
 have aB:(sk S (l.take 2)).length<=6:=by rw[pe];omega
 refine V7 func41 57 U3 λw0=>V3 λR d=>Wi U6 λb1=>Wg U5 λr=>C6 1 [1,2] d U<|U1 1 U λR d=>V9 af U9<|V2 U6<|V9 af U9<|V2 U6<|D.min (((min l.length 2:Nat):Int)) U6 om_ U2<|WN 0 (min l.length 2) c U12 (λ_=>⟨.inl ⟨U,U⟩,.inr ⟨_,U⟩,.inl ⟨U,U⟩,by omega,by omega,Sg _⟩) U2<|V2 U6<|Wa (j:=1) U12<|V5 [1,2] d U<|G.freeze 0 U λ_ _ ai=>V3 λR d=>V1 (bkT ai 12) U8<|Wz (HX _ L.m_ S H _ (l.take 2) q.kd q.h T.m_ Q hG) U7 (λaC _ _ aj=>?_);obtain⟨v1,v2,tv,cv,ov,rfl,t,v,w,V,y⟩:=id aj.ex;obtain⟨W,X,rfl,_⟩:=id t;obtain⟨Y,Z,rfl,_⟩:=id v;obtain⟨B3,d3,rfl,_⟩:=id w;obtain⟨B4,d4,rfl,aa,aD,_⟩:=id V;obtain⟨B5,d5,rfl,_⟩:=id y;have z:(jK S H (l.take 2)).col.length=3:=rfl;have f:=V.sub (l:=0) (h:=2) (m:=d4) om_ (by rw[au,z];decide) (by rw[au,z]at aa;omega) (Sg _);have f:Sl _ 3 _ (colS.map pi):=f;simp only[au,z]at aa t v w y⊢;refine Wg U5 λB=>Wa (j:=0) U12<|V5 [2,4] d U<|U1 1 U λR d=>V9 ag U9<|C6 2 [2,4,21] d U<|G.cd (λab=>?_) λab=>?_
 .refine U1 1 U λR d=>V9 ag U9<|WN 0 2 d4 U12 (λ_=>⟨.inl ⟨U,U⟩,.inr ⟨_,U⟩,.inl ⟨U,U⟩,by omega,by omega,Sg _⟩) U2<|V2 U6<|Wa (j:=0) U12<|V5 [2,4] d U ?_;obtain⟨E,F,o,_⟩:=id f;have o:_=Value.slice E 2 F:=o;refine Wk (L':=[.obj B (.cells ⟨[.slice W (jK S H (l.take 2)).pts.length X,.slice Y (jK S H (l.take 2)).tris.length Z,.slice B3 (jK S H (l.take 2)).terr.length d3,.slice E 2 F,.slice B5 (jK S H (l.take 2)).obs.length d5]⟩ 45 (0,0)),zal r]) (by rw[<- o];rfl) ?_;rw[o]at f;refine G.cut (λfr I L' μ=>∃(g:Option Addr)(i:Nat)(e:Nat),(Sl I 1 (.slice g 2 i) (usS.map dC))/\fr=[(2,[],p_ r),(4,[],p_ B),(5,[],p_ e)]/\L'=[.obj e (.cells ⟨[.slice g 2 i]⟩ 181 (0,0)),.obj B (.cells ⟨[.slice W (jK S H (l.take 2)).pts.length X,.slice Y (jK S H (l.take 2)).tris.length Z,.slice B3 (jK S H (l.take 2)).terr.length d3,.slice E 2 F,.slice B5 (jK S H (l.take 2)).obs.length d5]⟩ 45 (0,0)),zal r]) ?_ (λfr aE aF μ aG hI=>?_)
  .refine WW (.cut [0,1,2,3,4,5,6,7,8,9] (.alt 10 (.fin [11,12]) (.alt 11 (.fin [10,12]) .stop))) [] U U kr_ λR k d J=>V2 U6<|V9 ag U9<|Wf f.m_ U10 om_ (rfl:(colS.map pi)[0]?=some (pi ⟨[65],0,none⟩)) fl_ λaH ak=>W5 ak U10 fl_ λaI al=>V1 al U8<|V2 U6<|V9 ag U9<|Wf f.m_ U10 om_ (rfl:(colS.map pi)[1]?=some (pi ⟨[66],0,some 5⟩)) fl_ λaJ am=>W5 am U10 fl_ λaK an=>V1 an U8<|WK J U ⟨?_, ?_,trivial⟩
   .refine Wq [[ae [65]],[ae [66]]] U12 λao ap _ n=>Wg U5 (λe=>?_);obtain⟨g,i,rfl,_⟩:=id n;exact Wa (j:=0) U12<|V5 [2,4,5] d U<|Wj 0 mup (hn_ [2,4,5] U) ⟨g,i,e,n.mono mup,U,U⟩
   refine Wg U5 λe=>Wq [[ae [65]],[ae [66]]] U12 (λao ap _ n=>?_);obtain⟨g,i,rfl,_⟩:=id n;exact Wa (j:=0) U12<|V5 [2,4,5] d U<|Wj 0 mup (hn_ [2,4,5] U) ⟨g,i,e,n.mono mup,U,U⟩
  obtain⟨g,i,e,aq,rfl,rfl⟩:=hI;refine G.freeze 0 U λ_ _ ar=>Wt [(2,3),(4,3)] U λR d=>V2 U6<|V9 ag U9<|D.call (Jd _ _ (sk S (l.take 2)) y.m_ om_) U (.inr dc_) U6 (Sp _) fl_ (λaL _ aM _ av=>?_);obtain⟨Aq,nq,cq,rfl,rfl⟩:=av;refine V2 U6<|D.call (vP _ _ (sk S (l.take 2)) 97 [p_ e] (rH usS) om_ (λx hx I ac=>GG I x usS _ e (aq.mono (Mem.le.trans mup ac)) dc_ (Mem.le.trans mup ac _ _ ar))) U (.inr dc_) U6 (Sp _) fl_ (λaN _ aO _ aw=>?_);obtain⟨rfl,p⟩:=aw;rw[<- Jq S H (l.take 2)]at p;obtain⟨A6,d6,rfl,_⟩:=id p;simp only[au]at p⊢;refine V2 U6<|Wa (j:=0) U12<|V5 [2,4] d U<|G.freeze 0 U (λC7 _ K=>?_);have ad:BookIn C7 _ (gg S H (l.take 2)):=⟨_,_,_,_,_,rfl,t.mono mup,v.mono mup,w.mono mup,f.mono mup,p.mono mup⟩;refine V3 λR d=>V1 (bkT K 5) U8<|Wz (ri _ L.m_ _ (gg S H (l.take 2)) _ _ ad ah) U7 (λaP _ _ ax=>?_);obtain⟨lv,rfl,aQ⟩:=ax;refine C6 5 [2,4,7] d U<|Wn [0,1,2,3,4,5,6,7,8,9,10] [(0,0),(5,0)] U kr_ λR k d=>WF (λ_=>((bkT K 5).mono k)) U9<|V4 4 U<|WF (λ_=>((bkT K 1).mono k)) U9<|V4 2 U<|Wr U8<|Wa (j:=0) U12<|V2 U6<|V5 [2,3] d U ?_;clear d k R;refine Wd (Xy ag U U U U U ?_);have ay:(true && decide ((((jK S H (l.take 2)).pts.length:Nat):Int)<=4))=decide (bp (gg S H (l.take 2))<=4):=by
   rw[Vp];exact S8.2 ⟨λh=>by show(jK S H (l.take 2)).pts.length<=4;omega,λh=>by have h2:(jK S H (l.take 2)).pts.length<=4:=h;omega⟩
  exact⟨U,_,by rw[<- ay];rfl,ad.mono mup⟩
 exact absurd ab dc_
theorem Fm {D:Mem}(h:FlatO B RO es D u):∃(A:Option Addr)(n c:Nat)(a:Str)(A2:Option Addr)(n2 c2:Nat)(e:Int),u=.tuple #[.agg ⟨[.slice A n c,ae a,.slice A2 n2 c2]⟩,i_ e] /\
  ((e=22/\n=0/\¬ (F0 B RO es).Hold)∨(e=0/\∃v pt du,a=qtx v/\Lp.OptR (F0 B RO es) (PX B es) 20 v pt du/\FieldsIn D (.slice A n c) (fh (bs B) (bp B) pt)/\Sl D 1 (.slice A2 n2 c2) ((duL (rsR B RO es) du).map aM))):=by
 cases h with
|opt v pt du d dv b h1 h2 =>
  obtain⟨vs,_,_,h3⟩:=id h1;obtain⟨A,c,rfl,_⟩:=id h3;obtain⟨A2,c2,rfl,_⟩:=id h2;exact⟨_,_,_,_,_,_,_,0,U,.inr ⟨U,v,pt,du,U,b,h1,h2⟩⟩
|inf h1=>exact⟨none,0,0,[],none,0,0,22,rfl,.inl ⟨rfl,rfl,h1⟩⟩
theorem PlanIn.mono {C D:Mem}{a:Value}{S:Sht}{H:Hts}{l:List Sgt}(h:PlanIn C a S H l)(b:C.le D):PlanIn D a S H l:=by
 obtain⟨A,c,e,h⟩:=h;exact⟨A,c,e,h.mono b⟩
theorem PlanIn.m_ {D:Mem}{a:Value}{S:Sht}{H:Hts}{l:List Sgt}(h:PlanIn C a S H l)(b:C.le D:=by exact mup):PlanIn D a S H l:=PlanIn.mono h b
theorem AU {p:Lp.Sys}{D:Mem}(h:FeaO p D u)(a:¬ p.Hold):∃A n c,u=.tuple #[.slice none 0 0,.agg ⟨[.slice A n c]⟩,.bool false,i_ 0]:=by
 cases h with
|yes pt b h1=>exact absurd ⟨pt,h1⟩ a
|no du d h1 h2 =>
  obtain⟨A,c,rfl,_⟩:=id h2;exact⟨A,_,c,U⟩
theorem LP {rs:List (List Rat × Rat)}(b:∀r,QB 20 (du r)):(∀s∈(duL rs du).map qtx,s.length<=999998)/\(((duL rs du).map qtx).all aS=true->(duL rs du).map qtx=(duL rs du).map qtx/\∀x∈duL rs du,QB 23 x):=by
 have h:∀x∈duL rs du,QB 20 x:=λx a=>by
  obtain⟨k,_,rfl⟩:=Sn.1 a;exact b k
 refine⟨λs hs=>?_,λ_=>⟨U,λx a=>(h x a).le dc_⟩⟩;obtain⟨x,a,rfl⟩:=Sn.1 hs;exact Su (aV (h x a) dc_) dc_
theorem Oh {D:Mem}{v:Rat}(c:bs B=1)(a:Lp.OptR (F0 B RO es) (PX B es) 20 v pt du)(d:PL B (fh (bs B) (bp B) pt) pt)(e:FieldsIn D sv (fh (bs B) (bp B) pt))(b:Sl D 1 dv ((duL (rsR B RO es) du).map aM)) :
  ResIn D B sv dv (fh (bs B) (bp B) pt) pt (qtx v) ((duL (rsR B RO es) du).map qtx) (duL (rsR B RO es) du):=by
 obtain⟨f,g⟩:=LP (rs:=rsR B RO es) a.qd;rw[fx]at b;exact⟨e,Ew λj=>(a.qp j).le dc_,by rw[c];unfold fh chunks;simp,d,Su (aV a.qv dc_) dc_,b,f,g⟩
theorem AO (C:Mem)(i:Tabs C)(N:Value)(S:Sht)(H:Hts)(l:List Sgt)(W:PlanIn C N S H l)(X:PlanR S H l):Gives cx.P 8 [N] C (.bool true):=by
 have Y:=λ(D:Mem)(Z:C.le D)=>E4 D (i.mono Z) N S H l (W.mono Z) X;obtain⟨A,c,rfl,aH⟩:=W;obtain⟨B,m⟩:∃B,gg S H (l.take 2)=B:=⟨_,rfl⟩;have g:=ue S H (l.take 2) λs h=>X.s s (To h);have o:bs (gg S H (l.take 2))=1:=rfl;rw[m]at g Y o;generalize fsK (cJ (S.kd % 8) S.a S.b S.h).length H=fs at g;generalize roS S H (l.take 2)=RO at g;have k:=cH B.obs.length;have aI:=g.cnt k;have aJ:=g.n12;have aa:=g.rich.scol.1;have hG:=g.rich.good;refine V7 func8 102 U3 λw0=>V3 λR d=>Wi U6 λb1=>C6 1 [1] d U<|V3 λR d=>Wb (If _ i.m_) U7<|C6 1 [1,16] d U<|G.cd (λab=>?_) λab=>?_
 .exact absurd ab dc_
 refine G.freeze 0 U λ_ _ ak=>V3 λR d=>V1 (bkT ak 12) U8<|Wz (Y _ mup) U7 (λaK _ _ am=>?_);obtain⟨bv,rfl,p⟩:=am;obtain⟨v1,v2,tv,cv,ov,rfl,g1,g2,g3,g4,g5⟩:=id p.ex;obtain⟨B1,d1,rfl,_⟩:=id g1;obtain⟨B2,d2,rfl,_⟩:=id g2;obtain⟨B3,d3,rfl,_⟩:=id g3;obtain⟨B4,d4,rfl,_⟩:=id g4;obtain⟨B5,d5,rfl,_⟩:=id g5;refine V4 3 U<|Wg U5 λb3=>Wa (j:=0) U12<|C6 1 [3,4] d U<|U0 2 [3,23] U<|G.cd (λac=>?_) λac=>?_
 .exact U0 1 [2] U<|V6 U2<|⟨U,U⟩
 have I:bp B<=4:=by simpa using ac
 refine G.freeze 0 U (λC4 _ q=>?_);have hm:MeshIn C4 (.agg ⟨[.slice B1 _ d1,.slice B2 _ d2]⟩) B.pts B.tris:=⟨_,_,rfl,g1.mono mup,g2.mono mup⟩;refine V3 λR d=>V1 (bkT q 5) U8<|Wz (ri _ i.m_ _ B fs RO p.m_ g) U7 (λaL _ _ an=>?_);obtain⟨lv,rfl,w⟩:=an;obtain⟨aN,aO,ao⟩:=id w;obtain⟨Al,cl,rfl,_⟩:=id ao;refine C6 5 [3,5] d U<|V3 λR d=>V1 (bkT q 5) U8<|Ws (Dy _ i.m_ _ B fs RO p.m_ g om_ om_ (λes r=>(qE g o I r).1)) U7 fl_ (λaP _ _ ap=>?_);obtain⟨es,r,aq⟩:=ap;obtain⟨As,ns,cs,ar,Ad,nd,cd,e,rfl,ad⟩:=Fm aq;have ae:=r.ok (n:=bp B) hG.ok.ins (bs B);refine V4 3 U<|Wg U5 λb7=>Wa (j:=0) U12<|C6 1 [3,5,7,8] d U<|G.freeze 0 U λ_ _ u=>U0 2 [3,5,7,8,35] U<|G.cd (λJ=>?_) λJ=>?_
 .have he:e=22:=by simpa using J
  obtain⟨rfl,av⟩:ns=0/\¬ (F0 B RO es).Hold:=by
   rcases ad with⟨_,h⟩|⟨h,_⟩
   .exact h
   rw[h]at he;cases he
  have O:¬ (nC B RO).Hold:=Ob ae g.rl av;refine G.cut (λfr C' L' μ=>∃(A:Option Addr)(n c t:Nat),(True)/\fr=[(7,[],p_ b7),(11,[],.bool false),(12,[],i_ 0)]/\L'=[.obj t (.cells ⟨[.slice A n c]⟩ 68 (0,0))]) ?_ (λfr aQ aR μ aS hI=>?_)
  .refine WW (.cut [0,1,2,3,4] (.alt 5 (.cut [6] (.alt 7 (.fin [8,9,10,11,12,13,14,15,16,17]) (.alt 13 (.fin [7,8,9,10,11,12,14,15,16,17]) .stop))) (.alt 13 (.fin [5,6,7,8,9,10,11,12,14,15,16,17]) .stop))) [(1,1),(4,1)] U U kr_ λR m d x=>V1 (bkT q 5) U8<|Wo (λ_=>(mW _ _ B p.m_ aa om_)) U9<|V2 U6<|V1 (bkT q 5) U8<|Wo (λ_=>(mW _ _ B p.m_ aa om_)) U9<|WK x U ⟨?_, ?_,trivial⟩
   .refine Ws (fX _ (bs B*bp B) om_) U7 fl_ (λaw ax _ Q=>?_);obtain⟨bz,rfl,K⟩:=Q;refine Wm [i_ (bs B*bp B:Nat),.slice Al _ cl,s_ bz (bs B*bp B) (bs B*bp B)] U8<|WK x U ⟨?_, ?_,trivial⟩
    .refine Ws (oZ _ i.m_ (bs B*bp B) _ _ (dD (cU B RO)) (List.replicate (bs B*bp B) 0) w.T.m_ K.m_ (g.rowsQ k) (ta _) (g.q22 k) om_ SG (g.lim k)) U7 fl_ (λaf ag _ y=>?_);obtain⟨z,E,F,rfl⟩:=AU y O;exact V4 5 U<|Wg U5 λt=>V2 U6<|Wa (j:=0) U12<|V4 2 U<|V5 [7,11,12] d U<|Wj 0 mup (hn_ [7,11,12] U) ⟨z,E,F,t,trivial,U,U⟩
    refine Wg U5 λt=>Ws (oZ _ i.m_ (bs B*bp B) _ _ (dD (cU B RO)) (List.replicate (bs B*bp B) 0) w.T.m_ K.m_ (g.rowsQ k) (ta _) (g.q22 k) om_ SG (g.lim k)) U7 fl_ (λaf ag _ y=>?_);obtain⟨z,E,F,rfl⟩:=AU y O;exact V4 6 U<|Wa (j:=0) U12<|V4 2 U<|V5 [7,11,12] d U<|Wj 0 mup (hn_ [7,11,12] U) ⟨z,E,F,t,trivial,U,U⟩
   refine Wg U5 λt=>Ws (fX _ (bs B*bp B) om_) U7 fl_ (λaw ax _ Q=>?_);obtain⟨bz,rfl,K⟩:=Q;refine Wm [i_ (bs B*bp B:Nat),.slice Al _ cl,s_ bz (bs B*bp B) (bs B*bp B)] U8<|Ws (oZ _ i.m_ (bs B*bp B) _ _ (dD (cU B RO)) (List.replicate (bs B*bp B) 0) w.T.m_ K.m_ (g.rowsQ k) (ta _) (g.q22 k) om_ SG (g.lim k)) U7 fl_ (λaf ag _ y=>?_);obtain⟨z,E,F,rfl⟩:=AU y O;exact V4 6 U<|Wa (j:=0) U12<|V4 2 U<|V5 [7,11,12] d U<|Wj 0 mup (hn_ [7,11,12] U) ⟨z,E,F,t,trivial,U,U⟩
  obtain⟨A,n,c,t,_,rfl,rfl⟩:=hI;exact U1 5 U λR d=>Wr U8<|V4 2 U<|Wv U6 (λ_=>PtrTo.blockT (Mem.get u mup) _ 1) U3<|V4 2 U<|Wr U8<|C6 1 [2] d U<|V6 U2<|⟨U,U⟩
 obtain⟨rfl,v,pt,du,rfl,L,V,ay⟩:e=0/\∃v pt du,ar=qtx v/\Lp.OptR (F0 B RO es) (PX B es) 20 v pt du/\FieldsIn _ (.slice As ns cs) (fh (bs B) (bp B) pt)/\Sl _ 1 (.slice Ad nd cd) ((duL (rsR B RO es) du).map aM):=by
  rcases ad with⟨h,_⟩|h
  .rw[h]at J;exact absurd J dc_
  exact h
 obtain⟨az,aA,aB,ah⟩:=NH g o ae L;obtain⟨hn,f1,f2,f3,f4,f5⟩:=qE g o I r;obtain⟨b1,b2⟩:=Jm L;obtain⟨_,ai,aC⟩:=ah (uA λj=>(L.qp j).le dc_);have M:=Oh o L ah V ay;refine Wn [0,1,2,3,4,5,6,7,8,9,10,11,12,13,14,15,16,17] [] U kr_ λR m d=>V4 3 U<|Wv U6 (λ_=>PtrTo.blockT (Mem.get q mup) _ 5) U3<|V2 U6<|Wv U6 (λ_=>PtrTo.blockT (Mem.get u mup) _ 1) U3<|Wo (λ_=>(E7 _ i.m_ _ _ B fs RO pt 21 p.m_ g V.m_ dc_ ai aC)) U9<|V2 U6<|Wy U8<|V4 2 U<|Wv U6 (λ_=>PtrTo.blockT (Mem.get u mup) _ 1) U3<|Wv U6 (λ_=>PtrTo.blockT (Mem.get q mup) _ 5) U3<|V2 U6<|Wv U6 (λ_=>PtrTo.blockT (Mem.get u mup) _ 1) U3<|Wo (λ_=>(E5 _ i.m_ _ _ _ _ _ _ B.pts B.tris [(List.range (bp B)).map pt] hm.m_ hG ((Cp o V).mono mup) (λf hf=>by rw[SD.1 hf,au,Tn];rfl) al es r (Co g o I r ai))) U9 ?_;rw[Sk];refine V2 U6<|Wy U8<|V5 [3,5,7,78] d U<|G.cd (λaj=>?_) λaj=>?_
 .exact absurd aj (by rw[aA];simp[aB])
 refine Wn [0,1,3,4,2,5,6,7,8,9,10] [(5,1)] U kr_ λR m d=>V1 (bkT q 5) U8<|V4 2 U<|V1 (bkT u 1) U8<|Ws (H2 _ i.m_ _ _ B fs RO p.m_ g om_ om_ w.m_) U7 fl_ (λaT _ _ aD=>?_);obtain⟨aU,aE,A1,n1,c1,A2,n2,c2,rfl,aF,aG⟩:=aD;obtain rfl:=r.same aE;exact Wo (λ_=>(D7 _ i.m_ (nR B es) _ _ _ (rsR B RO es) ((duL (rsR B RO es) du).map qtx) (obR B es) (duL (rsR B RO es) du) aF.m_ (by rw[<- fx];exact aG.mono mup) f1 f2 f3 f4 om_ f5 M.hd.m_ M.dl M.dq)) U9<|V4 5 U<|V5 [3,7,13,14] d U<|U1 5 U λR d=>Wv U6 (λ_=>PtrTo.blockT (Mem.get u mup) _ 1) U3<|V2 U6<|Wr U8<|V2 U6<|Wv U6 (λ_=>PtrTo.blockT (Mem.get q mup) _ 5) U3<|Wv U6 (λ_=>PtrTo.blockT (Mem.get u mup) _ 3) U3<|WC (λ_=>(Fc _ i.m_ _ _ _ B fs RO es (fh (bs B) (bp B) pt) pt (qtx v) ((duL (rsR B RO es) du).map qtx) (duL (rsR B RO es) du) p.m_ g o I r M.m_)) U9<|V2 U6<|Wr U8<|C6 1 [2] d U<|V6 U2<|⟨by rw[az,b1,b2];simp,U⟩
end Go.Proofs.YtfjcldheldflbaaGreatDoor
