/- Laws that the proofs of this seat share, part 15. -/
import Derived.Test.YtfjcldheldflbaaGreatDoorG14
import Derived.Test.YtfjcldheldflbaaGreatDoorShelf
set_option maxHeartbeats 4000000
namespace Go.Proofs.YtfjcldheldflbaaGreatDoor
open Go.Proofs.Tryz
open Go Go.Jog
set_option maxRecDepth 100000
variable {C:Mem}{es:List (Nat × Nat)}{i:Nat}{l:List RowQ}{n p:Nat}{ps:List Rat}{pt:Nat->Rat}{r r':RowQ}{rows:List RowQ}{s:Nat}{u:Value}{us:List Value}{v w:Value}
theorem Of (n:Nat)(q:Rat):List.replicate n (af (qtx q))=((List.replicate n q).map aQ).flatten:=by
 rw[TJ];induction n with
|zero=>rfl
|succ n a=>rw[Sd,Sd,Si,<- a];rfl
theorem Nn (C:Mem)(v:Value)(n:Nat)(q:Rat)(s:Str)(a:qtx q=s)(c:Sl C 1 v [[af s]])(d:n<=1000000):Pur cx.P 64 [v,i_ n] C fun u D=>∃ b,u=s_ b n n/\Sl D 1 u ((List.replicate n q).map aQ) :=
 WN (nB C v n s c d) fun u e f ⟨b,h1,h2⟩=>.inr ⟨u,32,1,(List.replicate n q).map aQ,by rw[h2,<- Of,a];simp,bP,fun D _ h=>⟨b,h1,h⟩⟩
theorem pl (C:Mem)(n:Nat)(h:n<=100000):Pur cx.P 77 [i_ n] C fun u D=>∃ b,u=s_ b n n/\Sl D 1 u ((List.replicate n (0:Rat)).map aQ) :=
 WN (mD C n h) fun u a c ⟨b,h1,h2⟩=>.inr ⟨u,32,1,(List.replicate n 0).map aQ,by rw[h2,<- gp];simp,bP,fun D _ h=>⟨b,h1,h⟩⟩
def zH (rows:List RowQ)(more i:Nat):List RowQ:=(rows.take i).map (fw more)++rows.drop i
theorem Kg (a:List RowQ)(b i:Nat):(zH a b i).length=a.length:=by
 unfold zH;rw[Rf,au,<- Rf,R5]
theorem NW {more:Nat}(h:rows[i]?=some r):(zH rows more i)[i]?=some r/\zH rows more (i+1)=(zH rows more i).set i (fw more r):=by
 have c:=(aT.1 h).1;have a:((rows.take i).map (fw more)).length=i:=by rw[au,Ro];omega
 have b:rows.drop i=r::rows.drop (i+1):=by rw[Ry c,(aT.1 h).2]
 unfold zH;constructor
 ·rw[RD om_,a,T0,b];rfl
 rw[RE,h,RN,b,List.set_append_right _ _ om_,a,T0];simp
theorem gn (d:us.length=l.length)(c:l[i]?=some r)(e:r'.b=r.b) :
  aE (aD us l).flatten [w] (i*2)=(aD (us.set i w) (l.set i r')).flatten:=by
 have f:=(aT.1 c).1;obtain⟨u0,g⟩:∃ u0,us[i]?=some u0:=⟨us[i]'om_,ai om_⟩;have h:us=us.take i++u0::us.drop (i+1):=by
  conv=>lhs;rw[<- R5 i us,Ry om_,(aT.1 g).2]
 have j:l=l.take i++r::l.drop (i+1):=by
  conv=>lhs;rw[<- R5 i l,Ry om_,(aT.1 c).2]
 have a:(us.take i).length=(l.take i).length:=by rw[Ro,Ro,d]
 have k:aD us l=aD (us.take i) (l.take i)++[u0,af (qtx r.b)]::aD (us.drop (i+1)) (l.drop (i+1)):=by
  conv=>lhs;rw[h,j]
  unfold aD;rw[List.zipWith_append a];rfl
 have m:aD (us.set i w) (l.set i r')=aD (us.take i) (l.take i)++[w,af (qtx r.b)]::aD (us.drop (i+1)) (l.drop (i+1)):=by
  rw[List.set_eq_take_append_cons_drop,aJ om_,List.set_eq_take_append_cons_drop,aJ f];unfold aD;rw[List.zipWith_append a,<- e];rfl
 have n:(aD (us.take i) (l.take i)).flatten.length=i*2:=by
  rw[aK (bN _ _),bk a,Ro,Sa om_]
 rw[k,m,RP,RP,Si,Si];exact wH (A:=(aD (us.take i) (l.take i)).flatten) (x:=u0) (B:=af (qtx r.b)::(aD (us.drop (i+1)) (l.drop (i+1))).flatten) n
theorem jU (h:RowsOk C us l)(b:Sl C 1 w (r'.f.map eE)):RowsOk C (us.set i w) (l.set i r'):=by
 refine⟨by rw[R3,R3];exact h.1,fun j v r a hr=>?_⟩;rw[List.getElem?_set]at a hr;by_cases e:i=j
 ·subst e;rw[aJ rfl]at a hr;split at a
  ·split at hr
   ·cases a;cases hr;exact b
   cases hr
  cases a
 rw[aF e]at a hr;exact h.2 j v r a hr
theorem zx (h:RowsOk C us l)(e:Sl C 1 w (r.f.map eE)):RowsOk C (us++[w]) (l++[r]):=by
 refine⟨by rw[Rf,Rf,h.1];rfl,fun j v x a b=>?_⟩;have:=h.1;rcases Rz j us.length with c|c
 ·rw[R0 c]at a;rw[R0 om_]at b;exact h.2 j v x a b
 rw[RD c]at a;rw[RD om_]at b;cases d:j-us.length with
|zero =>
  rw[d]at a;rw[show j-l.length=0 by omega]at b;cases a;cases b;exact e
|succ k=>rw[d]at a;cases a
theorem xe (d:us.length=l.length)(a:l[i]?=some r)(e:us[i]?=some w):((aD us l).flatten.drop (i*2)).take 2=[w,af (qtx r.b)]:=by
 have k:=(aT.1 a).1;have f:us=us.take i++w::us.drop (i+1):=by
  conv=>lhs;rw[<- R5 i us,Ry om_,(aT.1 e).2]
 have g:l=l.take i++r::l.drop (i+1):=by
  conv=>lhs;rw[<- R5 i l,Ry om_,(aT.1 a).2]
 have c:(us.take i).length=(l.take i).length:=by rw[Ro,Ro,d]
 have h:aD us l=aD (us.take i) (l.take i)++[w,af (qtx r.b)]::aD (us.drop (i+1)) (l.drop (i+1)):=by
  conv=>lhs;rw[f,g]
  unfold aD;rw[List.zipWith_append c];rfl
 have j:(aD (us.take i) (l.take i)).flatten.length=i*2:=by
  rw[aK (bN _ _),bk c,Ro,Sa om_]
 rw[h,RP,Si,<- j,List.drop_left];rfl
theorem rm (l:List Rat):((l.map aQ).all fun r=>r.all lF)=true:=by
 rw[Ru];intro r hr;obtain⟨q,_,rfl⟩:=Ra.1 hr;rfl
theorem JM {h:Nat}{k q:Nat}(a:q<2):(rgK n h p es k).take (q+1)=(rgK n h p es k).take q++[⟨rgF n h p es.length k (edg es k) (sC q),0⟩]:=by
 rcases(by omega:q=0∨q=1) with rfl|rfl <;> rfl
def Qj (D:Mem)(n:Nat)(rows:List RowQ)(ob:List Rat)(u:Value):Prop:=∃ (A1:Option Addr)(n1 c1:Nat)(A2:Option Addr)(n2 c2:Nat),u=.agg ⟨[.int .i64 n,.slice A1 n1 c1,.slice A2 n2 c2]⟩/\RowsT D (.slice A1 n1 c1) ((dx rows).map di)/\Sl D 1 (.slice A2 n2 c2) (ob.map aQ)
abbrev sR7 (A:Option Addr)(n c:Nat):Value:=.slice A n c
abbrev sF7 (A:Option Addr)(n c:Nat):Value:=.slice A n c
theorem JJ (C:Mem)(hT:Tabs C)(bv:Value)(B:Bk)(fs:List Rat)(RO:Nat->List RowQ)(d:BookIn C bv B)(h:Calm B fs RO)(aY:bp B<=6)(a0:bs B<=2) :
  Pur cx.P 22 [bv] C fun u D=>∃ es x,u=.tuple #[x,i_ 0]/\EdgL B.tris es/\Qj D (bs B*bp B+bs B*es.length) (zy (cq B RO) (bs B*bp B) (bp B) es (bs B*es.length)) (nA (bs B*bp B) (bs B*es.length)) x:=by
 have a1:=d;have hG:=h.rich.good;have a2:=h.n12;have a3:=h.cnt (cS B.obs.length);have ae:=fun(D:Mem)(hD:C.le D)=>eZ D (hT.mono hD) bv B fs RO (d.mono hD) h;obtain⟨v1,v2,tv,cv,ov,rfl,h1,h2,h3,h4,h5⟩:=id d.ex;have hm:MeshIn C (.agg ⟨[v1,v2]⟩) B.pts B.tris:=⟨v1,v2,rfl,h1,h2⟩;obtain⟨s,t,rfl,a4,_⟩:=id h1;obtain⟨A4,c4,rfl,a5,_⟩:=id h4;have a6:(B.pts.map gD).length=bp B:=au _;have a7:(B.col.map vZ).length=bs B+1:=by rw[au];have:=h.rich.scol.1;omega
 simp only[a6,a7]at h1 a4 h4 a5 hm a1 ae⊢;have bI:=mx_
 obtain⟨n,hn⟩:∃ n,bs B*bp B=n:=⟨_,rfl⟩;obtain⟨rows,ao⟩:∃ rows,cq B RO=rows:=⟨_,rfl⟩;rw[show pY B RO (List.range B.obs.length)=rows from ao]at a3;rw[hn]at ae a2⊢;rw[ao]at ae⊢;have a8:∀ r∈rows,r.f.length<=12:=fun r hr=>by
  have h1:=(h.rowsQ (cS B.obs.length)).l (r.f,r.b) (Ra.2 ⟨r,by rw[<- ao]at hr;exact hr,rfl⟩);have h2:r.f.length=bs B*bp B:=h1;omega
 refine UU func22 153 U3 fun w0=>?_;refine UQ fun R c=>?_;refine Vd U6 (fun b1=>?_);refine Ve U5 (fun v=>?_);refine C6 1 [1,2] c U ?_;clear c R;refine G.freeze 1 U (fun _ _ ah=>?_);refine Vl [(1,3)] U (fun R c=>?_);refine UO (bkT ah 5) U8 ?_;refine D.call (ae _ mup) U (.inr dc_) U6 (Rh _) fl_ (fun bJ _ bK _ a9=>?_);obtain⟨O,E,bo,vs,rfl,ba,rfl⟩:=a9;refine UR 3 U ?_;refine Ve U5 (fun y=>?_);refine UX (j:=0) U12 ?_;refine C6 1 [1,2,4,5] c U ?_;clear c R;refine UM 2 [1,2,4,5,24] U ?_;refine G.cd (fun aH=>?_) fun aH=>?_
 ·exact absurd aH dc_
 refine UN 1 U fun R c=>?_;refine UO (bkT ah 2) U8 ?_;refine Vu (KU _ hT.m_ _ B.pts B.tris hm.m_ hG) U7 (fun bL _ _ bb=>?_);obtain⟨es,ev,rfl,aq,ar⟩:=bb;obtain⟨Ae,ce,rfl,bc,_⟩:=id ar;simp only[au]at ar bc⊢;obtain⟨bd,bM⟩:=aq.le hG.ok.ins aY;obtain⟨a,ad⟩:∃ a,bs B*es.length=a:=⟨_,rfl⟩;have bO:a<=30:=by rw[<- ad];exact Su a0 bd
 refine C6 5 [1,2,4,5,6] c U ?_;clear c R;refine UM 2 [1,2,4,5,6,34] U ?_;refine G.cd (fun aI=>?_) fun aI=>?_
 ·exact absurd aI dc_
 refine Vg [0,1,2,3,4,5,6,7] [] U kr_ (fun R d c=>?_);refine UP U6 ?_;refine UW ag U9 ?_;refine UR 2 U ?_;refine UO (bkT ah 1) U8 ?_;refine UR 3 U ?_;refine US [1,2,4,6,7,8] c U ?_;clear c d R;refine UN 1 U fun R c=>?_;refine UO (bkT ah 1) U8 ?_;refine UP U6 ?_;refine Vt (((bs B:Nat):Int)) U4 om_ om_ om_ U2 ?_;refine UR 2 U ?_;refine Vt (((a:Nat):Int)) U4 (by rw[<- ad,RF]) om_ om_ U2 ?_;refine C6 1 [2,4,6,7,8,9] c U ?_;clear c R;refine UN 1 U fun R c=>?_;refine UW ag U9 ?_;refine UP U6 ?_;refine Vt (((n+a:Nat):Int)) U4 om_ om_ om_ U2 ?_;refine UP U6 ?_;refine UX (j:=0) U12 ?_;refine US [2,4,6,7,8,9] c U ?_;clear c R;refine UN 1 U fun R c=>?_;refine UW ag U9 ?_;refine UR 3 U ?_;refine UW ag U9 ?_;refine UR 2 U ?_;refine UV _ U U6 ?_;refine UV _ U U6 ?_;refine UP U6 ?_;refine Vq U8 ?_;refine US [2,4,6,7,8,9,66] c U ?_;clear c R;refine G.cd (fun aJ=>?_) fun aJ=>?_
 ·exact absurd aJ ap
 refine Vg [0,1,3,2,4,5,6,7] [] U kr_ (fun R d c=>?_);refine UP U6 ?_;refine UW ag U9 ?_;refine UP U6 ?_;refine Vj [[af [49]]] U12 (fun bQ _ _ be=>?_);refine Vo (Nn _ _ a 1 [49] Nu be.m_ om_) U7 fl_ (fun bR _ _ bf=>?_);obtain⟨bS,rfl,bg⟩:=bf;refine Vs (j:=2) U11 bg.m_ (rm _) (by simp only[au,RI,maxLen];omega) (by simp only[au,RI];omega) fl_ (fun e o p=>?_);refine UP U6 ?_;refine UX (j:=1) U12 ?_;refine US [2,4,6,7,8,9] c U ?_;clear c d R;refine UN 1 U fun R c=>?_;refine UW ag U9 ?_;refine C6 2 [2,4,6,7,8,9,76,77,78] c U ?_;clear c R;have bh:List.replicate n (af [48])++((List.replicate a (1:Rat)).map aQ).flatten=((nA n a).map aQ).flatten:=by
  rw[gp];unfold nA;rw[RN,RP]
 have bi:n+((List.replicate a (1:Rat)).map aQ).length=n+a:=by simp
 refine G.perm (L':=[.arr (sR7 O rows.length E) 140 2 (rows.length) (aD vs (zH rows a 0)).flatten,.arr (sF7 e o p) 32 1 (n+a) ((nA n a).map aQ).flatten,.obj y (.cells ⟨[i_ (n+a:Nat),.slice O rows.length E,.slice e o p]⟩ 74 (0,0)),.obj v (.cells ⟨[i_ 0,.slice none 0 0,.slice none 0 0]⟩ 74 (0,0))]) (by rw[show zH rows a 0=rows from U,<- bh,<- bi];(exact pkL [2,1,0,0] U)) ?_;refine G.loop (fun fr K z F=>∃ (i:Nat)(us:List Value),(i<=rows.length/\RowsOk K us (zH rows a i))/\fr=[(2,[],p_ v),(4,[],p_ y),(6,[],.slice Ae es.length ce),(7,[],i_ n),(8,[],i_ (bp B:Nat)),(9,[],i_ a),(76,[],.slice O rows.length E),(77,[],i_ rows.length),(78,[],i_ i)]/\z=[.arr (sR7 O rows.length E) 140 2 rows.length (aD us (zH rows a i)).flatten,.arr (sF7 e o p) 32 1 (n+a) ((nA n a).map aQ).flatten,.obj y (.cells ⟨[i_ (n+a:Nat),.slice O rows.length E,.slice e o p]⟩ 74 (0,0)),.obj v (.cells ⟨[i_ 0,.slice none 0 0,.slice none 0 0]⟩ 74 (0,0))]/\F=rows.length-i) (hn_ [2,4,6,7,8,9,76,77,78] U) ⟨0,vs,⟨Re _,by rw[show zH rows a 0=rows from rfl];exact RowsOk.mono ba mup⟩,U,U,U⟩ (fun fr bT bU m _ H=>?_);obtain⟨i,us,⟨hi,L⟩,rfl,rfl,rfl⟩:=H;refine Wt ag (fun A0 c0 bj bl=>?_);refine UM 1 [2,4,6,7,8,9,76,77,78,79] U ?_;refine G.cd (fun av=>?_) fun av=>?_
 ·have aw:i<rows.length:=by
   have:=Qw av;omega
  obtain⟨rfl,rfl⟩:O=A0/\E=c0:=by cases bj;exact⟨rfl,rfl⟩
  obtain⟨g,rfl⟩:=bl om_;obtain⟨r,aL⟩:∃ r,rows[i]?=some r:=⟨rows[i],ai aw⟩;obtain⟨W,M⟩:=NW (more:=a) aL;have bV:=Kg rows a i;have I:=L.1;obtain⟨w,aN⟩:∃ w,us[i]?=some w:=⟨us[i]'om_,ai om_⟩;have ay:=L.2 i w r aN W;obtain⟨Aw,cw,rfl,_⟩:=id ay;have bW:r.f.length<=12:=a8 r (aM aL);refine UN 1 U fun R c=>?_;refine Vp ((i*2)) U10 w_ U2 ?_;refine VE ag U6 (fun _=>(by rw[show((TI.size _:Nat))=2 from U,xe I W aN];rfl)) U2 ?_;refine Ve U5 (fun bX=>?_);refine UP U6 ?_;refine UX (j:=0) U12 ?_;refine US [2,4,6,7,8,9,10,11,76,77,78] c U ?_;clear c R;refine G.freeze 0 U (fun _ _ bm=>?_);refine G.cut (fun fr K z F=>∃ (aj:List Value),(RowsOk K aj (zH rows a (i+1)))/\fr=[(2,[],p_ v),(4,[],p_ y),(6,[],.slice Ae es.length ce),(7,[],i_ n),(8,[],i_ (bp B:Nat)),(9,[],i_ a),(76,[],s_ g rows.length E),(77,[],i_ rows.length),(78,[],i_ i)]/\z=[.arr (sR7 (some ⟨g,0,none⟩) rows.length E) 140 2 (rows.length) (aD aj (zH rows a (i+1))).flatten,.arr (sF7 e o p) 32 1 (n+a) ((nA n a).map aQ).flatten,.obj y (.cells ⟨[i_ (n+a:Nat),s_ g rows.length E,.slice e o p]⟩ 74 (0,0)),.obj v (.cells ⟨[i_ 0,.slice none 0 0,.slice none 0 0]⟩ 74 (0,0))]) ?_ (fun fr bY bZ F b0 H=>?_)
  ·refine VJ (.cut [0,2,3,4,6] (.alt 1 (.fin [5,7,8,9,10,11]) (.alt 5 (.cut [] (.alt 1 (.fin [7,8,9,10,11]) (.alt 7 (.cut [] (.alt 1 (.fin [8,9,10,11]) (.alt 8 (.fin [1,9,10,11]) .stop))) .stop))) .stop))) [(5,3),(4,0)] U U kr_ (fun R d c A=>?_);refine UR 3 U ?_;refine VW (fun _=>((bkT bm 1).mono d)) U9 ?_;refine UP U6 ?_;refine Vw A U ⟨?_, ?_,trivial⟩
   ·try obtain⟨X,Y,cc,rfl,rfl⟩:=N
    first|refine VP ac U9 ?_|refine VP aa U9 ?_
    refine D.call (Ij _ _ r.f ay.m_ om_) U (.inr dc_) U6 (Rh _) fl_ (fun bn bq br _ N=>?_)
    try obtain⟨X,Y,cc,rfl,rfl⟩:=N
    refine Vo (pl _ a om_) U7 fl_ (fun aO aP _ Z=>?_);obtain⟨bz,rfl,Q⟩:=Z;refine Vs (j:=0) U11 Q.m_ (rm _) (by simp only[au,RI,maxLen];omega) (by simp only[au,RI];omega) fl_ (fun S T V=>?_);refine Vp ((i*2)) U10 w_ U2 ?_;refine UP U6 ?_;refine Vr (j:=1) U11 (by rw[aK (bN _ _),bk I];simp;omega) ?_;refine US [2,4,6,7,8,9,76,77,78] c U ?_;clear c d A R;rw[<- RP,<- RN,gn I W (r':=fw a r) rfl,<- M];refine G.freezeArr 1 ((r.f++List.replicate a (0:Rat)).map aQ) U2 bP ak (fun Cf al J=>?_);exact Vb 0 mup (hn_ [2,4,6,7,8,9,76,77,78] U) ⟨us.set i (.slice S T V),by rw[M];exact jU (RowsOk.m_ L) J,U,U⟩
   refine D.call (Ij _ _ r.f ay.m_ om_) U (.inr dc_) U6 (Rh _) fl_ (fun bn bq br _ N=>?_);refine Vw A U ⟨?_, ?_,trivial⟩
   ·try obtain⟨X,Y,cc,rfl,rfl⟩:=N
    first|refine VP ac U9 ?_|refine VP aa U9 ?_
    try obtain⟨X,Y,cc,rfl,rfl⟩:=N
    refine Vo (pl _ a om_) U7 fl_ (fun aO aP _ Z=>?_);obtain⟨bz,rfl,Q⟩:=Z;refine Vs (j:=0) U11 Q.m_ (rm _) (by simp only[au,RI,maxLen];omega) (by simp only[au,RI];omega) fl_ (fun S T V=>?_);refine Vp ((i*2)) U10 w_ U2 ?_;refine UP U6 ?_;refine Vr (j:=1) U11 (by rw[aK (bN _ _),bk I];simp;omega) ?_;refine US [2,4,6,7,8,9,76,77,78] c U ?_;clear c d A R;rw[<- RP,<- RN,gn I W (r':=fw a r) rfl,<- M];refine G.freezeArr 1 ((r.f++List.replicate a (0:Rat)).map aQ) U2 bP ak (fun Cf al J=>?_);exact Vb 0 mup (hn_ [2,4,6,7,8,9,76,77,78] U) ⟨us.set i (.slice S T V),by rw[M];exact jU (RowsOk.m_ L) J,U,U⟩
   try obtain⟨X,Y,cc,rfl,rfl⟩:=N
   refine Vo (pl _ a om_) U7 fl_ (fun aO aP _ Z=>?_);refine Vw A U ⟨?_, ?_,trivial⟩
   ·try obtain⟨X,Y,cc,rfl,rfl⟩:=N
    first|refine VP ac U9 ?_|refine VP aa U9 ?_
    obtain⟨bz,rfl,Q⟩:=Z;refine Vs (j:=0) U11 Q.m_ (rm _) (by simp only[au,RI,maxLen];omega) (by simp only[au,RI];omega) fl_ (fun S T V=>?_);refine Vp ((i*2)) U10 w_ U2 ?_;refine UP U6 ?_;refine Vr (j:=1) U11 (by rw[aK (bN _ _),bk I];simp;omega) ?_;refine US [2,4,6,7,8,9,76,77,78] c U ?_;clear c d A R;rw[<- RP,<- RN,gn I W (r':=fw a r) rfl,<- M];refine G.freezeArr 1 ((r.f++List.replicate a (0:Rat)).map aQ) U2 bP ak (fun Cf al J=>?_);exact Vb 0 mup (hn_ [2,4,6,7,8,9,76,77,78] U) ⟨us.set i (.slice S T V),by rw[M];exact jU (RowsOk.m_ L) J,U,U⟩
   obtain⟨bz,rfl,Q⟩:=Z;refine Vs (j:=0) U11 Q.m_ (rm _) (by simp only[au,RI,maxLen];omega) (by simp only[au,RI];omega) fl_ (fun S T V=>?_)
   try obtain⟨X,Y,cc,rfl,rfl⟩:=N
   first|refine VP ac U9 ?_|refine VP aa U9 ?_
   refine Vp ((i*2)) U10 w_ U2 ?_;refine UP U6 ?_;refine Vr (j:=1) U11 (by rw[aK (bN _ _),bk I];simp;omega) ?_;refine US [2,4,6,7,8,9,76,77,78] c U ?_;clear c d A R;rw[<- RP,<- RN,gn I W (r':=fw a r) rfl,<- M];refine G.freezeArr 1 ((r.f++List.replicate a (0:Rat)).map aQ) U2 bP ak (fun Cf al J=>?_);exact Vb 0 mup (hn_ [2,4,6,7,8,9,76,77,78] U) ⟨us.set i (.slice S T V),by rw[M];exact jU (RowsOk.m_ L) J,U,U⟩
  obtain⟨aj,ab,rfl,rfl⟩:=H;refine UQ fun R c=>?_;refine UV _ U U6 ?_;refine C6 1 [2,4,6,7,8,9,76,77,78] c U ?_;clear c R;refine U0 (m':=rows.length-(i+1)) om_ mup (hn_ [2,4,6,7,8,9,76,77,78] U) ⟨i+1,aj,⟨by omega,ab⟩,U,U,U⟩
 have aw:i=rows.length:=by
  have:=Rc av;omega
 subst aw;refine UM 2 [2,4,6,7,8,95,96] U ?_;rw[show zH rows a rows.length=rows.map (fw a)++rgL (n+a) n (bp B) es 0 by unfold zH;rw[Rk,Sm];rfl]at L⊢;refine G.loop (fun fr K z F=>∃ (k:Nat)(s:Option Addr)(n1 t:Nat)(us:List Value),(k<=a/\RowsOk K us (rows.map (fw a)++rgL (n+a) n (bp B) es k))/\fr=[(2,[],p_ v),(4,[],p_ y),(6,[],.slice Ae es.length ce),(7,[],i_ n),(8,[],i_ (bp B:Nat)),(95,[],i_ a),(96,[],i_ k)]/\z=[.arr (sR7 s n1 t) 140 2 (rows.length+2*k) (aD us (rows.map (fw a)++rgL (n+a) n (bp B) es k)).flatten,.arr (sF7 e o p) 32 1 (n+a) ((nA n a).map aQ).flatten,.obj y (.cells ⟨[i_ (n+a:Nat),.slice s n1 t,.slice e o p]⟩ 74 (0,0)),.obj v (.cells ⟨[i_ 0,.slice none 0 0,.slice none 0 0]⟩ 74 (0,0))]/\F=a-k) (hn_ [2,4,6,7,8,95,96] U) ⟨0,O,rows.length,E,us,⟨Re _,RowsOk.mono L mup⟩,U,U,U⟩ (fun fr b3 b5 m _ H=>?_);obtain⟨k,s,n1,t,us,⟨hk,az⟩,rfl,rfl,rfl⟩:=H;refine UM 1 [2,4,6,7,8,95,96,97] U ?_;refine G.cd (fun aA=>?_) fun aA=>?_
 ·have b6:k<a:=by
   have:=Qw aA;omega
  have aR:k<bs B*es.length:=by omega
  obtain⟨bt,b7⟩:=HU aR;obtain⟨bu,bw,b8⟩:=Mt (aq.ok (n:=bp B) hG.ok.ins (bs B)) aR;rw[hn]at bu bw;have bx:0<es.length:=List.length_pos_of_mem bt;have aS:=RU k bx;have bA:(es.map yq)[k % es.length]?=some (yq (edg es k)):=by
   rw[Rb,ai aS];unfold edg;rw[am,ai aS];rfl
  refine UM 2 [2,4,6,7,8,12,95,96] U ?_;refine Vg [0,1,2,3,4,5,6,7,8,9,10,11,12,13] [] U kr_ (fun R d c=>?_);refine UR 3 U ?_;refine VS (k) (es.length) U6 om_ (.inl ⟨U,by omega⟩) U2 ?_;refine UR 4 U ?_;refine VN (k) (es.length) U6 om_ U2 ?_;refine Va ar.m_ U10 om_ bA fl_ (fun b9 bB=>?_);refine UO bB U8 ?_;refine Ve U5 (fun aT=>?_);refine UP U6 ?_;refine UX (j:=0) U12 ?_;refine US [2,4,6,7,8,12,13,14,95,96] c U ?_;clear c d R;refine G.freeze 0 U (fun _ _ aB=>?_);refine UQ fun R c=>?_;refine VK [[af [49]],[af [45,49]]] U12 fl_ (fun aU _ _ aV=>?_);refine C6 2 [2,4,6,7,8,12,13,14,95,96,110,111,112] c U ?_;clear c R;rw[sgns]at aV;refine Vc (L':=[.arr (sR7 s n1 t) 140 2 (rows.length+2*k+0) (aD us (rows.map (fw a)++(rgL (n+a) n (bp B) es k++(rgK (n+a) n (bp B) es k).take 0))).flatten,.arr (sF7 e o p) 32 1 (n+a) ((nA n a).map aQ).flatten,.obj y (.cells ⟨[i_ (n+a:Nat),.slice s n1 t,.slice e o p]⟩ 74 (0,0)),.obj v (.cells ⟨[i_ 0,.slice none 0 0,.slice none 0 0]⟩ 74 (0,0))]) (by rw[List.take_zero,RC];rfl) ?_;refine G.loop (fun fr K z F=>∃ (q:Nat)(s:Option Addr)(n1 t:Nat)(us:List Value),(q<=2/\RowsOk K us (rows.map (fw a)++(rgL (n+a) n (bp B) es k++(rgK (n+a) n (bp B) es k).take q)))/\fr=[(2,[],p_ v),(4,[],p_ y),(6,[],.slice Ae es.length ce),(7,[],i_ n),(8,[],i_ (bp B:Nat)),(12,[],i_ k),(13,[],i_ (k / es.length:Nat)),(14,[],p_ aT),(95,[],i_ a),(96,[],i_ k),(110,[],s_ aU 2 2),(111,[],i_ 2),(112,[],i_ q)]/\z=[.arr (sR7 s n1 t) 140 2 (rows.length+2*k+q) (aD us (rows.map (fw a)++(rgL (n+a) n (bp B) es k++(rgK (n+a) n (bp B) es k).take q))).flatten,.arr (sF7 e o p) 32 1 (n+a) ((nA n a).map aQ).flatten,.obj y (.cells ⟨[i_ (n+a:Nat),.slice s n1 t,.slice e o p]⟩ 74 (0,0)),.obj v (.cells ⟨[i_ 0,.slice none 0 0,.slice none 0 0]⟩ 74 (0,0))]/\F=2-q) (hn_ [2,4,6,7,8,12,13,14,95,96,110,111,112] U) ⟨0,s,n1,t,us,⟨Re _,by rw[List.take_zero,RC];exact RowsOk.mono az mup⟩,U,U,U⟩ (fun fr ca cb m _ H=>?_);obtain⟨q,s,n1,t,us,⟨cf,ab⟩,rfl,rfl,rfl⟩:=H;refine UM 1 [2,4,6,7,8,12,13,14,95,96,110,111,112,113] U ?_;refine G.cd (fun aC=>?_) fun aC=>?_
  ·have an:q<2:=by
    have:=Qw aC;omega
   refine UQ fun R c=>?_;refine Va aV.m_ U10 om_ (by rw[Rb,LR an];rfl:(([1, -1]:List Rat).map aQ)[q]?=some (aQ (sC q))) fl_ (fun cg bC=>?_);refine UO bC U8 ?_;refine C6 1 [2,4,6,7,8,12,13,14,16,95,96,110,111,112] c U ?_;clear c R;refine Vl [(2,3)] U (fun R c=>?_);refine UP U6 ?_;refine UW ac U9 ?_;refine D.call (mD _ (n+a) om_) U (.inr dc_) U6 (Rh _) fl_ (fun ch _ ci _ bD=>?_);obtain⟨bz,rfl,rfl⟩:=bD;rw[LW];have aW:(Value.string ⟨#[45,49]⟩)=tq (-1):=by show af [45,49]=af (qtx (-1));rw[Gp]
   refine C6 1 [2,4,6,7,8,12,13,14,16,17,95,96,110,111,112] c U ?_;clear c R;refine G.cut (fun fr K z F=>(True)/\fr=[(2,[],p_ v),(4,[],p_ y),(6,[],.slice Ae es.length ce),(7,[],i_ n),(8,[],i_ (bp B:Nat)),(12,[],i_ k),(13,[],i_ (k / es.length:Nat)),(14,[],p_ aT),(17,[],s_ bz (n+a) (n+a)),(95,[],i_ a),(96,[],i_ k),(110,[],s_ aU 2 2),(111,[],i_ 2),(112,[],i_ q)]/\z=[.arr (s_ bz (n+a) (n+a)) 32 1 (n+a) ((rgF (n+a) n (bp B) es.length k (edg es k) (sC q)).map tq),.arr (sR7 s n1 t) 140 2 (rows.length+2*k+q) (aD us (rows.map (fw a)++(rgL (n+a) n (bp B) es k++(rgK (n+a) n (bp B) es k).take q))).flatten,.arr (sF7 e o p) 32 1 (n+a) ((nA n a).map aQ).flatten,.obj y (.cells ⟨[i_ (n+a:Nat),.slice s n1 t,.slice e o p]⟩ 74 (0,0)),.obj v (.cells ⟨[i_ 0,.slice none 0 0,.slice none 0 0]⟩ 74 (0,0))]) ?_ (fun fr cj ck F cl H=>?_)
   ·refine VJ (.cut [0,1,2,3,4,5,6,7,8,9,10,11,14,15,16,17,18,19,20,21] (.alt 12 (.fin [13,22,23,24,25,26]) (.alt 22 (.fin [12,13,23,24,25,26]) .stop))) [(20,1)] U U kr_ (fun R d c A=>?_);refine UR 3 U ?_;refine UV (((k / es.length*bp B:Nat):Int)) (RF _ _) U6 ?_;refine Vi (0) U9 k_ U2 ?_;refine UO (bkT aB 1) U8 ?_;refine Vt (((k / es.length*bp B+(edg es k).1:Nat):Int)) U4 om_ om_ om_ U2 ?_;refine UR 3 U ?_;refine UV (((k / es.length*bp B:Nat):Int)) (RF _ _) U6 ?_;refine Vi (1) U9 k_ U2 ?_;refine UR 3 U ?_;refine Vt (((n+k:Nat):Int)) U4 om_ om_ om_ U2 ?_;refine UR 2 U ?_;refine Vh (fun _=>(eJ _ (sC q) (Rn (aZ (BU q) dc_) dc_))) U9 ?_;refine Vp ((k / es.length*bp B+(edg es k).1)) U10 v_ U2 ?_;refine Vw A U ⟨?_, ?_,trivial⟩
    ·refine UO (bkT aB 1) U8 ?_;refine Vt (((k / es.length*bp B+(edg es k).2:Nat):Int)) U4 om_ om_ om_ U2 ?_;refine Vr (j:=0) U11 ap ?_;rw[fy ap];refine Vp ((k / es.length*bp B+(edg es k).2)) U10 v_ U2 ?_;refine Vr (j:=0) U11 ap ?_;rw[fy ap];refine Vp ((n+k)) U10 v_ U2 ?_;refine Vr (j:=0) U11 ap ?_;refine US [2,4,6,7,8,12,13,14,17,95,96,110,111,112] c U ?_;clear c d A R;rw[aW,fy ap];exact Vb 0 mup (hn_ [2,4,6,7,8,12,13,14,17,95,96,110,111,112] U) ⟨trivial,U,U⟩
    refine Vr (j:=0) U11 ap ?_;refine UO (bkT aB 1) U8 ?_;refine Vt (((k / es.length*bp B+(edg es k).2:Nat):Int)) U4 om_ om_ om_ U2 ?_;rw[fy ap];refine Vp ((k / es.length*bp B+(edg es k).2)) U10 v_ U2 ?_;refine Vr (j:=0) U11 ap ?_;rw[fy ap];refine Vp ((n+k)) U10 v_ U2 ?_;refine Vr (j:=0) U11 ap ?_;refine US [2,4,6,7,8,12,13,14,17,95,96,110,111,112] c U ?_;clear c d A R;rw[aW,fy ap];exact Vb 0 mup (hn_ [2,4,6,7,8,12,13,14,17,95,96,110,111,112] U) ⟨trivial,U,U⟩
   obtain⟨_,rfl,rfl⟩:=H;rw[<- uj];refine G.freezeArr 0 ((rgF (n+a) n (bp B) es.length k (edg es k) (sC q)).map aQ) U2 bP (by rw[au,zA]) (fun _ _ bE=>?_);refine UN 1 U fun R c=>?_;refine UW ac U9 ?_;refine UP U6 ?_;refine Vf [s_ bz (n+a) (n+a),af [48]] U8 ?_;refine Vj [[s_ bz (n+a) (n+a),af [48]]] U12 (fun cm _ _ bF=>?_);refine Vs (j:=0) U11 bF.m_ U ax q_ fl_ (fun aE aF aG=>?_);refine UP U6 ?_;refine UX (j:=2) U12 ?_;refine US [2,4,6,7,8,12,13,14,95,96,110,111,112] c U ?_;clear c R;refine UQ fun R c=>?_;refine UV _ U U6 ?_;refine C6 1 [2,4,6,7,8,12,13,14,95,96,110,111,112] c U ?_;clear c R;have aX:rows.map (fw a)++(rgL (n+a) n (bp B) es k++(rgK (n+a) n (bp B) es k).take (q+1))=(rows.map (fw a)++(rgL (n+a) n (bp B) es k++(rgK (n+a) n (bp B) es k).take q))++[⟨rgF (n+a) n (bp B) es.length k (edg es k) (sC q),0⟩]:=by rw[JM an];simp only[RL]
   have bG:(aD us (rows.map (fw a)++(rgL (n+a) n (bp B) es k++(rgK (n+a) n (bp B) es k).take q))).flatten++[[s_ bz (n+a) (n+a),af [48]]].flatten=(aD (us++[s_ bz (n+a) (n+a)]) (rows.map (fw a)++(rgL (n+a) n (bp B) es k++(rgK (n+a) n (bp B) es k).take (q+1)))).flatten:=by
    rw[aX,eI ab.1,RP,IX]
   refine G.perm (L':=[.arr (sR7 aE aF aG) 140 2 (rows.length+2*k+(q+1)) (aD (us++[s_ bz (n+a) (n+a)]) (rows.map (fw a)++(rgL (n+a) n (bp B) es k++(rgK (n+a) n (bp B) es k).take (q+1)))).flatten,.arr (sF7 e o p) 32 1 (n+a) ((nA n a).map aQ).flatten,.obj y (.cells ⟨[i_ (n+a:Nat),.slice aE aF aG,.slice e o p]⟩ 74 (0,0)),.obj v (.cells ⟨[i_ 0,.slice none 0 0,.slice none 0 0]⟩ 74 (0,0))]) (by rw[<- bG];(exact pkL [1,1,0,0] U)) ?_;refine U0 (m':=2-(q+1)) om_ mup (hn_ [2,4,6,7,8,12,13,14,95,96,110,111,112] U) ⟨q+1,aE,aF,aG,us++[s_ bz (n+a) (n+a)],⟨by omega,by rw[aX];exact zx (RowsOk.m_ ab) bE.m_⟩,U,U,U⟩
  have an:q=2:=by
   have:=Rc aC;omega
  subst an;refine UQ fun R c=>?_;refine UV _ U U6 ?_;refine C6 1 [2,4,6,7,8,95,96] c U ?_;clear c R;rw[show(rgK (n+a) n (bp B) es k).take 2=rgK (n+a) n (bp B) es k from rfl,<- B6]at ab⊢;refine U0 (m':=a-(k+1)) om_ mup (hn_ [2,4,6,7,8,95,96] U) ⟨k+1,s,n1,t,us,⟨by omega,RowsOk.mono ab mup⟩,U,U,U⟩
 obtain rfl:a=k:=by
  have:=Rc aA;omega
 refine UQ fun R c=>?_;refine UW ac U9 ?_;refine UX (j:=3) U12 ?_;refine C6 1 [2,3] c U ?_;clear c R;refine G.freezeArr 1 (aD us (rows.map (fw a)++rgL (n+a) n (bp B) es a)) U2 (bN _ _) (by rw[bk az.1,Rf,au,zz]) (fun Cf al J=>?_);refine G.freezeArr 1 ((nA n a).map aQ) U2 bP (by rw[au,BZ]) (fun Cg cn bH=>?_);refine U1 (Wu ag U U U U U ?_);refine⟨U,es,_,U,aq,_,_,_,_,_,_,by rw[ad];rfl, ?_, ?_⟩
 ·rw[ad];exact ig (RowsOk.m_ az) J.m_
 rw[ad];exact bH
theorem DV {p:Lp.Sys}{c:Nat->Rat}{D:Mem}(h:SolO p c D u):∃ (kd:Int)(val:Str)(a:Option Addr)(n1 b:Nat)(A2:Option Addr)(n2 c2:Nat)(d:Option Addr)(e f:Nat),u=.agg ⟨[i_ kd,af val,.slice a n1 b,.slice A2 n2 c2,.slice d e f]⟩ /\
  ((kd=1/\∃ v pt du,val=qtx v/\Lp.OptR p c 20 v pt du/\n1=p.n/\Sl D 1 (.slice a n1 b) (((List.range p.n).map pt).map aQ)/\Sl D 1 (.slice A2 n2 c2) (((List.range p.m).map du).map aQ))∨(kd≠1/\(¬ p.Hold∨∃ pt ra,Lp.UnbR p c 20 pt ra))):=by
 cases h with
|opt v pt du g i j h1 h2 =>
  obtain⟨a,b,rfl,_⟩:=id h1;obtain⟨A2,c2,rfl,_⟩:=id h2;exact⟨_,_,_,_,_,_,_,_,_,_,_,U,.inl ⟨U,v,pt,du,U,j,by simp,h1,h2⟩⟩
|inf du i k h1 =>
  obtain⟨A2,c2,rfl,_⟩:=id h1;exact⟨_,_,_,_,_,_,_,_,_,_,_,U,.inr ⟨by decide,.inl k.not⟩⟩
|unb pt ra g o l h1 h2 =>
  obtain⟨a,b,rfl,_⟩:=id h1;obtain⟨A2,c2,rfl,_⟩:=id h2;exact⟨_,_,_,_,_,_,_,_,_,_,_,U,.inr ⟨by decide,.inr ⟨pt,ra,l⟩⟩⟩
abbrev OR (B:Bk)(RO:Nat->List RowQ)(es:List (Nat × Nat)):Lp.Sys:=bU (bs B*bp B+bs B*es.length) (dx (zy (cq B RO) (bs B*bp B) (bp B) es (bs B*es.length)))
abbrev objR (B:Bk)(es:List (Nat × Nat))(j:Nat):Rat:=(nA (bs B*bp B) (bs B*es.length)).getD j 0
inductive FlatO (B:Bk) (RO:Nat->List RowQ) (es:List (Nat × Nat)) (D:Mem):Value->Prop where
|opt (v:Rat) (pt du:Nat->Rat) (fv dv:Value):Lp.OptR (OR B RO es) (objR B es) 20 v pt du->FieldsIn D fv (jf (bs B) (bp B) pt)->Sl D 1 dv (((List.range (OR B RO es).m).map du).map aQ)->FlatO B RO es D (.tuple #[.agg ⟨[fv,af (qtx v),dv]⟩,.int .i64 0])
|inf:¬ (OR B RO es).Hold->FlatO B RO es D (.tuple #[.agg ⟨[.slice none 0 0,af [],.slice none 0 0]⟩,.int .i64 22])
theorem Calm.rl {B:Bk}{c:List Rat}{a:Nat->List RowQ}(h:Calm B c a):∀ r∈cq B a,r.f.length=bs B*bp B:=fun r hr=>(h.rowsQ (cS B.obs.length)).l (r.f,r.b) (Ra.2 ⟨r,hr,rfl⟩)
theorem Py (h:∀ r∈rows,r.f.length=s*p):∀ r∈zy rows (s*p) p es (s*es.length),r.f.length=s*p+s*es.length:=by
 intro r hr;rcases Rr.1 hr with hr|hr
 ·obtain⟨x,a,rfl⟩:=Ra.1 hr;show(x.f++List.replicate _ 0).length=_;rw[Rf,RI,h x a]
 obtain⟨k,_,hr⟩:=List.mem_flatMap.1 hr;rcases Rp.1 hr with rfl|hr
 ·exact zA _ _ _ _ _ _ _
 rw[Rw.1 hr];exact zA _ _ _ _ _ _ _
theorem lT (h:∀ r∈rows,RowI r):∀ r∈dx rows,(∀ x∈r.1,QB 22 x)/\QB 22 r.2 :=
 lS (P:=fun r=>(∀ x∈r.1,QB 22 x)/\QB 22 r.2) fun r hr=>⟨fun x a=>((h r hr).q.1 x a).le dc_,(h r hr).q.2.le dc_⟩
theorem Pr (h:∀ r∈rows,RowI r)(a:∀ r∈rows,r.f.length=n)(b:rows.length<=150):RowsQ n (dx rows) :=
 ⟨lS (P:=fun r=>r.1.length=n) a,fun r hr=>⟨fun x c=>((lT h r hr).1 x c).le dc_,(lT h r hr).2.le dc_⟩,by rw[dx,au];exact b⟩
theorem Nk (h b:Nat):∀ x∈nA h b,QB 22 x:=fun x a=>by
 rcases Rr.1 a with a|a
 ·rw[(List.mem_replicate.1 a).2];exact QB_zero.le dc_
 rw[(List.mem_replicate.1 a).2];decide +kernel
theorem D8 {m:Nat}(h:n<=m):(((List.range m).map pt).map qtx).take n=((List.range n).map pt).map qtx:=by
 rw[<- Tq,<- Tq,List.take_range,Sa h]
theorem KC (C:Mem)(e:Tabs C)(f:Value)(B:Bk)(y:List Rat)(b:Nat->List RowQ)(c:BookIn C f B)(h:Calm B y b)(z:bp B<=6)(A:bs B<=2)(W:∀ es,EdgL B.tris es->bs B*bp B+bs B*es.length<=12) :
  Pur cx.P 42 [f] C fun u D=>∃ es,EdgL B.tris es/\FlatO B b es D u:=by
 have E:=c;have F:=h.rich.good;have H:=h.rich.bookz e c;have X:=h.cnt (cS B.obs.length);have az:=h.n12;have Y:∀ D:Mem,C.le D->Gives cx.P 92 [f] D (.tuple #[i_ (bs B*bp B:Nat),i_ 0]):=fun D Z=>by
  have h:=AA D f B 0 (H.mono Z) om_;rw[aJ rfl]at h;exact h
 obtain⟨v1,v2,tv,cv,ov,rfl,h1,h2,h3,h4,h5⟩:=id c.ex;have aA:=mx_
 refine UU func42 59 U3 fun w0=>UQ fun R a=>Vd U6 fun b1=>Ve U5 fun b2=>C6 1 [1,2] a U<|G.freeze 1 U fun _ _ o=>UQ fun R a=>UO (bkT o 5) U8<|Vu (JJ _ e.m_ _ B y b E.m_ h z A) U7 (fun aB _ _ aa=>?_);obtain⟨es,x,rfl,d,A1,n1,c1,A2,n2,c2,rfl,ab,ac⟩:=aa;have ad:=W es d;have ae:=Py (es:=es) h.rl;have I:=Pz (s:=bs B) (p:=bp B) (es:=es) (h.rowI (cS B.obs.length));obtain⟨ah,_⟩:=d.le F.ok.ins z;have aC:bs B*es.length<=30:=Su A ah;have ai:(zy (cq B b) (bs B*bp B) (bp B) es (bs B*es.length)).length<=150:=by
  rw[JL];have:(cq B b).length<=120:=X;omega
 have aj:=d.ok (n:=bp B) F.ok.ins (bs B);refine UR 3 U<|Ve U5 fun b4=>UX (j:=0) U12<|C6 1 [1,2,4,5] a U<|UM 2 [1,2,4,5,15] U<|G.cd (fun J=>?_) fun J=>?_
 ·exact absurd J dc_
 refine G.freeze 0 U fun _ _ al=>UQ fun R a=>UO (bkT al 3) U8<|Vo (Gy _ e.m_ (bs B*bp B+bs B*es.length) _ _ (dx (zy (cq B b) (bs B*bp B) (bp B) es (bs B*es.length))) (nA (bs B*bp B) (bs B*es.length)) ab.m_ ac.m_ (Pr I ae ai) (Nk _ _) (lT I) om_ (BZ _ _) (Ni ad (h.rowI (cS B.obs.length)))) U7 fl_ (fun aD _ _ am=>?_);obtain⟨rr,rfl,an⟩:=am;obtain⟨kd,val,Ap,K,g,L,nd,cd,Ar,nr,cr,rfl,M⟩:=DV an;refine UR 3 U<|Ve U5 fun b6=>UX (j:=0) U12<|C6 1 [1,2,5,6] a U<|G.freeze 0 U fun _ _ i=>UM 2 [1,2,5,6,24] U<|G.cd (fun N=>?_) fun N=>?_
 ·exact absurd N dc_
 refine UN 1 U fun R a=>UO (bkT i 1) U8<|C6 1 [1,2,6,29] a U<|G.cd (fun q=>?_) fun q=>?_
 ·have r:kd≠1:=by simpa using q
  have ao:¬ (OR B b es).Hold:=by
   rcases M with⟨h,_⟩|⟨_,h|⟨pt,ra,hu⟩⟩
   ·exact absurd h r
   ·exact h
   exact(Nh aj h.rl hu).elim
  refine UQ fun R a=>Vf ([.slice none 0 0,af [],.slice none 0 0]) U8<|UX (j:=0) U12<|C6 1 [2,3] a U<|U1 (Wu ag U U U U U ?_);exact⟨U,es,d,.inf ao⟩
 have r:kd=1:=by simpa using q
 obtain⟨v,pt,du,rfl,t,rfl,w,aq⟩:∃ v pt du,val=qtx v/\Lp.OptR (OR B b es) (objR B es) 20 v pt du/\K=bs B*bp B+bs B*es.length/\Sl _ 1 (.slice Ap K g) (((List.range (bs B*bp B+bs B*es.length)).map pt).map aQ)/\Sl _ 1 (.slice L nd cd) (((List.range (OR B b es).m).map du).map aQ):=by
  rcases M with⟨_,h⟩|⟨h,_⟩
  ·exact h
  exact absurd r h
 have O:=yk (s:=bs B) (p:=bp B) t.qp;have ar:bs B*bp B<=bs B*bp B+bs B*es.length:=Nat.le_add_right _ _;rw[Ak]at w;have aE:bs B*bp B+bs B*es.length<=g:=by
  obtain⟨A',c',Q,av,_⟩:=id w;simp only[Value.slice.injEq]at Q;obtain⟨_,aF,aG⟩:=Q;simp only[au,Ss]at av;omega
 have S:=w.sub (l:=0) (h:=bs B*bp B) (m:=g) (Re _) ak om_ (Q7 _);rw[Sx,<- Tq,D8 ar]at S;refine UQ fun R a=>UO (bkT o 5) U8<|UZ (Y _ mup) U7<|C6 5 [1,2,5,6,7] a U<|UM 2 [1,2,5,6,7,37] U<|G.cd (fun T=>?_) fun T=>?_
 ·exact absurd T dc_
 refine Vg [0,1,2,3,4,5,6,7,8,9,10] [] U kr_ fun R c a=>UO (bkT o 5) U8<|UP U6<|UO (bkT i 1) U8<|UP U6<|VH 0 (bs B*bp B) g U12 (fun _=>⟨.inl ⟨U,U⟩,.inr ⟨_,U⟩,.inl ⟨U,U⟩,by omega,by omega,Q7 _⟩) U2<|Vo (yo _ e.m_ _ _ B (((List.range (bs B*bp B)).map pt).map qtx) E.m_ H.m_ om_ S.m_ (xu t.qp) ap) U7 fl_ (fun aH _ _ aw=>?_);obtain⟨fv,rfl,k⟩:=aw;rw[O,aJ rfl]at k;rw[O];obtain⟨ax,aI,aK,ay⟩:=id k;obtain⟨Af,cf,rfl,_⟩:=id ay;rw[au]at k⊢;refine UR 5 U<|US [2,5,6,8] a U ?_;clear a c R;refine UM 2 [2,5,6,8,50] U<|G.cd (fun V=>?_) fun V=>?_
 ·exact absurd V dc_
 refine UN 2 U fun R a=>UO (bkT i 1) U8<|UP U6<|UO (bkT i 1) U8<|Vf [.slice Af ax.length cf,af (qtx v),.slice L nd cd] U8<|UX (j:=0) U12<|C6 1 [2,3] a U<|U1 (Wu ag U U U U U ?_);exact⟨U,es,d,.opt v pt du _ _ t k.m_ aq.m_⟩
def RowsIn6 (D:Mem)(v:Value)(rows:List RowQ):Prop:=∃ vs,RowsOk D vs rows/\Sl D 2 v (aD vs rows)
theorem RowsIn6.mono {C D:Mem}{v:Value}{a:List RowQ}(h:RowsIn6 C v a)(b:C.le D):RowsIn6 D v a:=by
 obtain⟨vs,h1,h2⟩:=h;exact⟨vs,RowsOk.mono h1 b,h2.mono b⟩
theorem RowsIn6.m_ {D:Mem}(h:RowsIn6 C v rows)(a:C.le D:=by exact mup):RowsIn6 D v rows:=RowsIn6.mono h a
theorem RowsIn6.T (h:RowsIn6 C v rows):RowsT C v ((dx rows).map di):=by
 obtain⟨vs,h1,h2⟩:=h;exact ig h1 h2
abbrev sL6 (A:Option Addr)(n c:Nat):Value:=.slice A n c
theorem xU (C:Mem)(M:Tabs C)(d:Value)(B:Bk)(A:List Rat)(c:Nat->List RowQ)(e:BookIn C d B)(h:Calm B A c) :
  Pur cx.P 13 [d] C fun u D=>∃ v,u=.tuple #[v,.bool true]/\RowsIn6 D v (cq B c):=by
 have aj:=e;have N:=h.cnt (cS B.obs.length);have ak:=h.ob;obtain⟨l,g⟩:∃ l,bV (bK B) c (List.range B.obs.length)=l:=⟨_,rfl⟩;have F:cq B c=l.map SrcQ.r:=by rw[<- Gb,g]
 have al:l.length<=120:=by
  have:=N;rw[show pY B c (List.range B.obs.length)=cq B c from rfl,F,au]at this;exact this
 have O:∀ D:Mem,C.le D->Pur cx.P 54 [d] D fun u E=>∃ v,u=.tuple #[v,i_ 0]/\Dq E v l:=fun D H=>by
  have:=MF D (M.mono H) d B A c (e.mono H) h.rich om_ (by rw[g];omega);rw[g]at this;exact this
 rw[F];obtain⟨v1,v2,tv,cv,ov,rfl,h1,h2,h3,h4,h5⟩:=id e.ex;have am:=mx_
 refine UU func13 29 U3 fun w0=>UQ fun R a=>Vd U6 fun b1=>C6 2 [1] a U<|G.freeze 0 U fun _ _ Q=>UQ fun R a=>UO (bkT Q 5) U8<|Vu (O _ mup) U7 (fun an _ _ S=>?_);obtain⟨wv,rfl,T⟩:=S;obtain⟨vs,k,n⟩:=T;have o:=jQ k;obtain⟨V,W,rfl,X,ao,_⟩:=id n;have Y:(bY vs l).length=l.length:=by unfold bY;simp[o]
 rw[Y]at n X⊢;refine C6 5 [4,5] a U<|UM 1 [4,5,6] U<|UM 3 [5,6,14,15,16] U<|G.nilArr 140 2<|G.loop (fun fr C' I Z=>∃ (i:Nat)(p:Option Addr)(n1 q:Nat),(i<=l.length)/\fr=[(5,[],i_ 0),(6,[],.slice p n1 q),(14,[],.slice V l.length W),(15,[],i_ l.length),(16,[],i_ i)]/\I=[.arr (sL6 p n1 q) 140 2 i (prC (vs.take i) (l.take i)).flatten]/\Z=l.length-i) (hn_ [5,6,14,15,16] U) ⟨0,none,0,0,Re _,U,U,U⟩ (fun fr ap aq m _ hI=>?_);obtain⟨i,p,n1,q,hi,rfl,rfl,rfl⟩:=hI;refine UM 1 [5,6,14,15,16,17] U<|G.cd (fun t=>?_) fun t=>?_
 ·have x:i<l.length:=by
   have:=Qw t;omega
  obtain⟨s,y⟩:∃ s,l[i]?=some s:=⟨l[i],ai x⟩;obtain⟨w,z⟩:∃ w,vs[i]?=some w:=⟨vs[i]'om_,ai om_⟩;have aa:=k.2 i w s.r z (by rw[Rb,y];rfl);obtain⟨Ax,ab,rfl,_⟩:=id aa;have ac:=Ck o z y;refine UQ fun R a=>Va n.m_ U10 om_ (LN z y) fl_ fun ar ad=>UO ad U8<|Ve U5 fun b8=>UX (j:=0) U12<|US [5,6,8,14,15,16] a U<|G.freeze 0 U fun _ _ ae=>UN 2 U fun R a=>UO (bkT ae 2) U8<|Vj [[.slice Ax (s.r.f.map eE).length ab,af (qtx s.r.b)]] U12 fun av _ _ ag=>Vs (j:=0) U11 ag.m_ U ax (by show(i+1)*40<=_;omega) fl_ fun J K L=>C6 1 [5,6,14,15,16] a U<|UQ fun R a=>UV _ U U6<|C6 1 [5,6,14,15,16] a U<|Vc (L':=[.arr (sL6 J K L) 140 2 (i+1) (prC (vs.take (i+1)) (l.take (i+1))).flatten]) (by rw[ac,RP];rfl)<|U0 (m':=l.length-(i+1)) om_ mup (hn_ [5,6,14,15,16] U) ⟨i+1,J,K,L,om_,U,U,U⟩
 have x:i=l.length:=by
  have:=Rc t;omega
 subst x;refine UM 5 [2,3] U ?_;rw[RH (show vs.length<=l.length by omega),Rk];refine G.freezeArr 0 (prC vs l) U2 (NB _ _) (by rw[prC,bk (by simp[o]),au]) fun Cf aw ah=>U1 (G.dropAll (Vn U3 ?_));exact⟨U,_,U,vs,RowsOk.mono k mup,ah⟩
theorem HR (C:Mem)(v w:Value)(l:List Str)(a:Sl C 1 v (l.map gb))(b:Sl C 1 w (l.map gb))(x:l.length<=1000000):Gives cx.P 25 [v,w] C (.bool true):=by
 obtain⟨h,c0,rfl,_⟩:=id a;obtain⟨j,k,rfl,_⟩:=id b;simp only[au]at a b⊢;refine UU func25 26 U3 fun w0=>UM 1 [0,1] U<|UM 5 [0,1,10] U<|G.cd (fun d=>?_) fun d=>?_
 ·exact absurd d ak
 refine UM 3 [0,1,12,13] U<|G.loop (fun fr y n o=>∃ (i:Nat),(i<=l.length)/\fr=[(0,[],.slice h l.length c0),(1,[],.slice j l.length k),(12,[],i_ l.length),(13,[],i_ i)]/\n=[]/\o=l.length-i) (hn_ [0,1,12,13] U) ⟨0,Re _,U,U,U⟩ (fun fr z A m _ p=>?_);obtain⟨i,B,rfl,rfl,rfl⟩:=p;refine UM 1 [0,1,12,13,14] U<|G.cd (fun e=>?_) fun e=>?_
 ·have q:i<l.length:=by
   have:=Qw e;omega
  obtain⟨s,r⟩:∃ s,l[i]?=some s:=⟨l[i],ai q⟩;have f:(l.map gb)[i]?=some (gb s):=by rw[Rb,r];rfl
  refine UM 2 [0,1,5,12,13] U<|Vg [0,1,2,3,4,5,6,7,8] [] U kr_ fun R D c=>UR 2 U<|Va a.m_ U10 om_ f fl_ fun E t=>UO t U8<|UR 2 U<|Va b.m_ U10 om_ f fl_ fun F u=>UO u U8<|C6 1 [0,1,12,13,24] c U<|G.cd (fun g=>?_) fun g=>?_
  ·exact absurd g ak
  refine UQ fun R c=>UV _ U U6<|C6 1 [0,1,12,13] c U<|U0 (m':=l.length-(i+1)) om_ mup (hn_ [0,1,12,13] U) ⟨i+1,om_,U,U,U⟩
 exact UM 1 [4] U<|UT U2<|⟨U,U⟩
theorem zw (C:Mem)(a b:Value)(r:List Str × Str)(d:Sl C 1 a (r.1.map gb))(e:Sl C 1 b (r.1.map gb))(h:r.1.length<=1000000):Gives cx.P 80 [.agg ⟨[a,af r.2]⟩,.agg ⟨[b,af r.2]⟩] C (.bool true):=by
 obtain⟨i,c0,rfl,_⟩:=id d;obtain⟨j,k,rfl,_⟩:=id e;exact UU func80 17 U3 fun w0=>UQ fun R c=>Vd U6 fun l=>Vd U6 fun m=>C6 1 [2,3] c U<|G.freeze 1 U fun _ _ f=>G.freeze 0 U fun _ _ g=>UN 1 U fun R c=>UO (bkT f 1) U8<|UP U6<|UO (bkT g 1) U8<|UR 3 U<|Vm U6 (fun _=>PtrTo.blockT (Mem.get f mup) _ 1) U3<|UP U6<|Vm U6 (fun _=>PtrTo.blockT (Mem.get g mup) _ 1) U3<|Vv (fun _=>(HR _ _ _ r.1 d.m_ e.m_ h)) U9<|Vk U8<|C6 1 [4] c U<|UT U2<|⟨by simp,U⟩
theorem HS (C:Mem)(v w:Value)(c:List (List Str × Str))(s:RowsT C v c)(t:RowsT C w c)(O:c.length<=1000)(u:∀ r∈c,r.1.length<=1000) :
  Gives cx.P 79 [v,w,.func (.func 80) #[] #[]] C (.bool true):=by
 obtain⟨vs,x,y,f⟩:=s;obtain⟨ws,z,A,g⟩:=t;obtain⟨B,c0,rfl,_⟩:=id f;obtain⟨D,E,rfl,_⟩:=id g;simp only[ia x,ia z]at f g⊢;refine UU func79 32 U3 fun w0=>UM 1 [0,1,2] U<|UM 5 [0,1,2,14] U<|G.cd (fun h=>?_) fun h=>?_
 ·exact absurd h ak
 refine UM 3 [1,2,15,16,17] U<|G.loop (fun fr Q F H=>∃ (i:Nat),(i<=c.length)/\fr=[(1,[],.slice D c.length E),(2,[],.func (.func 80) #[] #[]),(15,[],.slice B c.length c0),(16,[],i_ c.length),(17,[],i_ i)]/\F=[]/\H=c.length-i) (hn_ [1,2,15,16,17] U) ⟨0,Re _,U,U,U⟩ (fun fr S T m _ I=>?_);obtain⟨i,V,rfl,rfl,rfl⟩:=I;refine UM 1 [1,2,15,16,17,18] U<|G.cd (fun k=>?_) fun k=>?_
 ·have J:i<c.length:=by
   have:=Qw k;omega
  obtain⟨r,e⟩:∃ r,c[i]?=some r:=⟨c[i],ai J⟩;obtain⟨a,l⟩:∃ a,vs[i]?=some a:=⟨vs[i]'om_,ai om_⟩;obtain⟨b,n⟩:∃ b,ws[i]?=some b:=⟨ws[i]'om_,ai om_⟩;have o:=y i a r l e;have p:=A i b r n e;obtain⟨A2,c2,rfl,_⟩:=id o;obtain⟨W,X,rfl,_⟩:=id p;refine UN 1 U fun R d=>Va f.m_ U10 om_ (kS l e) fl_ fun Y K=>UO K U8<|Ve U5 fun Z=>UP U6<|UX (j:=0) U12<|US [1,2,7,8,15,16,17] d U<|UN 2 U fun R d=>Va g.m_ U10 om_ (kS n e) fl_ fun aa L=>UO L U8<|Ve U5 fun b9=>UX (j:=0) U12<|US [1,2,8,9,15,16,17] d U<|G.freeze 1 U fun _ _ M=>G.freeze 0 U fun _ _ N=>UN 1 U fun R d=>UO (bkT M 2) U8<|UO (bkT N 2) U8<|UY (zw _ _ _ r o.m_ p.m_ (Rn (u r (aM e)) dc_)) U7 fl_<|C6 1 [1,2,15,16,17,30] d U<|G.cd (fun q=>?_) fun q=>?_
  ·exact absurd q dc_
  refine UQ fun R d=>UV _ U U6<|C6 1 [1,2,15,16,17] d U<|U0 (m':=c.length-(i+1)) om_ mup (hn_ [1,2,15,16,17] U) ⟨i+1,om_,U,U,U⟩
 exact UM 1 [6] U<|UT U2<|⟨U,U⟩
theorem wT (C:Mem)(v w:Value)(a:List (List Str × Str))(b:RowsT C v a)(c:RowsT C w a)(d:a.length<=1000)(e:∀ r∈a,r.1.length<=1000):Gives cx.P 24 [v,w] C (.bool true):=by
 exact UU func24 8 U3 fun w0=>UM 1 [0,1] U<|UN 2 U fun R f=>UZ (HS _ _ _ a b.m_ c.m_ d e) U7<|C6 1 [4] f U<|UT U2<|⟨U,U⟩
theorem rB (C:Mem)(b:Value)(B:Bk)(d:BookIn C b B)(g:bs B+1=B.col.length)(h:bs B*bp B<=1000):Gives cx.P 17 [b] C (i_ (bs B*bp B:Nat)):=by
 obtain⟨i,j,k,l,m,rfl,h1,h2,h3,h4,h5⟩:=id d.ex;obtain⟨n,o,rfl,e,_⟩:=id h1;obtain⟨p,q,rfl,f,_⟩:=id h4;have r:=mx_
 simp only[au]at e f⊢;exact UU func17 12 U3 fun w0=>UQ fun R a=>Vd U6 fun s=>C6 1 [1] a U<|G.freeze 0 U fun _ _ c=>UN 1 U fun R a=>UO (bkT c 1) U8<|UP U6<|Vt (((bs B:Nat):Int)) U4 om_ om_ om_ U2<|UR 2 U<|UO (bkT c 1) U8<|UP U6<|UV (((bs B*bp B:Nat):Int)) (RF _ _) U6<|C6 1 [2] a U<|UT U2<|⟨U,U⟩
theorem KF (C:Mem)(n:Nat)(j:n<=1000000):Jog.Fn cx.P 151 [.slice none 0 0,i_ n] C [] fun u _ h=>∃ A n2 c,u=.slice A n2 c/\h=[.arr u 32 1 0 []]:=by
 have k:=mx_
 refine UU func151 27 U3 fun w0=>UM 1 [0,1] U<|UM 2 [0,1,6] U<|G.cd (fun d=>?_) fun d=>?_
 ·simp at d;omega
 refine UN 2 U fun R a=>V7 U9<|UR 2 U<|UV _ U U6<|UV _ U U6<|C6 1 [0,1] a U<|UM 2 [0,1,16] U<|G.cd (fun f=>?_) fun f=>?_
 ·have i:0<n:=by
   simp at f;omega
  refine UN 2 U fun R a=>V7 U9<|VH 0 0 0 U12 (fun _=>⟨.inl ⟨U,U⟩,.inr ⟨_,U⟩,.inl ⟨U,U⟩,Q7 _,Q7 _,Q7 _⟩) U2<|UP U6<|WA (m:=n) U12 i (by show n*16<=_;omega) y_ fl_ fun b g l=>UR 2 U<|VH 0 0 g U12 (fun _=>⟨.inl ⟨U,U⟩,.inr ⟨_,U⟩,.inl ⟨U,U⟩,Q7 _,Re _,Q7 _⟩) U2<|C6 1 [0] a U<|UM 2 [4] U<|WO 0 0 U (Re _)<|U1 (Vx U U ?_);refine⟨_,_,_,U, ?_⟩;have e:(if g=0 then some (⟨b,0,none⟩:Addr) else (some (⟨b,0,none⟩:Addr)).map (·.add (0*1)))=some ⟨b,0,none⟩:=by
   split
   ·rfl
   simp[Addr.add_lit]
  rw[e];simp
 refine UM 2 [4] U<|G.nilArr 32 1<|U1 (Vx U U ?_);exact⟨none,0,0,U,U⟩
theorem EN (C:Mem)(v:Value)(a:List (Value × List Rat))(h:Sl C 1 v (a.map yp))(B:∀ x∈a,Sl C 1 x.1 (x.2.map aQ))(K:(gE a).length<=1000000) :
  Jog.Fn cx.P 85 [v] C [] fun u _ e=>∃ A n2 c,u=.slice A n2 c/\e=[.arr u 32 1 (gE a).length ((gE a).map aQ).flatten]:=by
 obtain⟨p,c0,rfl,L,Z,_⟩:=id h;have aa:=mx_
 simp only[au]at h L⊢;refine UU func85 36 U3 fun w0=>UM 1 [0] U<|UM 1 [0,3] U<|UM 3 [0,3,9,10,11] U<|G.loop (fun fr M e q=>∃ (i:Nat)(z:Int),(i<=a.length/\z=(gE (a.take i)).length)/\fr=[(0,[],.slice p a.length c0),(3,[],i_ z),(9,[],.slice p a.length c0),(10,[],i_ a.length),(11,[],i_ i)]/\e=[]/\q=a.length-i) (hn_ [0,3,9,10,11] U) ⟨0,0,⟨Re _,U⟩,U,U,U⟩ (fun fr ab ac m _ r=>?_);obtain⟨i,z,⟨hi,s⟩,rfl,rfl,rfl⟩:=r;refine UM 1 [0,3,9,10,11,12] U<|G.cd (fun t=>?_) fun t=>?_
 ·have f:i<a.length:=by
   have:=Qw t;omega
  obtain⟨x,d⟩:∃ x,a[i]?=some x:=⟨a[i],ai f⟩;have g:=B x (aM d);obtain⟨w,l⟩:=x;simp only at g;obtain⟨Ax,ad,rfl,N,ae,_⟩:=id g;simp only[au]at g N d;have k:=mT d;have E:=vI a (i+1);have O:(gE (a.take (i+1))).length=(gE (a.take i)).length+l.length:=by rw[k,Rf]
  refine UQ fun R b=>Va h.m_ U10 om_ (show(a.map yp)[i]?=some [_] from ep d) fl_ fun ag Q=>UO Q U8<|C6 1 [0,3,5,9,10,11] b U<|UN 3 U fun R b=>UV _ U U6<|C6 1 [0,3,9,10,11] b U<|UM 2 [0,3,9,10,11,20] U<|G.cd (fun F=>?_) fun F=>?_
  ·exfalso;have ah:=Qw F;omega
  refine UQ fun R b=>UV _ U U6<|C6 1 [0,3,9,10,11] b U<|U0 (m':=a.length-(i+1)) om_ mup (hn_ [0,3,9,10,11] U) ⟨i+1,_,⟨by omega,by rw[s];omega⟩,U,U,U⟩
 have f:i=a.length:=by
  have:=Rc t;omega
 rw[f,Rk]at s;subst s;refine Vl [(1,3)] U fun R b=>UP U6<|D.call (KF _ (gE a).length K) U (.inr dc_) U6 (Rh _) fl_ (fun aj _ ak _ S=>?_);obtain⟨T,V,W,rfl,rfl⟩:=S;refine C6 1 [0,6] b U<|UM 3 [6,25,26,27] U<|G.loop (fun fr M e q=>∃ (i:Nat)(n:Option Addr)(n1 o:Nat),(i<=a.length)/\fr=[(6,[],.slice n n1 o),(25,[],.slice p a.length c0),(26,[],i_ a.length),(27,[],i_ i)]/\e=[.arr (.slice n n1 o) 32 1 (gE (a.take i)).length ((gE (a.take i)).map aQ).flatten]/\q=a.length-i) (hn_ [6,25,26,27] U) ⟨0,T,V,W,Re _,U,U,U⟩ (fun fr al am m E r=>?_);obtain⟨i,n,n1,o,an,rfl,rfl,rfl⟩:=r;refine UM 1 [6,25,26,27,28] U<|G.cd (fun y=>?_) fun y=>?_
 ·have f:i<a.length:=by
   have:=Qw y;omega
  obtain⟨x,d⟩:∃ x,a[i]?=some x:=⟨a[i],ai f⟩;have g:=B x (aM d);have k:=mT d;have E:=vI a (i+1);have O:(gE (a.take (i+1))).length=(gE (a.take i)).length+x.2.length:=by rw[k,Rf]
  refine UQ fun R b=>Va h.m_ U10 om_ (show(a.map yp)[i]?=some [x.1] from ep d) fl_ fun ao X=>UO X U8<|C6 1 [6,8,25,26,27] b U<|UN 2 U fun R b=>Vs (j:=0) U11 g.m_ (by simp[aQ,lF,af]) (by simp only[au,maxLen];omega) (by show((gE (a.take i)).length+(x.2.map aQ).length)*16<=_;rw[au];omega) fl_ fun H I J=>C6 1 [6,25,26,27] b U<|UQ fun R b=>UV _ U U6<|C6 1 [6,25,26,27] b U<|Vc (L':=[.arr (.slice H I J) 32 1 (gE (a.take (i+1))).length ((gE (a.take (i+1))).map aQ).flatten]) (by rw[k,RN,RP,Rf,au];rfl)<|U0 (m':=a.length-(i+1)) om_ mup (hn_ [6,25,26,27] U) ⟨i+1,H,I,J,om_,U,U,U⟩
 have Y:i=a.length:=by
  have:=Rc y;omega
 refine UM 2 [2] U<|U1 (Vx U U ?_);exact⟨n,n1,o,U,by rw[Y,Rk]⟩
theorem zE (C:Mem)(g:Tabs C)(v:Value)(l:List Str)(a:Sl C 1 v (l.map gb))(t:l.length<=100000)(h:∀ s∈l,s.length<=999998)(j:∀ s∈l,aS s=true):Gives cx.P 86 [v] C (.bool true):=by
 obtain⟨k,c0,rfl,_⟩:=id a;simp only[au]at a⊢;refine UU func86 16 U3 fun w0=>UM 1 [0] U<|UM 1 [0,3] U<|G.loop (fun fr u n o=>∃ (i:Nat),(i<=l.length)/\fr=[(0,[],.slice k l.length c0),(3,[],i_ i)]/\n=[]/\o=l.length-i) (hn_ [0,3] U) ⟨0,Re _,U,U,U⟩ (fun fr w x m _ p=>?_);obtain⟨i,y,rfl,rfl,rfl⟩:=p;refine UM 4 [0,3,7] U<|G.cd (fun d=>?_) fun d=>?_
 ·have q:i<l.length:=by
   have:=Qw d;omega
  obtain⟨s,e⟩:∃ s,l[i]?=some s:=⟨l[i],ai q⟩;have f:=aM e;refine UN 2 U fun R b=>Va a.m_ U10 om_ (by rw[Rb,e];rfl:(l.map gb)[i]?=some (gb s)) fl_ fun z r=>UO r U8<|UZ (Gf _ g.m_ s (h s f)) U7<|C6 1 [0,3,15] b U<|G.cd (fun c=>?_) fun c=>?_
  ·rw[j s f]at c;exact absurd c dc_
  refine UN 1 U fun R b=>UV _ U U6<|C6 1 [0,3] b U<|U0 (m':=l.length-(i+1)) om_ mup (hn_ [0,3] U) ⟨i+1,om_,U,U,U⟩
 exact UM 1 [2] U<|UT U2<|⟨U,U⟩
theorem Ku (C:Mem)(h:Tabs C)(j k:Value)(a b:List Rat)(d:Sl C 1 j (a.map aQ))(e:Sl C 1 k (b.map aQ))(B:b.length=a.length)(D:a.length<=1000)(l:∀ x∈a,QB 1 x)(n:∀ x∈b,QB 22 x)(p:∀ i,i<=a.length->QB 40 (lA a b i)) :
  Gives cx.P 89 [j,k] C (af (qtx (lA a b a.length))):=by
 obtain⟨q,r,rfl,_⟩:=id d;obtain⟨A2,c2,rfl,_⟩:=id e;simp only[au]at d e⊢;refine UU func89 25 U3 fun w0=>UM 1 [0,1] U<|UM 1 [0,1,5] U<|UM 1 [0,1,5,6] U ?_;have s:Value.string ⟨#[48]⟩=af (qtx (lA a b 0)):=by
  show _=af (qtx 0);rw[IX];rfl
 rw[s];refine G.loop (fun fr E t u=>∃ (i:Nat),(i<=a.length)/\fr=[(0,[],.slice q a.length r),(1,[],.slice A2 b.length c2),(5,[],af (qtx (lA a b i))),(6,[],i_ i)]/\t=[]/\u=a.length-i) (hn_ [0,1,5,6] U) ⟨0,Re _,U,U,U⟩ (fun fr F H m _ v=>?_);obtain⟨i,I,rfl,rfl,rfl⟩:=v;refine UM 4 [0,1,5,6,10] U<|G.cd (fun f=>?_) fun f=>?_
 ·have o:i<a.length:=by
   have:=Qw f;omega
  obtain⟨x,c⟩:∃ x,a[i]?=some x:=⟨a[i]'om_,ai om_⟩;obtain⟨y,hy⟩:∃ y,b[i]?=some y:=⟨b[i]'om_,ai om_⟩;have w:=yr c hy;refine Vg [0,1,2,3,4,5,6,7,8,9,10,11] [(9,1),(10,1)] U kr_ fun R J g=>UR 3 U<|Va d.m_ U10 om_ (by rw[Rb,c];rfl:(a.map aQ)[i]?=some (aQ x)) fl_ fun K z=>UO z U8<|UR 2 U<|Va e.m_ U10 om_ (by rw[Rb,hy];rfl:(b.map aQ)[i]?=some (aQ y)) fl_ fun L A=>UO A U8<|Vh (fun _=>(JK _ h.m_ x y 22 dc_ dc_ ((l x (aM c)).le dc_) (n y (aM hy)))) U9<|Vh (fun _=>(Cc _ h.m_ (lA a b i) (x*y) 40 dc_ dc_ (p i om_) ((fO (l x (aM c)) (n y (aM hy))).le dc_))) U9<|C6 1 [0,1,5,6] g U<|UN 1 U fun R g=>UV _ U U6<|C6 1 [0,1,5,6] g U ?_;rw[<- w];refine U0 (m':=a.length-(i+1)) om_ mup (hn_ [0,1,5,6] U) ⟨i+1,om_,U,U,U⟩
 have o:i=a.length:=by
  have:=Rc f;omega
 subst o;exact UM 2 [4] U<|UT U2<|⟨U,U⟩
def FJ (s p:Nat)(pt:Nat->Rat):List (List Rat):=(List.range s).map fun j=>(((List.range (s*p)).map pt).take ((j+1)*p)).drop (j*p)
theorem FI (s p:Nat)(a:Nat->Rat):(FJ s p a).map (·.map qtx)=jf s p a:=by
 unfold FJ jf chunks yB;rw[R8];refine List.map_congr_left fun j _=>?_;show(List.drop _ (List.take _ _)).map qtx=_;rw[List.map_drop,Tq]
theorem wD (p:Nat)(l:List Rat):∀ s,((List.range s).map fun j=>(l.take ((j+1)*p)).drop (j*p)).flatten=l.take (s*p)
|0=>by simp
|s+1=>by
  rw[Sn,RN,RP,wD p l s,List.map_singleton,List.flatten_singleton];have e:l.take (s*p)=(l.take ((s+1)*p)).take (s*p):=by rw[T6,Sa (RV _ (Tu s))]
  rw[e,R5]
theorem sw (s p:Nat)(a:Nat->Rat):(FJ s p a).flatten=(List.range (s*p)).map a:=by
 unfold FJ;rw[wD,RH ak]
theorem Od {a:List (List Rat)}(h:FieldsIn C v (a.map (·.map qtx))):∃ xs:List (Value × List Rat),xs.map (·.2)=a/\Sl C 1 v (xs.map yp)/\∀ x∈xs,Sl C 1 x.1 (x.2.map aQ):=by
 obtain⟨vs,h1,h2,h3⟩:=h;rw[au]at h1;refine⟨vs.zip a, ?_, ?_,fun x b=>?_⟩
 ·rw[<- List.unzip_snd,List.unzip_zip_right om_]
 ·have e:(vs.zip a).map yp=vs.map fun w=>[w]:=by
   conv=>rhs;rw[<- List.map_fst_zip (l₁:=vs) (l₂:=a) om_,R8]
   rfl
  rw[e];exact h3
 obtain⟨i,c,rfl⟩:=List.mem_iff_getElem.1 b;rw[List.length_zip]at c;rw[List.getElem_zip];have:=h2 i vs[i] (a[i].map qtx) (ai om_) (by rw[Rb,ai om_];rfl);rw[Ak];exact this
open Classical in
noncomputable def xF (n:Nat)(pt:Nat->Rat)(r:RowQ):Bool:=decide (r.b<Lp.sumN (fun j=>r.f.getD j 0*pt j) n)
theorem Mv (a:i<=n):lA r.f ((List.range n).map pt) i=Lp.sumN (fun j=>r.f.getD j 0*pt j) i:=by
 unfold lA;refine Lp.sumN_congr fun j b=>?_;rw[am (l:=(List.range n).map pt),Rb,RK om_];rfl
theorem Ep (C:Mem)(h:Tabs C)(l m:Value)(b n k:Nat)(r:RowQ)(a:Nat->Rat)(u:C b=some (.cells ⟨[m]⟩ 41 (0,0)))(o:Sl C 1 l (r.f.map eE))(c:Sl C 1 m (((List.range n).map a).map aQ))(d:RowI r)(e:r.f.length=n)(v:n<=1000)(B:k<=22)(w:Lp.CmD n k a)(y:∀ j,QB 22 (a j)) :
  Gives cx.P 88 [.agg ⟨[l,af (qtx r.b)]⟩,p_ b] C (.bool (xF n a r)):=by
 obtain⟨D,c0,rfl,_⟩:=id o;obtain⟨E,F,rfl,_⟩:=id c;have p:∀ i,i<=n->QB 40 (lA r.f ((List.range n).map a) i):=fun i s=>by
  rw[Mv s];exact(Pw d w s v).le om_
 have z:∀ x∈(List.range n).map a,QB 22 x:=fun x c=>by
  obtain⟨j,_,rfl⟩:=Ra.1 c;exact y j
 have A:decide (nU (lA r.f ((List.range n).map a) n) r.b > 0)=xF n a r:=by
  rw[AI,Mv (Q7 n)];unfold xF;exact RY.2 Iff.rfl
 exact UU func88 12 U3 fun w0=>UQ fun R g=>Vd U6 fun H=>C6 1 [1,2] g U<|G.freeze 0 U fun _ _ t=>Vg [0,1,2,3,4,5,6,7,8] [(3,1),(6,1)] U kr_ fun R I g=>UP U6<|UO (bkT t 1) U8<|UO (bkT u 1) U8<|Vh (fun _=>(Ku _ h.m_ _ _ r.f ((List.range n).map a) o.m_ c.m_ ap om_ d.q.1 z (by rw[e];exact p))) U9<|UP U6<|UO (bkT t 1) U8<|Vh (fun _=>(xj _ h.m_ (lA r.f ((List.range n).map a) r.f.length) r.b 40 dc_ dc_ (by rw[e];exact p n (Q7 n)) (d.q.2.le dc_))) U9<|C6 2 [3] g U<|UT U2<|⟨by rw[e,A],U⟩
open Classical in
noncomputable def atB (p:Lp.Sys)(pt:Nat->Rat):Bool:=decide (p.At pt)
theorem AV {p:Lp.Sys}:atB p pt=true ↔ p.At pt:=by
 unfold atB;exact @decide_eq_true_iff _ (Classical.propDecidable _)
open Classical in
theorem Lm :(!rows.any (xF n pt))=atB (bU n (dx rows)) pt:=by
 unfold atB;by_cases h:(bU n (dx rows)).At pt
 ·rw[Rt h,List.any_eq_false.2 fun r hr=>?_]
  ·rfl
  have:=hU.1 h r hr;unfold xF;rw[RG (Rat.not_lt.2 this)];decide
 rw[RG h];have:rows.any (xF n pt)=true:=by
  refine RB fun a=>h (hU.2 fun r hr=>Rat.not_lt.1 fun b=>a ?_);refine Tr.2 ⟨r,hr, ?_⟩;unfold xF;exact Rt b
 rw[this];rfl
theorem Eo (C:Mem)(l:Tabs C)(m y:Value)(B:Bk)(z:List Rat)(g:Nat->List RowQ)(a:Nat->Rat)(k:Nat)(d:BookIn C m B)(h:Calm B z g)(c:FieldsIn C y (jf (bs B) (bp B) a))(M:k<=22)(A:Lp.CmD (bs B*bp B) k a)(o:∀ j,QB 22 (a j)) :
  Gives cx.P 31 [m,y] C (.bool (atB (od B g) a)):=by
 have E:=d;have N:=h.n12;have O:=h.rich.scol.1;have p:=fun(D:Mem)(e:C.le D)=>rB D m B (d.mono e) O om_;have Q:=cS B.obs.length;rw[<- FI]at c;obtain⟨xs,F,r,S⟩:=Od c;have t:gE xs=(List.range (bs B*bp B)).map a:=by unfold gE;rw[F,sw]
 have T:xs.length=bs B:=by rw[<- au (f:=(·.2)),F];unfold FJ;simp
 obtain⟨As,cs,rfl,V,_⟩:=id r;simp only[au,T]at r V⊢;obtain⟨v1,v2,tv,cv,ov,rfl,h1,h2,h3,h4,h5⟩:=id d.ex;obtain⟨A4,c4,rfl,W,_⟩:=id h4;have X:(B.col.map vZ).length=bs B+1:=by rw[au];omega
 simp only[X]at h4 W E p⊢;have ag:=mx_
 obtain⟨n,Y⟩:∃ n,bs B*bp B=n:=⟨_,rfl⟩;have H:=h.rl;have Z:=h.rowI Q;have I:∀ s∈((List.range (bs B*bp B)).map a).map qtx,aS s=true:=fun s c=>by
  obtain⟨q,u,rfl⟩:=Ra.1 c;obtain⟨j,_,rfl⟩:=Ra.1 u;exact bA (o j)
 have J:∀ s∈((List.range (bs B*bp B)).map a).map qtx,s.length<=999998:=fun s c=>by
  obtain⟨q,u,rfl⟩:=Ra.1 c;obtain⟨j,_,rfl⟩:=Ra.1 u;exact Rn (aZ (o j) dc_) dc_
 unfold od;rw[Y]at I J p N t H A⊢;refine UU func31 42 U3 fun w0=>UQ fun R b=>Vd U6 fun b2=>C6 1 [1,2] b U<|G.freeze 0 U fun _ _ v=>UQ fun R b=>UO (bkT v 5) U8<|Vu (xU _ l.m_ _ B z g E.m_ h) U7 (fun ah _ _ aa=>?_);obtain⟨lv,rfl,ab⟩:=aa;refine C6 5 [1,2,5,6] b U<|Vl [(1,3)] U fun R b=>UP U6<|D.call (EN _ _ xs r.m_ (fun x i=>(S x i).mono mup) (by rw[t];simp;omega)) U (.inr dc_) U6 (Rh _) fl_ (fun ai _ aj _ ac=>?_);obtain⟨Ax,nx,ad,rfl,rfl⟩:=ac;rw[t];refine Ve U5 fun K=>UX (j:=0) U12<|US [1,2,5,6,7] b U<|Wt ae (fun A0 c0 af _=>?_);obtain⟨rfl,rfl,rfl⟩:Ax=A0/\nx=((List.range n).map a).length/\ad=c0:=by cases af;exact⟨rfl,rfl,rfl⟩
 refine G.freezeArr 1 (((List.range n).map a).map aQ) U2 bP ak fun _ _ L=>G.freeze 0 U fun _ _ w=>Vg [0,1,2,3,4,5,6,7,8,9,10,11,12,13,14,15,16,17,18,19,20,21,22,23,24,25,26,27] [] U kr_ fun R d b=>UR 5 U<|Vm U6 (fun _=>PtrTo.blockT (Mem.get v mup) _ 1) U3<|UP U6<|Vt (((bs B:Nat):Int)) U4 om_ om_ om_ U2<|UP U6<|Vk U8<|UP U6<|Vm U6 (fun _=>PtrTo.blockT (Mem.get w mup) _ 1) U3<|UP U6<|Vm U6 (fun _=>PtrTo.blockT (Mem.get v mup) _ 5) U3<|Vv (fun _=>(p _ mup)) U9<|UP U6<|Vk U8<|UP U6<|Vm U6 (fun _=>PtrTo.blockT (Mem.get w mup) _ 1) U3<|Vh (fun _=>(zE _ l.m_ _ (((List.range n).map a).map qtx) (by rw[<- fj];exact L.mono mup) ap J I)) U9<|Vk U8<|UR 3 U<|Vh (fun _=>(oF _ _ (cq B g) 88 [p_ K] (xF n a) ab.m_ kr_ (fun x i D fv e hf=>Ep D (l.mono (Mem.le.trans mup e)) fv _ K n k x a (Mem.le.trans mup e _ _ w) hf (L.mono (Mem.le.trans mup e)) (Z x i) (H x i) om_ M A o))) U9<|UP U6<|Vk U8<|UP U6<|US [4] b U ?_;clear b d R;refine UT U2<|⟨?_,U⟩;rw[<- Lm];simp
theorem Ga (h:∀ r∈rows,RowI r):Ls ((dx rows).map di):=fun r hr=>by
 obtain⟨x,a,rfl⟩:=Ra.1 hr;obtain⟨h1,h2⟩:=lT h x a;refine⟨fun s hs=>?_,Rn (aZ h2 dc_) dc_⟩;obtain⟨q,b,rfl⟩:=Ra.1 hs;exact Rn (aZ (h1 q b) dc_) dc_
theorem wd (n:Nat):∀ s∈(List.replicate n (0:Rat)).map qtx,s.length<=999998:=fun s hs=>by
 obtain⟨q,a,rfl⟩:=Ra.1 hs;exact Rn (aZ (xi n q a) dc_) dc_
theorem zT (C:Mem)(e:Tabs C)(f g:Value)(B:Bk)(i:List Rat)(a:Nat->List RowQ)(d:List Str)(c:List Rat)(k:BookIn C f B)(h:Calm B i a)(l:Sl C 1 g (d.map gb))(p:∀ s∈d,s.length<=999998)(q:d.all aS=true->d=c.map qtx/\∀ x∈c,QB 23 x) :
  Gives cx.P 40 [f,.agg ⟨[g]⟩] C (i_ (LX (bs B*bp B) ((dx (cq B a)).map di) ((List.replicate (bs B*bp B) (0:Rat)).map qtx) d (dx (cq B a)) c)):=by
 have r:=k;have F:=h.n12;have m:=cS B.obs.length;obtain⟨H,I,J,K,L,rfl,h1,h2,h3,h4,h5⟩:=id k.ex;obtain⟨M,cd,rfl,_⟩:=id l;refine UU func40 18 U3 fun w0=>UQ fun R b=>Vd U6 fun N=>Vd U6 fun O=>C6 1 [2,3] b U<|G.freeze 1 U fun _ _ t=>G.freeze 0 U fun _ _ u=>Vl [(1,3)] U fun R b=>UO (bkT t 5) U8<|D.call (eZ _ e.m_ _ B i a r.m_ h) U (.inr dc_) U6 (Rh _) fl_ (fun Q _ S _ v=>?_);obtain⟨T,V,W,vs,rfl,n,rfl⟩:=v;refine UR 3 U<|Ve U5 fun X=>UX (j:=0) U12<|C6 1 [3,5,6] b U<|UM 2 [3,5,6,13] U<|G.cd (fun o=>?_) fun o=>?_
 ·exact absurd o dc_
 refine G.freezeArr 1 (aD vs (cq B a)) U2 (bN _ _) (by rw[bk n.1]) (fun _ _ w=>?_);rw[gp];refine G.freezeArr 1 ((List.replicate (bs B*bp B) (0:Rat)).map aQ) U2 bP ak fun _ _ y=>G.freeze 0 U (fun z _ A=>?_);have E:=ig (RowsOk.m_ n) (w.mono mup:Sl z 2 _ _);exact UQ fun R b=>UO (bkT A 3) U8<|UO (bkT u 1) U8<|UY (qo _ e.m_ (bs B*bp B) _ _ _ _ _ d (dx (cq B a)) c E.m_ (by rw[<- fj];exact y.mono mup) (Ga (h.rowI m)) (wd _) l.m_ p (fun _=>⟨U,h.rowsQ m⟩) q) U7 fl_<|C6 1 [4] b U<|UT U2<|⟨U,U⟩
theorem I7 {a:List (List Rat × Rat)}:∀ i,(yZ a ps n i).length=0 ↔ ∀ k,k<i->lA (a.getD k ([],0)).1 ps n<=(a.getD k ([],0)).2:=by
 intro i;induction i with
|zero=>exact⟨fun _ k b=>absurd b (Nat.not_lt_zero _),fun _=>rfl⟩
|succ i c =>
  unfold yZ;by_cases h:(a.getD i ([],0)).2<lA (a.getD i ([],0)).1 ps n
  ·rw[aJ h];refine⟨fun h2=>by simp at h2,fun h2=>?_⟩;have:=h2 i (Nat.lt_succ_self _);grind
  rw[aF h,c];refine⟨fun h2 k b=>?_,fun h2 k b=>h2 k om_⟩;rcases Nat.lt_or_eq_of_le (Nat.le_of_lt_succ b) with h3|h3
  ·exact h2 k h3
  rw[h3];grind
theorem LI :(yZ (dx rows) ps n (dx rows).length).length=0 ↔ (bU n (dx rows)).At fun j=>ps.getD j 0:=by
 rw[I7];have hm:(dx rows).length=rows.length:=au _;exact⟨fun h r hr=>h r hr,fun h r hr=>h r hr⟩
open Classical in
noncomputable def N7 (B:Bk)(RO:Nat->List RowQ)(ls:List (List Str))(ps:List Rat):Int:=if ug (bs B) (bp B) ls≠0 then ug (bs B) (bp B) ls else if (od B RO).At (fun j=>ps.getD j 0) then 0 else 23
theorem DI {a:List (List Str)}(h:ug s p a=0){x:Str}(c:x∈a.flatten):aS x=true:=by
 unfold ug at h;split at h
 ·obtain⟨l,d,e⟩:=List.mem_flatten.1 c;obtain⟨j,b⟩:=SE d;have f:=(aT.1 b).1;have h1:=iD h j f;rw[am,b]at h1;unfold ou at h1;split at h1
  ·rcases eN (l.all aS) with⟨_,h2⟩|⟨h2,_⟩
   ·exact Ru.1 h2 x e
   have h3:oG (l.all aS)=0:=h1;rw[h2]at h3;cases h3
  cases h1
 cases h
def IJ (B:Bk)(ls:List (List Str))(ps:List Rat):Prop:=ug (bs B) (bp B) ls=0->ls.flatten=ps.map qtx/\ps.length=bs B*bp B/\∀ x∈ps,QB 23 x
theorem Di (b:n<=60)(c:rows.length<=300)(d:∀ r∈rows,r.f.length=n)(h:∀ r∈rows,RowI r){a:List Rat}(e:a.length=n)(g:∀ x∈a,QB 22 x):tM n ((dx rows).map di) (a.map qtx)=0 :=
 nV b (by rw[dx,au];exact c) (lS (P:=fun r=>r.1.length=n) d) (lT h) e g
theorem Ew (C:Mem)(n:Tabs C)(r t u:Value)(B:Bk)(z:List Rat)(e:Nat->List RowQ)(b:List (List Str))(g:List Rat)(o:BookIn C r B)(h:Calm B z e)(D:Qj C (bs B*bp B) (cq B e) (List.replicate (bs B*bp B) 0) t)(f:FieldsIn C u b)(v:∀ l∈b,∀ x∈l,x.length<=999998)(E:b.length<=1000)(F:IJ B b g) :
  Gives cx.P 90 [r,t,u] C (i_ (N7 B e b g)):=by
 have H:=o;have I:=h.rich.good;have J:=h.rich.bookz n o;have af:=h.n12;have i:=cS B.obs.length;have K:=h.cnt i;obtain⟨P1,m1,d1,P2,m2,d2,rfl,L,M⟩:=D;obtain⟨vs,_,_,N⟩:=id f;obtain⟨As,cs,rfl,_⟩:=id N;obtain⟨v1,v2,tv,cv,ov,rfl,h1,h2,h3,h4,h5⟩:=id o.ex;refine UU func90 33 U3 fun w0=>?_;refine UQ fun R a=>?_;refine Vd U6 (fun b3=>?_);refine Vd U6 (fun b4=>?_);refine C6 1 [2,3,4] a U ?_;clear a R;refine G.freeze 1 U (fun _ _ O=>?_);refine G.freeze 0 U (fun _ _ Q=>?_);refine UQ fun R a=>?_;refine UO (bkT O 5) U8 ?_;refine UP U6 ?_;refine Vo (DH _ n.m_ _ _ B b H.m_ I J.m_ om_ f.m_ v E) U7 fl_ (fun ag _ _ S=>?_);obtain⟨T,rfl,p⟩:=S;obtain⟨Aw,mw,cw,rfl⟩:∃ A m c,T=Value.slice A m c:=by
  obtain⟨A,c,h,_⟩:=id p;exact⟨_,_,_,h⟩
 refine C6 5 [4,7,8] a U ?_;clear a R;refine UM 2 [4,7,8,17] U ?_;refine G.cd (fun q=>?_) fun q=>?_
 ·have d:ug (bs B) (bp B) b≠0:=by simpa using q
  refine UM 2 [6] U ?_;refine UT U2 ?_;exact⟨by unfold N7;rw[aJ d],U⟩
 have d:ug (bs B) (bp B) b=0:=by simpa using q
 obtain⟨w,V,W⟩:=F d;rw[aJ d]at p;have y:dV (bs B*bp B:Nat) b.flatten=0:=gS.2 ⟨by rw[w,au,V],Ru.2 fun s f=>DI d f⟩;refine UQ fun R a=>?_;refine UO (bkT Q 3) U8 ?_;refine UP U6 ?_;refine Vo (zg _ n.m_ (bs B*bp B) _ _ _ (dx (cq B e)) b.flatten (List.replicate (bs B*bp B) 0) g L.m_ (by rw[<- fj];exact M.mono mup) (Ga (h.rowI i)) (h.rowsQ i) (Di om_ (Rn K dc_) h.rl (h.rowI i) RI (xi _)) om_ (fun x X=>(xi _ x X).le dc_) p.m_ (fun s f=>by
  obtain⟨l,Y,Z⟩:=List.mem_flatten.1 f;exact v l Y s Z) (fun _=>⟨w,W⟩)) U7 fl_ (fun ah _ _ aa=>?_)
 obtain⟨Av,mv,ai,rfl,ab⟩:=aa;have ac:=ab y;rw[y];refine C6 5 [8,9] a U ?_;clear a R;refine UN 6 U fun R a=>?_;refine Vk U8 ?_;refine US [8,31] a U ?_;clear a R;refine G.cd (fun k=>?_) fun k=>?_
 ·have ad:¬ (od B e).At fun j=>g.getD j 0:=fun ha=>by
   have:=LI.2 ha;rw[ac,this]at k;exact absurd k dc_
  refine UM 1 [6] U ?_;refine UT U2 ?_;exact⟨by unfold N7;rw[aF (fun h=>h d),aF ad],U⟩
 have ae:(od B e).At fun j=>g.getD j 0:=LI.1 (by
  have:¬ 0<mv:=by simpa using k
  omega)
 refine UM 2 [6] U ?_;refine UT U2 ?_;exact⟨by unfold N7;rw[aF (fun h=>h d),aJ ae],U⟩
theorem Hy (C:Mem)(f:Tabs C)(g i:Value)(B:Bk)(d:List Rat)(b:Nat->List RowQ)(a:List (List Str))(e:List Rat)(k:BookIn C g B)(h:Calm B d b)(m:FieldsIn C i a)(r:∀ l∈a,∀ x∈l,x.length<=999998)(s:a.length<=1000)(t:IJ B a e) :
  Gives cx.P 32 [g,i] C (i_ (N7 B b a e)):=by
 have n:=k;obtain⟨vs,_,_,u⟩:=id m;obtain⟨F,cs,rfl,_⟩:=id u;obtain⟨H,I,J,K,L,rfl,h1,h2,h3,h4,h5⟩:=id k.ex;refine UU func32 19 U3 fun w0=>UQ fun R c=>Vd U6 fun M=>C6 1 [1,2] c U<|G.freeze 0 U fun _ _ o=>Vl [(1,3)] U fun R c=>UO (bkT o 5) U8<|D.call (eZ _ f.m_ _ B d b n.m_ h) U (.inr dc_) U6 (Rh _) fl_ (fun N _ O _ v=>?_);obtain⟨Q,S,T,us,rfl,p,rfl⟩:=v;refine UR 3 U<|Ve U5 fun V=>UX (j:=0) U12<|C6 1 [1,2,5,6] c U<|UM 2 [1,2,5,6,13] U<|G.cd (fun q=>?_) fun q=>?_
 ·exact absurd q dc_
 refine G.freezeArr 1 (aD us (cq B b)) U2 (bN _ _) (by rw[bk p.1]) (fun _ _ w=>?_);rw[gp];refine G.freezeArr 1 ((List.replicate (bs B*bp B) (0:Rat)).map aQ) U2 bP ak fun _ _ y=>G.freeze 0 U (fun z _ A=>?_);have E:=ig (RowsOk.m_ p) (w.mono mup:Sl z 2 _ _);exact UQ fun R c=>UO (bkT o 5) U8<|UO (bkT A 3) U8<|UP U6<|UZ (Ew _ f.m_ _ _ _ B d b a e n.m_ h ⟨_,_,_,_,_,_,U,E.mono mup,y.mono mup⟩ m.m_ r s t) U7<|C6 1 [4] c U<|UT U2<|⟨U,U⟩
theorem gZ (C:Mem)(a x y d:Str):Gives cx.P 56 [af a,af x,af y,af d] C (.agg ⟨[i_ 2,af a,af x,af y,af d,af [66],af [65],af [],af [],af []]⟩):=by
 refine UU func56 15 U3 fun w0=>UQ fun R b=>Ve U5 fun c=>US [0,1,2,3,8] b U<|UN 3 U fun R b=>Vf [af x,af y] U8<|UP U6<|Vf [i_ 2,af a,af x,af y,af d,af [66],af [65],af [],af [],af []] U8<|UX (j:=0) U12<|US [8] b U<|U1 (VF ag U4 ?_);exact⟨U,U⟩
theorem Qy (l:List Nat):(xB l).pts.map gD=[[af [48],af [48]],[af [54],af [48]],[af [48],af [52]]]:=by
 show [[af (qtx 0),af (qtx 0)],[af (qtx 6),af (qtx 0)],[af (qtx 0),af (qtx 4)]]=_;rw[IX,JS,L4]
theorem QF (l:List Nat):(xB l).col.map vZ=[[af [65],af [48],af []],[af [66],af [48],af []]]:=by
 show [[af [65],af (qtx 0),af []],[af [66],af (qtx 0),af []]]=_;rw[IX]
theorem ly (C:Mem)(b:Value)(l:List Nat)(c:Sl C 10 b ((l.map xO).map sd)):Pur cx.P 55 [b] C fun u D=>BookIn D u (xB l):=by
 obtain⟨f,c0,rfl,_⟩:=id c;refine UU func55 20 U3 fun w0=>UQ fun R a=>Ve U5 fun p=>US [0,2] a U<|UQ fun R a=>Vf [af [48],af [48]] U8<|Vf [af [54],af [48]] U8<|Vf [af [48],af [52]] U8<|VK [[af [48],af [48]],[af [54],af [48]],[af [48],af [52]]] U12 fl_ fun d _ _ g=>Vf [i_ 0,i_ 1,i_ 2] U8<|VK [[i_ 0,i_ 1,i_ 2]] U12 fl_ fun e _ _ h=>Vf [s_ d 3 3,s_ e 1 1] U8<|Ve U5 fun q=>UX (j:=0) U12<|US [0,2,3] a U<|UQ fun R a=>Vf [af [65],af [48],af []] U8<|Vf [af [66],af [48],af []] U8<|VK [[af [65],af [48],af []],[af [66],af [48],af []]] U12 fl_ fun i _ _ k=>C6 1 [0,2,3,4] a U<|G.freeze 0 U fun _ _ m=>UQ fun R a=>UO (bkT m 2) U8<|VK [[af [49,48]],[af [49,48]],[af [49,48]]] U12 fl_ fun n _ _ o=>UR 2 U<|Vf [s_ d 3 3,s_ e 1 1,s_ n 3 3,s_ i 2 2,.slice f ((l.map xO).map sd).length c0] U8<|UX (j:=0) U12<|US [2] a U<|U1 (VF ag U4 ?_);exact⟨U,_,_,_,_,_,U,by rw[Qy];exact g.mono mup,h.mono mup,o.mono mup,by rw[QF];exact k.mono mup,c.mono mup⟩
def xC:List Rat:=zf 3 0 (0,1,2) (wgt (xB []).pts (0,1,2) (3,0)) 3
theorem xC_e:sgL xC 0=[1/2,1/2,0]/\sgL xC 1=[-1/2, -1/2,0]:=by decide +kernel
theorem QD:∀ k,k<2->Lp.Lim (bU 3 (dx (xR 0))) (fun j=>(sgL xC k).getD j 0) 20:=fun k a=>by
 have b:∀ k<2,∀ j<3,wlB 2 ((sgL xC k).getD j 0)=true:=by decide +kernel
 exact uS dc_ (LF 0 dc_) ⟨2,by decide,by decide,fun j c=>Fu (b k a j c)⟩
theorem ML (h:MG (bU 3 (dx (xR 0))) xC u):u=.tuple #[af [54],af [54],i_ 0]:=by
 obtain⟨e,f,g,i,_,h1,h2,h3⟩:=h;rw[xC_e.1]at h1;rw[xC_e.2]at h2;obtain⟨a,c⟩:=h1.same QC;obtain⟨b,d⟩:=(h2 om_).same O5;rcases h3 with⟨h3,_⟩|⟨_,rfl⟩
 ·omega
 unfold Fg oE;rw[aJ a,aJ b,c a,d b,show(1:Rat)*6=6 by decide +kernel,show(-1:Rat) * -6=6 by decide +kernel,JS]
theorem MO {D:Mem}(h:BuiO (xB [0,1]) (xRO [0,1]) D u):∃ (A:Option Addr)(n c:Nat),u=.tuple #[.slice none 0 0,.agg ⟨[.slice A n c]⟩,.bool false,i_ 0]:=by
 cases h with
|yes pt v h1 h2 h3 h4 =>
  unfold od at h1;rw[Pv]at h1;exact absurd ⟨pt,h1⟩ x_no
|no du a h1 h2 =>
  obtain⟨A,c,rfl,_⟩:=id h2;exact⟨_,_,_,U⟩
theorem MM {D:Mem}(b:EdgL (xB [2,3]).tris es)(h:FlatO (xB [2,3]) (xRO [2,3]) es D u):∃ (A:Option Addr)(n c:Nat)(A2:Option Addr)(n2 c2:Nat),u=.tuple #[.agg ⟨[.slice A n c,af [54],.slice A2 n2 c2]⟩,i_ 0]:=by
 obtain rfl:=b.same P6;have a:=O7;rw[<- Pu]at a;cases h with
|opt v pt du f g h1 h2 h3 =>
  obtain⟨vs,_,_,d⟩:=h2;obtain⟨A,c,rfl,_⟩:=id d;obtain⟨A2,c2,rfl,_⟩:=id h3;have e:=(h1.val.same a).2 rfl;exact⟨_,_,_,_,_,_,by rw[e,JS]⟩
|inf h1 =>
  obtain⟨_,⟨y,hy,_⟩,_⟩|⟨h,_⟩|⟨h,_⟩:=a
  ·exact absurd ⟨y,hy⟩ h1
  ·cases h
  cases h
theorem lI:sd (xO 0)=[i_ 2,af [97],af [51],af [48],af [52],af [66],af [65],af [],af [],af []]/\sd (xO 1)=[i_ 2,af [98],af [51],af [48],af [53],af [66],af [65],af [],af [],af []] /\
  sd (xO 2)=[i_ 2,af [97],af [48],af [48],af [52],af [66],af [65],af [],af [],af []]/\sd (xO 3)=[i_ 2,af [98],af [54],af [48],af [49],af [66],af [65],af [],af [],af []]:=by
 rw[IU,IU,IU,IU];exact⟨U,U,U,U⟩
theorem Qx:(.agg ⟨[af [51],af [48]]⟩:Value)=ptV (3,0):=by
 show _=Value.agg ⟨[af (qtx 3),af (qtx 0)]⟩;rw[Gn,IX]
theorem Hp (C:Mem)(b:Tabs C):Gives cx.P 11 [] C (.bool true):=by
 have c:=fun(D:Mem)(d:C.le D)(bv:Value)(e:BookIn D bv (xB [0]))=>Hw D (b.mono d) bv (xB [0]) xFs (xRO [0]) 0 (3,0) 0 [] (0,1,2) [49,48] e (ze ok0) dc_ (LG 0 dc_).2.2.2.2 ⟨bA (LG 0 dc_).2.1,bA (LG 0 dc_).2.2.1⟩ (I2 0 dc_) rfl (x_w 0 dc_)
  (by rw[<- PG];exact O1 0 dc_) (fun k f=>by
   have:=QD k f;rw[<- rows0]at this;exact this)
 have g:∀ es,EdgL (xB [2,3]).tris es->bs (xB [2,3])*bp (xB [2,3])+bs (xB [2,3])*es.length<=12:=fun es h=>by
  obtain rfl:=h.same P6;decide
 refine UU func11 64 U3 fun w0=>UN 1 U fun R a=>VU [] trivial (a _ _ _ U ?_);refine UQ fun R a=>UZ (gZ _ [97] [51] [48] [52]) U7<|VK [[i_ 2,af [97],af [51],af [48],af [52],af [66],af [65],af [],af [],af []]] U12 fl_ fun w _ _ i=>Vo (ly _ _ [0] (by show Sl _ 10 _ [sd (xO 0)];rw[lI.1];exact i.mono mup)) U7 fl_ fun x _ _ l=>Vf [af [51],af [48]] U8 ?_;rw[Qx];refine Vu (c _ mup _ l.m_) U7 (fun y _ _ m=>?_);obtain rfl:=ML (by have:=m;unfold od at this;rw[rows0]at this;exact this);refine C6 7 [1,2,3] a U<|UQ fun R a=>UZ (gZ _ [97] [51] [48] [52]) U7<|UZ (gZ _ [98] [51] [48] [53]) U7<|VK [[i_ 2,af [97],af [51],af [48],af [52],af [66],af [65],af [],af [],af []],[i_ 2,af [98],af [51],af [48],af [53],af [66],af [65],af [],af [],af []]] U12 fl_ fun z _ _ n=>Vo (ly _ _ [0,1] (by show Sl _ 10 _ [sd (xO 0),sd (xO 1)];rw[lI.1,lI.2.1];exact n.mono mup)) U7 fl_ fun A _ _ o=>Vu (ye _ b.m_ _ (xB [0,1]) xFs (xRO [0,1]) o.m_ (ze ok01)) U7 (fun B _ _ p=>?_);obtain⟨E,nb,F,rfl⟩:=MO p;refine UR 5 U<|Ve U5 fun H=>UP U6<|UX (j:=0) U12<|C6 2 [1,2,3,6,7] a U<|UQ fun R a=>UZ (gZ _ [97] [48] [48] [52]) U7<|UZ (gZ _ [98] [54] [48] [49]) U7<|VK [[i_ 2,af [97],af [48],af [48],af [52],af [66],af [65],af [],af [],af []],[i_ 2,af [98],af [54],af [48],af [49],af [66],af [65],af [],af [],af []]] U12 fl_ fun I _ _ q=>Vo (ly _ _ [2,3] (by show Sl _ 10 _ [sd (xO 2),sd (xO 3)];rw[lI.2.2.1,lI.2.2.2];exact q.mono mup)) U7 fl_ fun J _ _ r=>Vo (KC _ b.m_ _ (xB [2,3]) xFs (xRO [2,3]) r.m_ (ze ok23) dc_ dc_ g) U7 fl_ (fun K _ _ s=>?_);obtain⟨es,t,u⟩:=s;obtain⟨L,M,N,O,Q,S,rfl⟩:=MM t u;exact UR 3 U<|Ve U5 fun T=>UX (j:=0) U12<|C6 1 [1,2,3,6,7,8,9] a U<|G.freeze 0 U fun _ _ v=>UN 5 U fun R a=>Vk U8<|UR 3 U<|Vk U8<|UR 3 U<|Vk U8<|UR 3 U<|Vk U8<|UR 3 U<|Vk U8<|UR 2 U<|Vm U6 (fun _=>PtrTo.blockT (Mem.get v mup) _ 1) U3<|UP U6<|Vk U8<|C6 1 [0] a U<|UT U2<|⟨U,U⟩
end Go.Proofs.YtfjcldheldflbaaGreatDoor
