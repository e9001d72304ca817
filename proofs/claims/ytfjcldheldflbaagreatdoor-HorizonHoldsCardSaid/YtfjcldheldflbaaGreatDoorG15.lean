/- Laws that the proofs of this seat share, part 15. -/
import Derived.Test.YtfjcldheldflbaaGreatDoorG14
import Derived.Test.YtfjcldheldflbaaGreatDoorShelf
set_option maxHeartbeats 4000000
namespace Go.Proofs.YtfjcldheldflbaaGreatDoor
open Go.Proofs.Tryz
open Go Go.Jog
set_option maxRecDepth 100000
variable {C:Mem}{es:List (Nat × Nat)}{i:Nat}{l:List RowQ}{n p:Nat}{ps:List Rat}{pt:Nat->Rat}{r r':RowQ}{rows:List RowQ}{s:Nat}{u:Value}{us:List Value}{v w:Value}
theorem Ox (n:Nat)(q:Rat):List.replicate n (ae (qtx q))=((List.replicate n q).map aQ).flatten:=by
 rw[Uf];induction n with
|zero=>rfl
|succ n a=>rw[SB,SB,SH,<- a];rfl
theorem NB (C:Mem)(v:Value)(n:Nat)(q:Rat)(s:Str)(a:qtx q=s)(c:Sl C 1 v [[ae s]])(d:n<=1000000):Pur cx.P 64 [v,i_ n] C fun u D=>∃ b,u=s_ b n n/\Sl D 1 u ((List.replicate n q).map aQ) :=
 W6 (nB C v n s c d) fun u e f ⟨b,h1,h2⟩=>.inr ⟨u,32,1,(List.replicate n q).map aQ,by rw[h2,<- Ox,a];simp,bS,fun D _ h=>⟨b,h1,h⟩⟩
theorem pl (C:Mem)(n:Nat)(h:n<=100000):Pur cx.P 77 [i_ n] C fun u D=>∃ b,u=s_ b n n/\Sl D 1 u ((List.replicate n (0:Rat)).map aQ) :=
 W6 (mD C n h) fun u a c ⟨b,h1,h2⟩=>.inr ⟨u,32,1,(List.replicate n 0).map aQ,by rw[h2,<- jU];simp,bS,fun D _ h=>⟨b,h1,h⟩⟩
def zQ (rows:List RowQ)(more i:Nat):List RowQ:=(rows.take i).map (fw more)++rows.drop i
theorem Kw (a:List RowQ)(b i:Nat):(zQ a b i).length=a.length:=by
 unfold zQ;rw[Ru,au,<- Ru,Sm]
theorem Oc {more:Nat}(h:rows[i]?=some r):(zQ rows more i)[i]?=some r/\zQ rows more (i+1)=(zQ rows more i).set i (fw more r):=by
 have c:=(aJ.1 h).1;have a:((rows.take i).map (fw more)).length=i:=by rw[au,RE];omega
 have b:rows.drop i=r::rows.drop (i+1):=by rw[RP c,(aJ.1 h).2]
 unfold zQ;constructor
 ·rw[RV om_,a,TO,b];rfl
 rw[RR,h,R3,b,List.set_append_right _ _ om_,a,TO];simp
theorem gn (d:us.length=l.length)(c:l[i]?=some r)(e:r'.b=r.b) :
  aE (aC us l).flatten [w] (i*2)=(aC (us.set i w) (l.set i r')).flatten:=by
 have f:=(aJ.1 c).1;obtain⟨u0,g⟩:∃ u0,us[i]?=some u0:=⟨us[i]'om_,ai om_⟩;have h:us=us.take i++u0::us.drop (i+1):=by
  conv=>lhs;rw[<- Sm i us,RP om_,(aJ.1 g).2]
 have j:l=l.take i++r::l.drop (i+1):=by
  conv=>lhs;rw[<- Sm i l,RP om_,(aJ.1 c).2]
 have a:(us.take i).length=(l.take i).length:=by rw[RE,RE,d]
 have k:aC us l=aC (us.take i) (l.take i)++[u0,ae (qtx r.b)]::aC (us.drop (i+1)) (l.drop (i+1)):=by
  conv=>lhs;rw[h,j]
  unfold aC;rw[List.zipWith_append a];rfl
 have m:aC (us.set i w) (l.set i r')=aC (us.take i) (l.take i)++[w,ae (qtx r.b)]::aC (us.drop (i+1)) (l.drop (i+1)):=by
  rw[List.set_eq_take_append_cons_drop,aM om_,List.set_eq_take_append_cons_drop,aM f];unfold aC;rw[List.zipWith_append a,<- e];rfl
 have n:(aC (us.take i) (l.take i)).flatten.length=i*2:=by
  rw[aK (bQ _ _),bE a,RE,Sp om_]
 rw[k,m,R4,R4,SH,SH];exact wM (A:=(aC (us.take i) (l.take i)).flatten) (x:=u0) (B:=ae (qtx r.b)::(aC (us.drop (i+1)) (l.drop (i+1))).flatten) n
theorem jS (h:RowsOk C us l)(b:Sl C 1 w (r'.f.map dJ)):RowsOk C (us.set i w) (l.set i r'):=by
 refine⟨by rw[Sh,Sh];exact h.1,fun j v r a hr=>?_⟩;rw[List.getElem?_set]at a hr;by_cases e:i=j
 ·subst e;rw[aM rfl]at a hr;split at a
  ·split at hr
   ·cases a;cases hr;exact b
   cases hr
  cases a
 rw[aF e]at a hr;exact h.2 j v r a hr
theorem zD (h:RowsOk C us l)(e:Sl C 1 w (r.f.map dJ)):RowsOk C (us++[w]) (l++[r]):=by
 refine⟨by rw[Ru,Ru,h.1];rfl,fun j v x a b=>?_⟩;have:=h.1;rcases RS j us.length with c|c
 ·rw[Se c]at a;rw[Se om_]at b;exact h.2 j v x a b
 rw[RV c]at a;rw[RV om_]at b;cases d:j-us.length with
|zero =>
  rw[d]at a;rw[show j-l.length=0 by omega]at b;cases a;cases b;exact e
|succ k=>rw[d]at a;cases a
theorem xi (d:us.length=l.length)(a:l[i]?=some r)(e:us[i]?=some w):((aC us l).flatten.drop (i*2)).take 2=[w,ae (qtx r.b)]:=by
 have k:=(aJ.1 a).1;have f:us=us.take i++w::us.drop (i+1):=by
  conv=>lhs;rw[<- Sm i us,RP om_,(aJ.1 e).2]
 have g:l=l.take i++r::l.drop (i+1):=by
  conv=>lhs;rw[<- Sm i l,RP om_,(aJ.1 a).2]
 have c:(us.take i).length=(l.take i).length:=by rw[RE,RE,d]
 have h:aC us l=aC (us.take i) (l.take i)++[w,ae (qtx r.b)]::aC (us.drop (i+1)) (l.drop (i+1)):=by
  conv=>lhs;rw[f,g]
  unfold aC;rw[List.zipWith_append c];rfl
 have j:(aC (us.take i) (l.take i)).flatten.length=i*2:=by
  rw[aK (bQ _ _),bE c,RE,Sp om_]
 rw[h,R4,SH,<- j,List.drop_left];rfl
theorem rj (l:List Rat):((l.map aQ).all fun r=>r.all lG)=true:=by
 rw[RI];intro r hr;obtain⟨q,_,rfl⟩:=Rs.1 hr;rfl
theorem J1 {h:Nat}{k q:Nat}(a:q<2):(rgK n h p es k).take (q+1)=(rgK n h p es k).take q++[⟨rgF n h p es.length k (edg es k) (sG q),0⟩]:=by
 rcases(by omega:q=0∨q=1) with rfl|rfl <;> rfl
def Qy (D:Mem)(n:Nat)(rows:List RowQ)(ob:List Rat)(u:Value):Prop:=∃ (A1:Option Addr)(n1 c1:Nat)(A2:Option Addr)(n2 c2:Nat),u=.agg ⟨[.int .i64 n,.slice A1 n1 c1,.slice A2 n2 c2]⟩/\RowsT D (.slice A1 n1 c1) ((eg rows).map eA)/\Sl D 1 (.slice A2 n2 c2) (ob.map aQ)
abbrev sR7 (A:Option Addr)(n c:Nat):Value:=.slice A n c
abbrev sF7 (A:Option Addr)(n c:Nat):Value:=.slice A n c
theorem JY (C:Mem)(hT:Tabs C)(bv:Value)(B:Bk)(fs:List Rat)(RO:Nat->List RowQ)(d:BookIn C bv B)(h:Calm B fs RO)(aY:bp B<=6)(aZ:bs B<=2) :
  Pur cx.P 22 [bv] C fun u D=>∃ es x,u=.tuple #[x,i_ 0]/\EdgL B.tris es/\Qy D (bs B*bp B+bs B*es.length) (zE (dz B RO) (bs B*bp B) (bp B) es (bs B*es.length)) (nA (bs B*bp B) (bs B*es.length)) x:=by
 have a0:=d;have hG:=h.rich.good;have a1:=h.n12;have a2:=h.cnt (de B.obs.length);have af:=fun(D:Mem)(hD:C.le D)=>iu D (hT.mono hD) bv B fs RO (d.mono hD) h;obtain⟨v1,v2,tv,cv,ov,rfl,h1,h2,h3,h4,h5⟩:=id d.ex;have hm:MeshIn C (.agg ⟨[v1,v2]⟩) B.pts B.tris:=⟨v1,v2,rfl,h1,h2⟩;obtain⟨s,t,rfl,a3,_⟩:=id h1;obtain⟨A4,c4,rfl,a4,_⟩:=id h4;have a5:(B.pts.map gx).length=bp B:=au _;have a6:(B.col.map vu).length=bs B+1:=by rw[au];have:=h.rich.scol.1;omega
 simp only[a5,a6]at h1 a3 h4 a4 hm a0 af⊢;have bI:=mx_
 obtain⟨n,hn⟩:∃ n,bs B*bp B=n:=⟨_,rfl⟩;obtain⟨rows,ao⟩:∃ rows,dz B RO=rows:=⟨_,rfl⟩;rw[show oD B RO (List.range B.obs.length)=rows from ao]at a2;rw[hn]at af a1⊢;rw[ao]at af⊢;have a7:∀ r∈rows,r.f.length<=12:=fun r hr=>by
  have h1:=(h.rowsQ (de B.obs.length)).l (r.f,r.b) (Rs.2 ⟨r,by rw[<- ao]at hr;exact hr,rfl⟩);have h2:r.f.length=bs B*bp B:=h1;omega
 refine Vi func22 153 U3 fun w0=>?_;refine Vd fun R c=>?_;refine Vs U6 (fun b1=>?_);refine Vt U5 (fun v=>?_);refine C6 1 [1,2] c U ?_;clear c R;refine G.freeze 1 U (fun _ _ ah=>?_);refine VB [(1,3)] U (fun R c=>?_);refine Vb (bkT ah 5) U8 ?_;refine D.call (af _ mup) U (.inr dc_) U6 (Rw _) fl_ (fun bJ _ bK _ a8=>?_);obtain⟨O,E,bo,vs,rfl,a9,rfl⟩:=a8;refine Ve 3 U ?_;refine Vt U5 (fun y=>?_);refine Vk (j:=0) U12 ?_;refine C6 1 [1,2,4,5] c U ?_;clear c R;refine U1 2 [1,2,4,5,24] U ?_;refine G.cd (fun aH=>?_) fun aH=>?_
 ·exact absurd aH dc_
 refine Va 1 U fun R c=>?_;refine Vb (bkT ah 2) U8 ?_;refine VJ (K7 _ hT.m_ _ B.pts B.tris hm.m_ hG) U7 (fun bL _ _ ba=>?_);obtain⟨es,ev,rfl,aq,ar⟩:=ba;obtain⟨Ae,ce,rfl,bb,_⟩:=id ar;simp only[au]at ar bb⊢;obtain⟨bc,bM⟩:=aq.le hG.ok.ins aY;obtain⟨a,ad⟩:∃ a,bs B*es.length=a:=⟨_,rfl⟩;have bN:a<=30:=by rw[<- ad];exact SJ aZ bc
 refine C6 5 [1,2,4,5,6] c U ?_;clear c R;refine U1 2 [1,2,4,5,6,34] U ?_;refine G.cd (fun aI=>?_) fun aI=>?_
 ·exact absurd aI dc_
 refine Vv [0,1,2,3,4,5,6,7] [] U kr_ (fun R d c=>?_);refine Vc U6 ?_;refine Vj ag U9 ?_;refine Ve 2 U ?_;refine Vb (bkT ah 1) U8 ?_;refine Ve 3 U ?_;refine Vf [1,2,4,6,7,8] c U ?_;clear c d R;refine Va 1 U fun R c=>?_;refine Vb (bkT ah 1) U8 ?_;refine Vc U6 ?_;refine VI (((bs B:Nat):Int)) U4 om_ om_ om_ U2 ?_;refine Ve 2 U ?_;refine VI (((a:Nat):Int)) U4 (by rw[<- ad,RW]) om_ om_ U2 ?_;refine C6 1 [2,4,6,7,8,9] c U ?_;clear c R;refine Va 1 U fun R c=>?_;refine Vj ag U9 ?_;refine Vc U6 ?_;refine VI (((n+a:Nat):Int)) U4 om_ om_ om_ U2 ?_;refine Vc U6 ?_;refine Vk (j:=0) U12 ?_;refine Vf [2,4,6,7,8,9] c U ?_;clear c R;refine Va 1 U fun R c=>?_;refine Vj ag U9 ?_;refine Ve 3 U ?_;refine Vj ag U9 ?_;refine Ve 2 U ?_;refine Vh _ U U6 ?_;refine Vh _ U U6 ?_;refine Vc U6 ?_;refine VH U8 ?_;refine Vf [2,4,6,7,8,9,66] c U ?_;clear c R;refine G.cd (fun aJ=>?_) fun aJ=>?_
 ·exact absurd aJ ap
 refine Vv [0,1,3,2,4,5,6,7] [] U kr_ (fun R d c=>?_);refine Vc U6 ?_;refine Vj ag U9 ?_;refine Vc U6 ?_;refine Vy [[ae [49]]] U12 (fun bO _ _ be=>?_);refine VC (NB _ _ a 1 [49] NI be.m_ om_) U7 fl_ (fun bP _ _ bf=>?_);obtain⟨bR,rfl,bg⟩:=bf;refine VF (j:=2) U11 bg.m_ (rj _) (by simp only[au,RX,maxLen];omega) (by simp only[au,RX];omega) fl_ (fun e o p=>?_);refine Vc U6 ?_;refine Vk (j:=1) U12 ?_;refine Vf [2,4,6,7,8,9] c U ?_;clear c d R;refine Va 1 U fun R c=>?_;refine Vj ag U9 ?_;refine C6 2 [2,4,6,7,8,9,76,77,78] c U ?_;clear c R;have bh:List.replicate n (ae [48])++((List.replicate a (1:Rat)).map aQ).flatten=((nA n a).map aQ).flatten:=by
  rw[jU];unfold nA;rw[R3,R4]
 have bi:n+((List.replicate a (1:Rat)).map aQ).length=n+a:=by simp
 refine G.perm (L':=[.arr (sR7 O rows.length E) 140 2 (rows.length) (aC vs (zQ rows a 0)).flatten,.arr (sF7 e o p) 32 1 (n+a) ((nA n a).map aQ).flatten,.obj y (.cells ⟨[i_ (n+a:Nat),.slice O rows.length E,.slice e o p]⟩ 74 (0,0)),.obj v (.cells ⟨[i_ 0,.slice none 0 0,.slice none 0 0]⟩ 74 (0,0))]) (by rw[show zQ rows a 0=rows from U,<- bh,<- bi];(exact pkL [2,1,0,0] U)) ?_;refine G.loop (fun fr K z F=>∃ (i:Nat)(us:List Value),(i<=rows.length/\RowsOk K us (zQ rows a i))/\fr=[(2,[],p_ v),(4,[],p_ y),(6,[],.slice Ae es.length ce),(7,[],i_ n),(8,[],i_ (bp B:Nat)),(9,[],i_ a),(76,[],.slice O rows.length E),(77,[],i_ rows.length),(78,[],i_ i)]/\z=[.arr (sR7 O rows.length E) 140 2 rows.length (aC us (zQ rows a i)).flatten,.arr (sF7 e o p) 32 1 (n+a) ((nA n a).map aQ).flatten,.obj y (.cells ⟨[i_ (n+a:Nat),.slice O rows.length E,.slice e o p]⟩ 74 (0,0)),.obj v (.cells ⟨[i_ 0,.slice none 0 0,.slice none 0 0]⟩ 74 (0,0))]/\F=rows.length-i) (hn_ [2,4,6,7,8,9,76,77,78] U) ⟨0,vs,⟨Rv _,by rw[show zQ rows a 0=rows from rfl];exact RowsOk.mono a9 mup⟩,U,U,U⟩ (fun fr bT bU m _ H=>?_);obtain⟨i,us,⟨hi,L⟩,rfl,rfl,rfl⟩:=H;refine WI ag (fun A0 c0 bj bk=>?_);refine U1 1 [2,4,6,7,8,9,76,77,78,79] U ?_;refine G.cd (fun av=>?_) fun av=>?_
 ·have aw:i<rows.length:=by
   have:=QL av;omega
  obtain⟨rfl,rfl⟩:O=A0/\E=c0:=by cases bj;exact⟨rfl,rfl⟩
  obtain⟨g,rfl⟩:=bk om_;obtain⟨r,aL⟩:∃ r,rows[i]?=some r:=⟨rows[i],ai aw⟩;obtain⟨W,M⟩:=Oc (more:=a) aL;have bV:=Kw rows a i;have I:=L.1;obtain⟨w,aM⟩:∃ w,us[i]?=some w:=⟨us[i]'om_,ai om_⟩;have ay:=L.2 i w r aM W;obtain⟨Aw,cw,rfl,_⟩:=id ay;have bW:r.f.length<=12:=a7 r (aU aL);refine Va 1 U fun R c=>?_;refine VD ((i*2)) U10 w_ U2 ?_;refine VT ag U6 (fun _=>(by rw[show((TI.size _:Nat))=2 from U,xi I W aM];rfl)) U2 ?_;refine Vt U5 (fun bX=>?_);refine Vc U6 ?_;refine Vk (j:=0) U12 ?_;refine Vf [2,4,6,7,8,9,10,11,76,77,78] c U ?_;clear c R;refine G.freeze 0 U (fun _ _ bl=>?_);refine G.cut (fun fr K z F=>∃ (aj:List Value),(RowsOk K aj (zQ rows a (i+1)))/\fr=[(2,[],p_ v),(4,[],p_ y),(6,[],.slice Ae es.length ce),(7,[],i_ n),(8,[],i_ (bp B:Nat)),(9,[],i_ a),(76,[],s_ g rows.length E),(77,[],i_ rows.length),(78,[],i_ i)]/\z=[.arr (sR7 (some ⟨g,0,none⟩) rows.length E) 140 2 (rows.length) (aC aj (zQ rows a (i+1))).flatten,.arr (sF7 e o p) 32 1 (n+a) ((nA n a).map aQ).flatten,.obj y (.cells ⟨[i_ (n+a:Nat),s_ g rows.length E,.slice e o p]⟩ 74 (0,0)),.obj v (.cells ⟨[i_ 0,.slice none 0 0,.slice none 0 0]⟩ 74 (0,0))]) ?_ (fun fr bY bZ F b0 H=>?_)
  ·refine VY (.cut [0,2,3,4,6] (.alt 1 (.fin [5,7,8,9,10,11]) (.alt 5 (.cut [] (.alt 1 (.fin [7,8,9,10,11]) (.alt 7 (.cut [] (.alt 1 (.fin [8,9,10,11]) (.alt 8 (.fin [1,9,10,11]) .stop))) .stop))) .stop))) [(5,3),(4,0)] U U kr_ (fun R d c A=>?_);refine Ve 3 U ?_;refine Wb (fun _=>((bkT bl 1).mono d)) U9 ?_;refine Vc U6 ?_;refine VL A U ⟨?_, ?_,trivial⟩
   ·try obtain⟨X,Y,cc,rfl,rfl⟩:=N
    first|refine V4 ac U9 ?_|refine V4 aa U9 ?_
    refine D.call (Iy _ _ r.f ay.m_ om_) U (.inr dc_) U6 (Rw _) fl_ (fun bm bn bq _ N=>?_)
    try obtain⟨X,Y,cc,rfl,rfl⟩:=N
    refine VC (pl _ a om_) U7 fl_ (fun aN aO _ Z=>?_);obtain⟨bz,rfl,Q⟩:=Z;refine VF (j:=0) U11 Q.m_ (rj _) (by simp only[au,RX,maxLen];omega) (by simp only[au,RX];omega) fl_ (fun S T V=>?_);refine VD ((i*2)) U10 w_ U2 ?_;refine Vc U6 ?_;refine VG (j:=1) U11 (by rw[aK (bQ _ _),bE I];simp;omega) ?_;refine Vf [2,4,6,7,8,9,76,77,78] c U ?_;clear c d A R;rw[<- R4,<- R3,gn I W (r':=fw a r) rfl,<- M];refine G.freezeArr 1 ((r.f++List.replicate a (0:Rat)).map aQ) U U bS ak (fun Cf al J=>?_);exact Vp 0 mup (hn_ [2,4,6,7,8,9,76,77,78] U) ⟨us.set i (.slice S T V),by rw[M];exact jS (RowsOk.m_ L) J,U,U⟩
   refine D.call (Iy _ _ r.f ay.m_ om_) U (.inr dc_) U6 (Rw _) fl_ (fun bm bn bq _ N=>?_);refine VL A U ⟨?_, ?_,trivial⟩
   ·try obtain⟨X,Y,cc,rfl,rfl⟩:=N
    first|refine V4 ac U9 ?_|refine V4 aa U9 ?_
    try obtain⟨X,Y,cc,rfl,rfl⟩:=N
    refine VC (pl _ a om_) U7 fl_ (fun aN aO _ Z=>?_);obtain⟨bz,rfl,Q⟩:=Z;refine VF (j:=0) U11 Q.m_ (rj _) (by simp only[au,RX,maxLen];omega) (by simp only[au,RX];omega) fl_ (fun S T V=>?_);refine VD ((i*2)) U10 w_ U2 ?_;refine Vc U6 ?_;refine VG (j:=1) U11 (by rw[aK (bQ _ _),bE I];simp;omega) ?_;refine Vf [2,4,6,7,8,9,76,77,78] c U ?_;clear c d A R;rw[<- R4,<- R3,gn I W (r':=fw a r) rfl,<- M];refine G.freezeArr 1 ((r.f++List.replicate a (0:Rat)).map aQ) U U bS ak (fun Cf al J=>?_);exact Vp 0 mup (hn_ [2,4,6,7,8,9,76,77,78] U) ⟨us.set i (.slice S T V),by rw[M];exact jS (RowsOk.m_ L) J,U,U⟩
   try obtain⟨X,Y,cc,rfl,rfl⟩:=N
   refine VC (pl _ a om_) U7 fl_ (fun aN aO _ Z=>?_);refine VL A U ⟨?_, ?_,trivial⟩
   ·try obtain⟨X,Y,cc,rfl,rfl⟩:=N
    first|refine V4 ac U9 ?_|refine V4 aa U9 ?_
    obtain⟨bz,rfl,Q⟩:=Z;refine VF (j:=0) U11 Q.m_ (rj _) (by simp only[au,RX,maxLen];omega) (by simp only[au,RX];omega) fl_ (fun S T V=>?_);refine VD ((i*2)) U10 w_ U2 ?_;refine Vc U6 ?_;refine VG (j:=1) U11 (by rw[aK (bQ _ _),bE I];simp;omega) ?_;refine Vf [2,4,6,7,8,9,76,77,78] c U ?_;clear c d A R;rw[<- R4,<- R3,gn I W (r':=fw a r) rfl,<- M];refine G.freezeArr 1 ((r.f++List.replicate a (0:Rat)).map aQ) U U bS ak (fun Cf al J=>?_);exact Vp 0 mup (hn_ [2,4,6,7,8,9,76,77,78] U) ⟨us.set i (.slice S T V),by rw[M];exact jS (RowsOk.m_ L) J,U,U⟩
   obtain⟨bz,rfl,Q⟩:=Z;refine VF (j:=0) U11 Q.m_ (rj _) (by simp only[au,RX,maxLen];omega) (by simp only[au,RX];omega) fl_ (fun S T V=>?_)
   try obtain⟨X,Y,cc,rfl,rfl⟩:=N
   first|refine V4 ac U9 ?_|refine V4 aa U9 ?_
   refine VD ((i*2)) U10 w_ U2 ?_;refine Vc U6 ?_;refine VG (j:=1) U11 (by rw[aK (bQ _ _),bE I];simp;omega) ?_;refine Vf [2,4,6,7,8,9,76,77,78] c U ?_;clear c d A R;rw[<- R4,<- R3,gn I W (r':=fw a r) rfl,<- M];refine G.freezeArr 1 ((r.f++List.replicate a (0:Rat)).map aQ) U U bS ak (fun Cf al J=>?_);exact Vp 0 mup (hn_ [2,4,6,7,8,9,76,77,78] U) ⟨us.set i (.slice S T V),by rw[M];exact jS (RowsOk.m_ L) J,U,U⟩
  obtain⟨aj,ab,rfl,rfl⟩:=H;refine Vd fun R c=>?_;refine Vh _ U U6 ?_;refine C6 1 [2,4,6,7,8,9,76,77,78] c U ?_;clear c R;refine Vn (m':=rows.length-(i+1)) om_ mup (hn_ [2,4,6,7,8,9,76,77,78] U) ⟨i+1,aj,⟨by omega,ab⟩,U,U,U⟩
 have aw:i=rows.length:=by
  have:=Rt av;omega
 subst aw;refine U1 2 [2,4,6,7,8,95,96] U ?_;rw[show zQ rows a rows.length=rows.map (fw a)++rgL (n+a) n (bp B) es 0 by unfold zQ;rw[Rz,SA];rfl]at L⊢;refine G.loop (fun fr K z F=>∃ (k:Nat)(s:Option Addr)(n1 t:Nat)(us:List Value),(k<=a/\RowsOk K us (rows.map (fw a)++rgL (n+a) n (bp B) es k))/\fr=[(2,[],p_ v),(4,[],p_ y),(6,[],.slice Ae es.length ce),(7,[],i_ n),(8,[],i_ (bp B:Nat)),(95,[],i_ a),(96,[],i_ k)]/\z=[.arr (sR7 s n1 t) 140 2 (rows.length+2*k) (aC us (rows.map (fw a)++rgL (n+a) n (bp B) es k)).flatten,.arr (sF7 e o p) 32 1 (n+a) ((nA n a).map aQ).flatten,.obj y (.cells ⟨[i_ (n+a:Nat),.slice s n1 t,.slice e o p]⟩ 74 (0,0)),.obj v (.cells ⟨[i_ 0,.slice none 0 0,.slice none 0 0]⟩ 74 (0,0))]/\F=a-k) (hn_ [2,4,6,7,8,95,96] U) ⟨0,O,rows.length,E,us,⟨Rv _,RowsOk.mono L mup⟩,U,U,U⟩ (fun fr b3 b5 m _ H=>?_);obtain⟨k,s,n1,t,us,⟨hk,az⟩,rfl,rfl,rfl⟩:=H;refine U1 1 [2,4,6,7,8,95,96,97] U ?_;refine G.cd (fun aA=>?_) fun aA=>?_
 ·have b6:k<a:=by
   have:=QL aA;omega
  have aP:k<bs B*es.length:=by omega
  obtain⟨br,b7⟩:=H6 aP;obtain⟨bt,bu,b8⟩:=ME (aq.ok (n:=bp B) hG.ok.ins (bs B)) aP;rw[hn]at bt bu;have bw:0<es.length:=List.length_pos_of_mem br;have aR:=R9 k bw;have bx:(es.map yx)[k % es.length]?=some (yx (edg es k)):=by
   rw[Rr,ai aR];unfold edg;rw[am,ai aR];rfl
  refine U1 2 [2,4,6,7,8,12,95,96] U ?_;refine Vv [0,1,2,3,4,5,6,7,8,9,10,11,12,13] [] U kr_ (fun R d c=>?_);refine Ve 3 U ?_;refine V7 (k) (es.length) U6 om_ (.inl ⟨U,by omega⟩) U2 ?_;refine Ve 4 U ?_;refine VW (k) (es.length) U6 om_ U2 ?_;refine Vq ar.m_ U10 om_ bx fl_ (fun b9 bA=>?_);refine Vb bA U8 ?_;refine Vt U5 (fun aS=>?_);refine Vc U6 ?_;refine Vk (j:=0) U12 ?_;refine Vf [2,4,6,7,8,12,13,14,95,96] c U ?_;clear c d R;refine G.freeze 0 U (fun _ _ aB=>?_);refine Vd fun R c=>?_;refine VZ [[ae [49]],[ae [45,49]]] U12 fl_ (fun aT _ _ aV=>?_);refine C6 2 [2,4,6,7,8,12,13,14,95,96,110,111,112] c U ?_;clear c R;rw[sgns]at aV;refine Vr (L':=[.arr (sR7 s n1 t) 140 2 (rows.length+2*k+0) (aC us (rows.map (fw a)++(rgL (n+a) n (bp B) es k++(rgK (n+a) n (bp B) es k).take 0))).flatten,.arr (sF7 e o p) 32 1 (n+a) ((nA n a).map aQ).flatten,.obj y (.cells ⟨[i_ (n+a:Nat),.slice s n1 t,.slice e o p]⟩ 74 (0,0)),.obj v (.cells ⟨[i_ 0,.slice none 0 0,.slice none 0 0]⟩ 74 (0,0))]) (by rw[List.take_zero,RQ];rfl) ?_;refine G.loop (fun fr K z F=>∃ (q:Nat)(s:Option Addr)(n1 t:Nat)(us:List Value),(q<=2/\RowsOk K us (rows.map (fw a)++(rgL (n+a) n (bp B) es k++(rgK (n+a) n (bp B) es k).take q)))/\fr=[(2,[],p_ v),(4,[],p_ y),(6,[],.slice Ae es.length ce),(7,[],i_ n),(8,[],i_ (bp B:Nat)),(12,[],i_ k),(13,[],i_ (k / es.length:Nat)),(14,[],p_ aS),(95,[],i_ a),(96,[],i_ k),(110,[],s_ aT 2 2),(111,[],i_ 2),(112,[],i_ q)]/\z=[.arr (sR7 s n1 t) 140 2 (rows.length+2*k+q) (aC us (rows.map (fw a)++(rgL (n+a) n (bp B) es k++(rgK (n+a) n (bp B) es k).take q))).flatten,.arr (sF7 e o p) 32 1 (n+a) ((nA n a).map aQ).flatten,.obj y (.cells ⟨[i_ (n+a:Nat),.slice s n1 t,.slice e o p]⟩ 74 (0,0)),.obj v (.cells ⟨[i_ 0,.slice none 0 0,.slice none 0 0]⟩ 74 (0,0))]/\F=2-q) (hn_ [2,4,6,7,8,12,13,14,95,96,110,111,112] U) ⟨0,s,n1,t,us,⟨Rv _,by rw[List.take_zero,RQ];exact RowsOk.mono az mup⟩,U,U,U⟩ (fun fr ca cb m _ H=>?_);obtain⟨q,s,n1,t,us,⟨cf,ab⟩,rfl,rfl,rfl⟩:=H;refine U1 1 [2,4,6,7,8,12,13,14,95,96,110,111,112,113] U ?_;refine G.cd (fun aD=>?_) fun aD=>?_
  ·have an:q<2:=by
    have:=QL aD;omega
   refine Vd fun R c=>?_;refine Vq aV.m_ U10 om_ (by rw[Rr,Mc an];rfl:(([1, -1]:List Rat).map aQ)[q]?=some (aQ (sG q))) fl_ (fun cg bB=>?_);refine Vb bB U8 ?_;refine C6 1 [2,4,6,7,8,12,13,14,16,95,96,110,111,112] c U ?_;clear c R;refine VB [(2,3)] U (fun R c=>?_);refine Vc U6 ?_;refine Vj ac U9 ?_;refine D.call (mD _ (n+a) om_) U (.inr dc_) U6 (Rw _) fl_ (fun ch _ ci _ bC=>?_);obtain⟨bz,rfl,rfl⟩:=bC;rw[Mg];have aW:(Value.string ⟨#[45,49]⟩)=tq (-1):=by show ae [45,49]=ae (qtx (-1));rw[Gx]
   refine C6 1 [2,4,6,7,8,12,13,14,16,17,95,96,110,111,112] c U ?_;clear c R;refine G.cut (fun fr K z F=>(True)/\fr=[(2,[],p_ v),(4,[],p_ y),(6,[],.slice Ae es.length ce),(7,[],i_ n),(8,[],i_ (bp B:Nat)),(12,[],i_ k),(13,[],i_ (k / es.length:Nat)),(14,[],p_ aS),(17,[],s_ bz (n+a) (n+a)),(95,[],i_ a),(96,[],i_ k),(110,[],s_ aT 2 2),(111,[],i_ 2),(112,[],i_ q)]/\z=[.arr (s_ bz (n+a) (n+a)) 32 1 (n+a) ((rgF (n+a) n (bp B) es.length k (edg es k) (sG q)).map tq),.arr (sR7 s n1 t) 140 2 (rows.length+2*k+q) (aC us (rows.map (fw a)++(rgL (n+a) n (bp B) es k++(rgK (n+a) n (bp B) es k).take q))).flatten,.arr (sF7 e o p) 32 1 (n+a) ((nA n a).map aQ).flatten,.obj y (.cells ⟨[i_ (n+a:Nat),.slice s n1 t,.slice e o p]⟩ 74 (0,0)),.obj v (.cells ⟨[i_ 0,.slice none 0 0,.slice none 0 0]⟩ 74 (0,0))]) ?_ (fun fr cj ck F cl H=>?_)
   ·refine VY (.cut [0,1,2,3,4,5,6,7,8,9,10,11,14,15,16,17,18,19,20,21] (.alt 12 (.fin [13,22,23,24,25,26]) (.alt 22 (.fin [12,13,23,24,25,26]) .stop))) [(20,1)] U U kr_ (fun R d c A=>?_);refine Ve 3 U ?_;refine Vh (((k / es.length*bp B:Nat):Int)) (RW _ _) U6 ?_;refine Vw (0) U9 k_ U2 ?_;refine Vb (bkT aB 1) U8 ?_;refine VI (((k / es.length*bp B+(edg es k).1:Nat):Int)) U4 om_ om_ om_ U2 ?_;refine Ve 3 U ?_;refine Vh (((k / es.length*bp B:Nat):Int)) (RW _ _) U6 ?_;refine Vw (1) U9 k_ U2 ?_;refine Ve 3 U ?_;refine VI (((n+k:Nat):Int)) U4 om_ om_ om_ U2 ?_;refine Ve 2 U ?_;refine Vx (fun _=>(eK _ (sG q) (RD (bd (BZ q) dc_) dc_))) U9 ?_;refine VD ((k / es.length*bp B+(edg es k).1)) U10 (fun _=>⟨by omega,by omega,(SL _).symm⟩) U2 ?_;refine VL A U ⟨?_, ?_,trivial⟩
    ·refine Vb (bkT aB 1) U8 ?_;refine VI (((k / es.length*bp B+(edg es k).2:Nat):Int)) U4 om_ om_ om_ U2 ?_;refine VG (j:=0) U11 ap ?_;rw[fy ap];refine VD ((k / es.length*bp B+(edg es k).2)) U10 (fun _=>⟨by omega,by omega,(SL _).symm⟩) U2 ?_;refine VG (j:=0) U11 ap ?_;rw[fy ap];refine VD ((n+k)) U10 (fun _=>⟨by omega,by omega,(SL _).symm⟩) U2 ?_;refine VG (j:=0) U11 ap ?_;refine Vf [2,4,6,7,8,12,13,14,17,95,96,110,111,112] c U ?_;clear c d A R;rw[aW,fy ap];exact Vp 0 mup (hn_ [2,4,6,7,8,12,13,14,17,95,96,110,111,112] U) ⟨trivial,U,U⟩
    refine VG (j:=0) U11 ap ?_;refine Vb (bkT aB 1) U8 ?_;refine VI (((k / es.length*bp B+(edg es k).2:Nat):Int)) U4 om_ om_ om_ U2 ?_;rw[fy ap];refine VD ((k / es.length*bp B+(edg es k).2)) U10 (fun _=>⟨by omega,by omega,(SL _).symm⟩) U2 ?_;refine VG (j:=0) U11 ap ?_;rw[fy ap];refine VD ((n+k)) U10 (fun _=>⟨by omega,by omega,(SL _).symm⟩) U2 ?_;refine VG (j:=0) U11 ap ?_;refine Vf [2,4,6,7,8,12,13,14,17,95,96,110,111,112] c U ?_;clear c d A R;rw[aW,fy ap];exact Vp 0 mup (hn_ [2,4,6,7,8,12,13,14,17,95,96,110,111,112] U) ⟨trivial,U,U⟩
   obtain⟨_,rfl,rfl⟩:=H;rw[<- uk];refine G.freezeArr 0 ((rgF (n+a) n (bp B) es.length k (edg es k) (sG q)).map aQ) U U bS (by rw[au,zH]) (fun _ _ bD=>?_);refine Va 1 U fun R c=>?_;refine Vj ac U9 ?_;refine Vc U6 ?_;refine Vu [s_ bz (n+a) (n+a),ae [48]] U8 ?_;refine Vy [[s_ bz (n+a) (n+a),ae [48]]] U12 (fun cm _ _ bF=>?_);refine VF (j:=0) U11 bF.m_ U ax (by simp only[Rp];omega) fl_ (fun aE aF aG=>?_);refine Vc U6 ?_;refine Vk (j:=2) U12 ?_;refine Vf [2,4,6,7,8,12,13,14,95,96,110,111,112] c U ?_;clear c R;refine Vd fun R c=>?_;refine Vh _ U U6 ?_;refine C6 1 [2,4,6,7,8,12,13,14,95,96,110,111,112] c U ?_;clear c R;have aX:rows.map (fw a)++(rgL (n+a) n (bp B) es k++(rgK (n+a) n (bp B) es k).take (q+1))=(rows.map (fw a)++(rgL (n+a) n (bp B) es k++(rgK (n+a) n (bp B) es k).take q))++[⟨rgF (n+a) n (bp B) es.length k (edg es k) (sG q),0⟩]:=by rw[J1 an];simp only[R0]
   have bG:(aC us (rows.map (fw a)++(rgL (n+a) n (bp B) es k++(rgK (n+a) n (bp B) es k).take q))).flatten++[[s_ bz (n+a) (n+a),ae [48]]].flatten=(aC (us++[s_ bz (n+a) (n+a)]) (rows.map (fw a)++(rgL (n+a) n (bp B) es k++(rgK (n+a) n (bp B) es k).take (q+1)))).flatten:=by
    rw[aX,eJ ab.1,R4,J6]
   refine G.perm (L':=[.arr (sR7 aE aF aG) 140 2 (rows.length+2*k+(q+1)) (aC (us++[s_ bz (n+a) (n+a)]) (rows.map (fw a)++(rgL (n+a) n (bp B) es k++(rgK (n+a) n (bp B) es k).take (q+1)))).flatten,.arr (sF7 e o p) 32 1 (n+a) ((nA n a).map aQ).flatten,.obj y (.cells ⟨[i_ (n+a:Nat),.slice aE aF aG,.slice e o p]⟩ 74 (0,0)),.obj v (.cells ⟨[i_ 0,.slice none 0 0,.slice none 0 0]⟩ 74 (0,0))]) (by rw[<- bG];(exact pkL [1,1,0,0] U)) ?_;refine Vn (m':=2-(q+1)) om_ mup (hn_ [2,4,6,7,8,12,13,14,95,96,110,111,112] U) ⟨q+1,aE,aF,aG,us++[s_ bz (n+a) (n+a)],⟨by omega,by rw[aX];exact zD (RowsOk.m_ ab) bD.m_⟩,U,U,U⟩
  have an:q=2:=by
   have:=Rt aD;omega
  subst an;refine Vd fun R c=>?_;refine Vh _ U U6 ?_;refine C6 1 [2,4,6,7,8,95,96] c U ?_;clear c R;rw[show(rgK (n+a) n (bp B) es k).take 2=rgK (n+a) n (bp B) es k from rfl,<- Cc]at ab⊢;refine Vn (m':=a-(k+1)) om_ mup (hn_ [2,4,6,7,8,95,96] U) ⟨k+1,s,n1,t,us,⟨by omega,RowsOk.mono ab mup⟩,U,U,U⟩
 obtain rfl:a=k:=by
  have:=Rt aA;omega
 refine Vd fun R c=>?_;refine Vj ac U9 ?_;refine Vk (j:=3) U12 ?_;refine C6 1 [2,3] c U ?_;clear c R;refine G.freezeArr 1 (aC us (rows.map (fw a)++rgL (n+a) n (bp B) es a)) U U (bQ _ _) (by rw[bE az.1,Ru,au,zG]) (fun Cf al J=>?_);refine G.freezeArr 1 ((nA n a).map aQ) U U bS (by rw[au,Cb]) (fun Cg cn bH=>?_);refine Vo (WJ ag U U U U U ?_);refine⟨U,es,_,U,aq,_,_,_,_,_,_,by rw[ad];rfl, ?_, ?_⟩
 ·rw[ad];exact oP (RowsOk.m_ az) J.m_
 rw[ad];exact bH
theorem D1 {p:Lp.Sys}{c:Nat->Rat}{D:Mem}(h:SolO p c D u):∃ (kd:Int)(val:Str)(a:Option Addr)(n1 b:Nat)(A2:Option Addr)(n2 c2:Nat)(d:Option Addr)(e f:Nat),u=.agg ⟨[i_ kd,ae val,.slice a n1 b,.slice A2 n2 c2,.slice d e f]⟩ /\
  ((kd=1/\∃ v pt du,val=qtx v/\Lp.OptR p c 20 v pt du/\n1=p.n/\Sl D 1 (.slice a n1 b) (((List.range p.n).map pt).map aQ)/\Sl D 1 (.slice A2 n2 c2) (((List.range p.m).map du).map aQ))∨(kd≠1/\(¬ p.Hold∨∃ pt ra,Lp.UnbR p c 20 pt ra))):=by
 cases h with
|opt v pt du g i j h1 h2 =>
  obtain⟨a,b,rfl,_⟩:=id h1;obtain⟨A2,c2,rfl,_⟩:=id h2;exact⟨_,_,_,_,_,_,_,_,_,_,_,U,.inl ⟨U,v,pt,du,U,j,by simp,h1,h2⟩⟩
|inf du i k h1 =>
  obtain⟨A2,c2,rfl,_⟩:=id h1;exact⟨_,_,_,_,_,_,_,_,_,_,_,U,.inr ⟨by decide,.inl k.not⟩⟩
|unb pt ra g o l h1 h2 =>
  obtain⟨a,b,rfl,_⟩:=id h1;obtain⟨A2,c2,rfl,_⟩:=id h2;exact⟨_,_,_,_,_,_,_,_,_,_,_,U,.inr ⟨by decide,.inr ⟨pt,ra,l⟩⟩⟩
abbrev O6 (B:Bk)(RO:Nat->List RowQ)(es:List (Nat × Nat)):Lp.Sys:=bZ (bs B*bp B+bs B*es.length) (eg (zE (dz B RO) (bs B*bp B) (bp B) es (bs B*es.length)))
abbrev objR (B:Bk)(es:List (Nat × Nat))(j:Nat):Rat:=(nA (bs B*bp B) (bs B*es.length)).getD j 0
inductive FlatO (B:Bk) (RO:Nat->List RowQ) (es:List (Nat × Nat)) (D:Mem):Value->Prop where
|opt (v:Rat) (pt du:Nat->Rat) (fv dv:Value):Lp.OptR (O6 B RO es) (objR B es) 20 v pt du->FieldsIn D fv (iZ (bs B) (bp B) pt)->Sl D 1 dv (((List.range (O6 B RO es).m).map du).map aQ)->FlatO B RO es D (.tuple #[.agg ⟨[fv,ae (qtx v),dv]⟩,.int .i64 0])
|inf:¬ (O6 B RO es).Hold->FlatO B RO es D (.tuple #[.agg ⟨[.slice none 0 0,ae [],.slice none 0 0]⟩,.int .i64 22])
theorem Calm.rl {B:Bk}{c:List Rat}{a:Nat->List RowQ}(h:Calm B c a):∀ r∈dz B a,r.f.length=bs B*bp B:=fun r hr=>(h.rowsQ (de B.obs.length)).l (r.f,r.b) (Rs.2 ⟨r,hr,rfl⟩)
theorem PP (h:∀ r∈rows,r.f.length=s*p):∀ r∈zE rows (s*p) p es (s*es.length),r.f.length=s*p+s*es.length:=by
 intro r hr;rcases RF.1 hr with hr|hr
 ·obtain⟨x,a,rfl⟩:=Rs.1 hr;show(x.f++List.replicate _ 0).length=_;rw[Ru,RX,h x a]
 obtain⟨k,_,hr⟩:=List.mem_flatMap.1 hr;rcases RC.1 hr with rfl|hr
 ·exact zH _ _ _ _ _ _ _
 rw[RK.1 hr];exact zH _ _ _ _ _ _ _
theorem lV (h:∀ r∈rows,RowI r):∀ r∈eg rows,(∀ x∈r.1,QB 22 x)/\QB 22 r.2 :=
 lU (P:=fun r=>(∀ x∈r.1,QB 22 x)/\QB 22 r.2) fun r hr=>⟨fun x a=>((h r hr).q.1 x a).le dc_,(h r hr).q.2.le dc_⟩
theorem PI (h:∀ r∈rows,RowI r)(a:∀ r∈rows,r.f.length=n)(b:rows.length<=150):RowsQ n (eg rows) :=
 ⟨lU (P:=fun r=>r.1.length=n) a,fun r hr=>⟨fun x c=>((lV h r hr).1 x c).le dc_,(lV h r hr).2.le dc_⟩,by rw[eg,au];exact b⟩
theorem Nx (h b:Nat):∀ x∈nA h b,QB 22 x:=fun x a=>by
 rcases RF.1 a with a|a
 ·rw[(List.mem_replicate.1 a).2];exact QB_zero.le dc_
 rw[(List.mem_replicate.1 a).2];decide +kernel
theorem Ef {m:Nat}(h:n<=m):(((List.range m).map pt).map qtx).take n=((List.range n).map pt).map qtx:=by
 rw[<- TG,<- TG,List.take_range,Sp h]
theorem KQ (C:Mem)(e:Tabs C)(f:Value)(B:Bk)(y:List Rat)(b:Nat->List RowQ)(c:BookIn C f B)(h:Calm B y b)(z:bp B<=6)(A:bs B<=2)(W:∀ es,EdgL B.tris es->bs B*bp B+bs B*es.length<=12) :
  Pur cx.P 42 [f] C fun u D=>∃ es,EdgL B.tris es/\FlatO B b es D u:=by
 have E:=c;have F:=h.rich.good;have H:=h.rich.bookz e c;have X:=h.cnt (de B.obs.length);have az:=h.n12;have Y:∀ D:Mem,C.le D->Gives cx.P 92 [f] D (.tuple #[i_ (bs B*bp B:Nat),i_ 0]):=fun D Z=>by
  have h:=AJ D f B 0 (H.mono Z) om_;rw[aM rfl]at h;exact h
 obtain⟨v1,v2,tv,cv,ov,rfl,h1,h2,h3,h4,h5⟩:=id c.ex;have aA:=mx_
 refine Vi func42 59 U3 fun w0=>Vd fun R a=>Vs U6 fun b1=>Vt U5 fun b2=>C6 1 [1,2] a U<|G.freeze 1 U fun _ _ o=>Vd fun R a=>Vb (bkT o 5) U8<|VJ (JY _ e.m_ _ B y b E.m_ h z A) U7 (fun aB _ _ aa=>?_);obtain⟨es,x,rfl,d,A1,n1,c1,A2,n2,c2,rfl,ab,ac⟩:=aa;have ad:=W es d;have af:=PP (es:=es) h.rl;have I:=PQ (s:=bs B) (p:=bp B) (es:=es) (h.rowI (de B.obs.length));obtain⟨ah,_⟩:=d.le F.ok.ins z;have aC:bs B*es.length<=30:=SJ A ah;have ai:(zE (dz B b) (bs B*bp B) (bp B) es (bs B*es.length)).length<=150:=by
  rw[J0];have:(dz B b).length<=120:=X;omega
 have aj:=d.ok (n:=bp B) F.ok.ins (bs B);refine Ve 3 U<|Vt U5 fun b4=>Vk (j:=0) U12<|C6 1 [1,2,4,5] a U<|U1 2 [1,2,4,5,15] U<|G.cd (fun J=>?_) fun J=>?_
 ·exact absurd J dc_
 refine G.freeze 0 U fun _ _ al=>Vd fun R a=>Vb (bkT al 3) U8<|VC (GI _ e.m_ (bs B*bp B+bs B*es.length) _ _ (eg (zE (dz B b) (bs B*bp B) (bp B) es (bs B*es.length))) (nA (bs B*bp B) (bs B*es.length)) ab.m_ ac.m_ (PI I af ai) (Nx _ _) (lV I) om_ (Cb _ _) (Nv ad (h.rowI (de B.obs.length)))) U7 fl_ (fun aD _ _ am=>?_);obtain⟨rr,rfl,an⟩:=am;obtain⟨kd,val,Ap,K,g,L,nd,cd,Ar,nr,cr,rfl,M⟩:=D1 an;refine Ve 3 U<|Vt U5 fun b6=>Vk (j:=0) U12<|C6 1 [1,2,5,6] a U<|G.freeze 0 U fun _ _ i=>U1 2 [1,2,5,6,24] U<|G.cd (fun N=>?_) fun N=>?_
 ·exact absurd N dc_
 refine Va 1 U fun R a=>Vb (bkT i 1) U8<|C6 1 [1,2,6,29] a U<|G.cd (fun q=>?_) fun q=>?_
 ·have r:kd≠1:=by simpa using q
  have ao:¬ (O6 B b es).Hold:=by
   rcases M with⟨h,_⟩|⟨_,h|⟨pt,ra,hu⟩⟩
   ·exact absurd h r
   ·exact h
   exact(Nu aj h.rl hu).elim
  refine Vd fun R a=>Vu ([.slice none 0 0,ae [],.slice none 0 0]) U8<|Vk (j:=0) U12<|C6 1 [2,3] a U<|Vo (WJ ag U U U U U ?_);exact⟨U,es,d,.inf ao⟩
 have r:kd=1:=by simpa using q
 obtain⟨v,pt,du,rfl,t,rfl,w,aq⟩:∃ v pt du,val=qtx v/\Lp.OptR (O6 B b es) (objR B es) 20 v pt du/\K=bs B*bp B+bs B*es.length/\Sl _ 1 (.slice Ap K g) (((List.range (bs B*bp B+bs B*es.length)).map pt).map aQ)/\Sl _ 1 (.slice L nd cd) (((List.range (O6 B b es).m).map du).map aQ):=by
  rcases M with⟨_,h⟩|⟨h,_⟩
  ·exact h
  exact absurd r h
 have O:=yq (s:=bs B) (p:=bp B) t.qp;have ar:bs B*bp B<=bs B*bp B+bs B*es.length:=Nat.le_add_right _ _;rw[AE]at w;have aE:bs B*bp B+bs B*es.length<=g:=by
  obtain⟨A',c',Q,av,_⟩:=id w;simp only[Value.slice.injEq]at Q;obtain⟨_,aF,aG⟩:=Q;simp only[au,SI]at av;omega
 have S:=w.sub (l:=0) (h:=bs B*bp B) (m:=g) (Rv _) ak om_ (Ro _);rw[SE,<- TG,Ef ar]at S;refine Vd fun R a=>Vb (bkT o 5) U8<|Vl (Y _ mup) U7<|C6 5 [1,2,5,6,7] a U<|U1 2 [1,2,5,6,7,37] U<|G.cd (fun T=>?_) fun T=>?_
 ·exact absurd T dc_
 refine Vv [0,1,2,3,4,5,6,7,8,9,10] [] U kr_ fun R c a=>Vb (bkT o 5) U8<|Vc U6<|Vb (bkT i 1) U8<|Vc U6<|VV 0 (bs B*bp B) g U12 (fun _=>⟨.inl ⟨U,U⟩,.inr ⟨_,U⟩,.inl ⟨U,U⟩,by omega,by omega,Ro _⟩) U2<|VC (yv _ e.m_ _ _ B (((List.range (bs B*bp B)).map pt).map qtx) E.m_ H.m_ om_ S.m_ (xw t.qp) ap) U7 fl_ (fun aH _ _ aw=>?_);obtain⟨fv,rfl,k⟩:=aw;rw[O,aM rfl]at k;rw[O];obtain⟨ax,aI,aJ,ay⟩:=id k;obtain⟨Af,cf,rfl,_⟩:=id ay;rw[au]at k⊢;refine Ve 5 U<|Vf [2,5,6,8] a U ?_;clear a c R;refine U1 2 [2,5,6,8,50] U<|G.cd (fun V=>?_) fun V=>?_
 ·exact absurd V dc_
 refine Va 2 U fun R a=>Vb (bkT i 1) U8<|Vc U6<|Vb (bkT i 1) U8<|Vu [.slice Af ax.length cf,ae (qtx v),.slice L nd cd] U8<|Vk (j:=0) U12<|C6 1 [2,3] a U<|Vo (WJ ag U U U U U ?_);exact⟨U,es,d,.opt v pt du _ _ t k.m_ aq.m_⟩
def RowsIn6 (D:Mem)(v:Value)(rows:List RowQ):Prop:=∃ vs,RowsOk D vs rows/\Sl D 2 v (aC vs rows)
theorem RowsIn6.mono {C D:Mem}{v:Value}{a:List RowQ}(h:RowsIn6 C v a)(b:C.le D):RowsIn6 D v a:=by
 obtain⟨vs,h1,h2⟩:=h;exact⟨vs,RowsOk.mono h1 b,h2.mono b⟩
theorem RowsIn6.m_ {D:Mem}(h:RowsIn6 C v rows)(a:C.le D:=by exact mup):RowsIn6 D v rows:=RowsIn6.mono h a
abbrev sL6 (A:Option Addr)(n c:Nat):Value:=.slice A n c
theorem xZ (C:Mem)(M:Tabs C)(d:Value)(B:Bk)(A:List Rat)(c:Nat->List RowQ)(e:BookIn C d B)(h:Calm B A c) :
  Pur cx.P 13 [d] C fun u D=>∃ v,u=.tuple #[v,.bool true]/\RowsIn6 D v (dz B c):=by
 have aj:=e;have N:=h.cnt (de B.obs.length);have ak:=h.ob;obtain⟨l,g⟩:∃ l,bT (bJ B) c (List.range B.obs.length)=l:=⟨_,rfl⟩;have F:dz B c=l.map SrcQ.r:=by rw[<- Gh,g]
 have al:l.length<=120:=by
  have:=N;rw[show oD B c (List.range B.obs.length)=dz B c from rfl,F,au]at this;exact this
 have O:∀ D:Mem,C.le D->Pur cx.P 54 [d] D fun u E=>∃ v,u=.tuple #[v,i_ 0]/\Dx E v l:=fun D H=>by
  have:=IS D (M.mono H) d B A c (e.mono H) h.rich om_ (by rw[g];omega);rw[g]at this;exact this
 rw[F];obtain⟨v1,v2,tv,cv,ov,rfl,h1,h2,h3,h4,h5⟩:=id e.ex;have am:=mx_
 refine Vi func13 29 U3 fun w0=>Vd fun R a=>Vs U6 fun b1=>C6 2 [1] a U<|G.freeze 0 U fun _ _ Q=>Vd fun R a=>Vb (bkT Q 5) U8<|VJ (O _ mup) U7 (fun an _ _ S=>?_);obtain⟨wv,rfl,T⟩:=S;obtain⟨vs,k,n⟩:=T;have o:=jO k;obtain⟨V,W,rfl,X,ao,_⟩:=id n;have Y:(bW vs l).length=l.length:=by unfold bW;simp[o]
 rw[Y]at n X⊢;refine C6 5 [4,5] a U<|U1 1 [4,5,6] U<|U1 3 [5,6,14,15,16] U<|G.nilArr 140 2<|G.loop (fun fr C' I Z=>∃ (i:Nat)(p:Option Addr)(n1 q:Nat),(i<=l.length)/\fr=[(5,[],i_ 0),(6,[],.slice p n1 q),(14,[],.slice V l.length W),(15,[],i_ l.length),(16,[],i_ i)]/\I=[.arr (sL6 p n1 q) 140 2 i (prC (vs.take i) (l.take i)).flatten]/\Z=l.length-i) (hn_ [5,6,14,15,16] U) ⟨0,none,0,0,Rv _,U,U,U⟩ (fun fr ap aq m _ hI=>?_);obtain⟨i,p,n1,q,hi,rfl,rfl,rfl⟩:=hI;refine U1 1 [5,6,14,15,16,17] U<|G.cd (fun t=>?_) fun t=>?_
 ·have x:i<l.length:=by
   have:=QL t;omega
  obtain⟨s,y⟩:∃ s,l[i]?=some s:=⟨l[i],ai x⟩;obtain⟨w,z⟩:∃ w,vs[i]?=some w:=⟨vs[i]'om_,ai om_⟩;have aa:=k.2 i w s.r z (by rw[Rr,y];rfl);obtain⟨Ax,ab,rfl,_⟩:=id aa;have ac:=Cu o z y;refine Vd fun R a=>Vq n.m_ U10 om_ (L3 z y) fl_ fun ar ad=>Vb ad U8<|Vt U5 fun b8=>Vk (j:=0) U12<|Vf [5,6,8,14,15,16] a U<|G.freeze 0 U fun _ _ af=>Va 2 U fun R a=>Vb (bkT af 2) U8<|Vy [[.slice Ax (s.r.f.map dJ).length ab,ae (qtx s.r.b)]] U12 fun av _ _ ag=>VF (j:=0) U11 ag.m_ U ax (by show(i+1)*40<=_;omega) fl_ fun J K L=>C6 1 [5,6,14,15,16] a U<|Vd fun R a=>Vh _ U U6<|C6 1 [5,6,14,15,16] a U<|Vr (L':=[.arr (sL6 J K L) 140 2 (i+1) (prC (vs.take (i+1)) (l.take (i+1))).flatten]) (by rw[ac,R4];rfl)<|Vn (m':=l.length-(i+1)) om_ mup (hn_ [5,6,14,15,16] U) ⟨i+1,J,K,L,om_,U,U,U⟩
 have x:i=l.length:=by
  have:=Rt t;omega
 subst x;refine U1 5 [2,3] U ?_;rw[RN (show vs.length<=l.length by omega),Rz];refine G.freezeArr 0 (prC vs l) U U (NO _ _) (by rw[prC,bE (by simp[o]),au]) fun Cf aw ah=>Vo (G.dropAll (VA U3 ?_));exact⟨U,_,U,vs,RowsOk.mono k mup,ah⟩
theorem Is (C:Mem)(b:Value)(B:Bk)(d:BookIn C b B)(g:bs B+1=B.col.length)(h:bs B*bp B<=1000):Gives cx.P 17 [b] C (i_ (bs B*bp B:Nat)):=by
 obtain⟨i,j,k,l,m,rfl,h1,h2,h3,h4,h5⟩:=id d.ex;obtain⟨n,o,rfl,e,_⟩:=id h1;obtain⟨p,q,rfl,f,_⟩:=id h4;have r:=mx_
 simp only[au]at e f⊢;exact Vi func17 12 U3 fun w0=>Vd fun R a=>Vs U6 fun s=>C6 1 [1] a U<|G.freeze 0 U fun _ _ c=>Va 1 U fun R a=>Vb (bkT c 1) U8<|Vc U6<|VI (((bs B:Nat):Int)) U4 om_ om_ om_ U2<|Ve 2 U<|Vb (bkT c 1) U8<|Vc U6<|Vh (((bs B*bp B:Nat):Int)) (RW _ _) U6<|C6 1 [2] a U<|Vg U2<|⟨U,U⟩
theorem KT (C:Mem)(n:Nat)(j:n<=1000000):Jog.Fn cx.P 151 [.slice none 0 0,i_ n] C [] fun u _ h=>∃ A n2 c,u=.slice A n2 c/\h=[.arr u 32 1 0 []]:=by
 have k:=mx_
 refine Vi func151 27 U3 fun w0=>U1 1 [0,1] U<|U1 2 [0,1,6] U<|G.cd (fun d=>?_) fun d=>?_
 ·simp at d;omega
 refine Va 2 U fun R a=>Wo U9<|Ve 2 U<|Vh _ U U6<|Vh _ U U6<|C6 1 [0,1] a U<|U1 2 [0,1,16] U<|G.cd (fun f=>?_) fun f=>?_
 ·have i:0<n:=by
   simp at f;omega
  refine Va 2 U fun R a=>Wo U9<|VV 0 0 0 U12 (fun _=>⟨.inl ⟨U,U⟩,.inr ⟨_,U⟩,.inl ⟨U,U⟩,Ro _,Ro _,Ro _⟩) U2<|Vc U6<|WP (m:=n) U12 i (by show n*16<=_;omega) y_ fl_ fun b g l=>Ve 2 U<|VV 0 0 g U12 (fun _=>⟨.inl ⟨U,U⟩,.inr ⟨_,U⟩,.inl ⟨U,U⟩,Ro _,Rv _,Ro _⟩) U2<|C6 1 [0] a U<|U1 2 [4] U<|W9 0 0 U (Rv _)<|Vo (VM U U ?_);refine⟨_,_,_,U, ?_⟩;have e:(if g=0 then some (⟨b,0,none⟩:Addr) else (some (⟨b,0,none⟩:Addr)).map (·.add (0*1)))=some ⟨b,0,none⟩:=by
   split
   ·rfl
   simp[Addr.add_lit]
  rw[e];simp
 refine U1 2 [4] U<|G.nilArr 32 1<|Vo (VM U U ?_);exact⟨none,0,0,U,U⟩
theorem EV (C:Mem)(v:Value)(a:List (Value × List Rat))(h:Sl C 1 v (a.map yw))(B:∀ x∈a,Sl C 1 x.1 (x.2.map aQ))(K:(gC a).length<=1000000) :
  Jog.Fn cx.P 85 [v] C [] fun u _ e=>∃ A n2 c,u=.slice A n2 c/\e=[.arr u 32 1 (gC a).length ((gC a).map aQ).flatten]:=by
 obtain⟨p,c0,rfl,L,Z,_⟩:=id h;have aa:=mx_
 simp only[au]at h L⊢;refine Vi func85 36 U3 fun w0=>U1 1 [0] U<|U1 1 [0,3] U<|U1 3 [0,3,9,10,11] U<|G.loop (fun fr M e q=>∃ (i:Nat)(z:Int),(i<=a.length/\z=(gC (a.take i)).length)/\fr=[(0,[],.slice p a.length c0),(3,[],i_ z),(9,[],.slice p a.length c0),(10,[],i_ a.length),(11,[],i_ i)]/\e=[]/\q=a.length-i) (hn_ [0,3,9,10,11] U) ⟨0,0,⟨Rv _,U⟩,U,U,U⟩ (fun fr ab ac m _ r=>?_);obtain⟨i,z,⟨hi,s⟩,rfl,rfl,rfl⟩:=r;refine U1 1 [0,3,9,10,11,12] U<|G.cd (fun t=>?_) fun t=>?_
 ·have f:i<a.length:=by
   have:=QL t;omega
  obtain⟨x,d⟩:∃ x,a[i]?=some x:=⟨a[i],ai f⟩;have g:=B x (aU d);obtain⟨w,l⟩:=x;simp only at g;obtain⟨Ax,ad,rfl,N,af,_⟩:=id g;simp only[au]at g N d;have k:=mU d;have E:=vM a (i+1);have O:(gC (a.take (i+1))).length=(gC (a.take i)).length+l.length:=by rw[k,Ru]
  refine Vd fun R b=>Vq h.m_ U10 om_ (show(a.map yw)[i]?=some [_] from eX d) fl_ fun ag Q=>Vb Q U8<|C6 1 [0,3,5,9,10,11] b U<|Va 3 U fun R b=>Vh _ U U6<|C6 1 [0,3,9,10,11] b U<|U1 2 [0,3,9,10,11,20] U<|G.cd (fun F=>?_) fun F=>?_
  ·exfalso;have ah:=QL F;omega
  refine Vd fun R b=>Vh _ U U6<|C6 1 [0,3,9,10,11] b U<|Vn (m':=a.length-(i+1)) om_ mup (hn_ [0,3,9,10,11] U) ⟨i+1,_,⟨by omega,by rw[s];omega⟩,U,U,U⟩
 have f:i=a.length:=by
  have:=Rt t;omega
 rw[f,Rz]at s;subst s;refine VB [(1,3)] U fun R b=>Vc U6<|D.call (KT _ (gC a).length K) U (.inr dc_) U6 (Rw _) fl_ (fun aj _ ak _ S=>?_);obtain⟨T,V,W,rfl,rfl⟩:=S;refine C6 1 [0,6] b U<|U1 3 [6,25,26,27] U<|G.loop (fun fr M e q=>∃ (i:Nat)(n:Option Addr)(n1 o:Nat),(i<=a.length)/\fr=[(6,[],.slice n n1 o),(25,[],.slice p a.length c0),(26,[],i_ a.length),(27,[],i_ i)]/\e=[.arr (.slice n n1 o) 32 1 (gC (a.take i)).length ((gC (a.take i)).map aQ).flatten]/\q=a.length-i) (hn_ [6,25,26,27] U) ⟨0,T,V,W,Rv _,U,U,U⟩ (fun fr al am m E r=>?_);obtain⟨i,n,n1,o,an,rfl,rfl,rfl⟩:=r;refine U1 1 [6,25,26,27,28] U<|G.cd (fun y=>?_) fun y=>?_
 ·have f:i<a.length:=by
   have:=QL y;omega
  obtain⟨x,d⟩:∃ x,a[i]?=some x:=⟨a[i],ai f⟩;have g:=B x (aU d);have k:=mU d;have E:=vM a (i+1);have O:(gC (a.take (i+1))).length=(gC (a.take i)).length+x.2.length:=by rw[k,Ru]
  refine Vd fun R b=>Vq h.m_ U10 om_ (show(a.map yw)[i]?=some [x.1] from eX d) fl_ fun ao X=>Vb X U8<|C6 1 [6,8,25,26,27] b U<|Va 2 U fun R b=>VF (j:=0) U11 g.m_ (by simp[aQ,lG,ae]) (by simp only[au,maxLen];omega) (by show((gC (a.take i)).length+(x.2.map aQ).length)*16<=_;rw[au];omega) fl_ fun H I J=>C6 1 [6,25,26,27] b U<|Vd fun R b=>Vh _ U U6<|C6 1 [6,25,26,27] b U<|Vr (L':=[.arr (.slice H I J) 32 1 (gC (a.take (i+1))).length ((gC (a.take (i+1))).map aQ).flatten]) (by rw[k,R3,R4,Ru,au];rfl)<|Vn (m':=a.length-(i+1)) om_ mup (hn_ [6,25,26,27] U) ⟨i+1,H,I,J,om_,U,U,U⟩
 have Y:i=a.length:=by
  have:=Rt y;omega
 refine U1 2 [2] U<|Vo (VM U U ?_);exact⟨n,n1,o,U,by rw[Y,Rz]⟩
theorem zN (C:Mem)(g:Tabs C)(v:Value)(l:List Str)(a:Sl C 1 v (l.map oF))(t:l.length<=100000)(h:∀ s∈l,s.length<=999998)(j:∀ s∈l,aR s=true):Gives cx.P 86 [v] C (.bool true):=by
 obtain⟨k,c0,rfl,_⟩:=id a;simp only[au]at a⊢;refine Vi func86 16 U3 fun w0=>U1 1 [0] U<|U1 1 [0,3] U<|G.loop (fun fr u n o=>∃ (i:Nat),(i<=l.length)/\fr=[(0,[],.slice k l.length c0),(3,[],i_ i)]/\n=[]/\o=l.length-i) (hn_ [0,3] U) ⟨0,Rv _,U,U,U⟩ (fun fr w x m _ p=>?_);obtain⟨i,y,rfl,rfl,rfl⟩:=p;refine U1 4 [0,3,7] U<|G.cd (fun d=>?_) fun d=>?_
 ·have q:i<l.length:=by
   have:=QL d;omega
  obtain⟨s,e⟩:∃ s,l[i]?=some s:=⟨l[i],ai q⟩;have f:=aU e;refine Va 2 U fun R b=>Vq a.m_ U10 om_ (by rw[Rr,e];rfl:(l.map oF)[i]?=some (oF s)) fl_ fun z r=>Vb r U8<|Vl (Gl _ g.m_ s (h s f)) U7<|C6 1 [0,3,15] b U<|G.cd (fun c=>?_) fun c=>?_
  ·rw[j s f]at c;exact absurd c dc_
  refine Va 1 U fun R b=>Vh _ U U6<|C6 1 [0,3] b U<|Vn (m':=l.length-(i+1)) om_ mup (hn_ [0,3] U) ⟨i+1,om_,U,U,U⟩
 exact U1 1 [2] U<|Vg U2<|⟨U,U⟩
theorem KH (C:Mem)(h:Tabs C)(j k:Value)(a b:List Rat)(d:Sl C 1 j (a.map aQ))(e:Sl C 1 k (b.map aQ))(B:b.length=a.length)(D:a.length<=1000)(l:∀ x∈a,QB 1 x)(n:∀ x∈b,QB 22 x)(p:∀ i,i<=a.length->QB 40 (lB a b i)) :
  Gives cx.P 89 [j,k] C (ae (qtx (lB a b a.length))):=by
 obtain⟨q,r,rfl,_⟩:=id d;obtain⟨A2,c2,rfl,_⟩:=id e;simp only[au]at d e⊢;refine Vi func89 25 U3 fun w0=>U1 1 [0,1] U<|U1 1 [0,1,5] U<|U1 1 [0,1,5,6] U ?_;have s:Value.string ⟨#[48]⟩=ae (qtx (lB a b 0)):=by
  show _=ae (qtx 0);rw[J6];rfl
 rw[s];refine G.loop (fun fr E t u=>∃ (i:Nat),(i<=a.length)/\fr=[(0,[],.slice q a.length r),(1,[],.slice A2 b.length c2),(5,[],ae (qtx (lB a b i))),(6,[],i_ i)]/\t=[]/\u=a.length-i) (hn_ [0,1,5,6] U) ⟨0,Rv _,U,U,U⟩ (fun fr F H m _ v=>?_);obtain⟨i,I,rfl,rfl,rfl⟩:=v;refine U1 4 [0,1,5,6,10] U<|G.cd (fun f=>?_) fun f=>?_
 ·have o:i<a.length:=by
   have:=QL f;omega
  obtain⟨x,c⟩:∃ x,a[i]?=some x:=⟨a[i]'om_,ai om_⟩;obtain⟨y,hy⟩:∃ y,b[i]?=some y:=⟨b[i]'om_,ai om_⟩;have w:=yy c hy;refine Vv [0,1,2,3,4,5,6,7,8,9,10,11] [(9,1),(10,1)] U kr_ fun R J g=>Ve 3 U<|Vq d.m_ U10 om_ (by rw[Rr,c];rfl:(a.map aQ)[i]?=some (aQ x)) fl_ fun K z=>Vb z U8<|Ve 2 U<|Vq e.m_ U10 om_ (by rw[Rr,hy];rfl:(b.map aQ)[i]?=some (aQ y)) fl_ fun L A=>Vb A U8<|Vx (fun _=>(JZ _ h.m_ x y 22 dc_ dc_ ((l x (aU c)).le dc_) (n y (aU hy)))) U9<|Vx (fun _=>(Ck _ h.m_ (lB a b i) (x*y) 40 dc_ dc_ (p i om_) ((ld (l x (aU c)) (n y (aU hy))).le dc_))) U9<|C6 1 [0,1,5,6] g U<|Va 1 U fun R g=>Vh _ U U6<|C6 1 [0,1,5,6] g U ?_;rw[<- w];refine Vn (m':=a.length-(i+1)) om_ mup (hn_ [0,1,5,6] U) ⟨i+1,om_,U,U,U⟩
 have o:i=a.length:=by
  have:=Rt f;omega
 subst o;exact U1 2 [4] U<|Vg U2<|⟨U,U⟩
def wI (s p:Nat)(pt:Nat->Rat):List (List Rat):=(List.range s).map fun j=>(((List.range (s*p)).map pt).take ((j+1)*p)).drop (j*p)
theorem zq (s p:Nat)(a:Nat->Rat):(wI s p a).map (·.map qtx)=iZ s p a:=by
 unfold wI iZ chunks yH;rw[So];refine List.map_congr_left fun j _=>?_;show(List.drop _ (List.take _ _)).map qtx=_;rw[List.map_drop,TG]
theorem wH (p:Nat)(l:List Rat):∀ s,((List.range s).map fun j=>(l.take ((j+1)*p)).drop (j*p)).flatten=l.take (s*p)
|0=>by simp
|s+1=>by
  rw[SC,R3,R4,wH p l s,List.map_singleton,List.flatten_singleton];have e:l.take (s*p)=(l.take ((s+1)*p)).take (s*p):=by rw[Uk,Sp (Sa _ (TL s))]
  rw[e,Sm]
theorem sw (s p:Nat)(a:Nat->Rat):(wI s p a).flatten=(List.range (s*p)).map a:=by
 unfold wI;rw[wH,RN ak]
theorem Ov {a:List (List Rat)}(h:FieldsIn C v (a.map (·.map qtx))):∃ xs:List (Value × List Rat),xs.map (·.2)=a/\Sl C 1 v (xs.map yw)/\∀ x∈xs,Sl C 1 x.1 (x.2.map aQ):=by
 obtain⟨vs,h1,h2,h3⟩:=h;rw[au]at h1;refine⟨vs.zip a, ?_, ?_,fun x b=>?_⟩
 ·rw[<- List.unzip_snd,List.unzip_zip_right om_]
 ·have e:(vs.zip a).map yw=vs.map fun w=>[w]:=by
   conv=>rhs;rw[<- List.map_fst_zip (l₁:=vs) (l₂:=a) om_,So]
   rfl
  rw[e];exact h3
 obtain⟨i,c,rfl⟩:=List.mem_iff_getElem.1 b;rw[List.length_zip]at c;rw[List.getElem_zip];have:=h2 i vs[i] (a[i].map qtx) (ai om_) (by rw[Rr,ai om_];rfl);rw[AE];exact this
open Classical in
noncomputable def xH (n:Nat)(pt:Nat->Rat)(r:RowQ):Bool:=decide (r.b<Lp.sumN (fun j=>r.f.getD j 0*pt j) n)
theorem MF (a:i<=n):lB r.f ((List.range n).map pt) i=Lp.sumN (fun j=>r.f.getD j 0*pt j) i:=by
 unfold lB;refine Lp.sumN_congr fun j b=>?_;rw[am (l:=(List.range n).map pt),Rr,RY om_];rfl
theorem Ez (C:Mem)(h:Tabs C)(l m:Value)(b n k:Nat)(r:RowQ)(a:Nat->Rat)(u:C b=some (.cells ⟨[m]⟩ 41 (0,0)))(o:Sl C 1 l (r.f.map dJ))(c:Sl C 1 m (((List.range n).map a).map aQ))(d:RowI r)(e:r.f.length=n)(v:n<=1000)(B:k<=22)(w:Lp.CmD n k a)(y:∀ j,QB 22 (a j)) :
  Gives cx.P 88 [.agg ⟨[l,ae (qtx r.b)]⟩,p_ b] C (.bool (xH n a r)):=by
 obtain⟨D,c0,rfl,_⟩:=id o;obtain⟨E,F,rfl,_⟩:=id c;have p:∀ i,i<=n->QB 40 (lB r.f ((List.range n).map a) i):=fun i s=>by
  rw[MF s];exact(PN d w s v).le om_
 have z:∀ x∈(List.range n).map a,QB 22 x:=fun x c=>by
  obtain⟨j,_,rfl⟩:=Rs.1 c;exact y j
 have A:decide (nU (lB r.f ((List.range n).map a) n) r.b > 0)=xH n a r:=by
  rw[AR,MF (Ro n)];unfold xH;exact Sf.2 Iff.rfl
 exact Vi func88 12 U3 fun w0=>Vd fun R g=>Vs U6 fun H=>C6 1 [1,2] g U<|G.freeze 0 U fun _ _ t=>Vv [0,1,2,3,4,5,6,7,8] [(3,1),(6,1)] U kr_ fun R I g=>Vc U6<|Vb (bkT t 1) U8<|Vb (bkT u 1) U8<|Vx (fun _=>(KH _ h.m_ _ _ r.f ((List.range n).map a) o.m_ c.m_ ap om_ d.q.1 z (by rw[e];exact p))) U9<|Vc U6<|Vb (bkT t 1) U8<|Vx (fun _=>(xm _ h.m_ (lB r.f ((List.range n).map a) r.f.length) r.b 40 dc_ dc_ (by rw[e];exact p n (Ro n)) (d.q.2.le dc_))) U9<|C6 2 [3] g U<|Vg U2<|⟨by rw[e,A],U⟩
open Classical in
noncomputable def atB (p:Lp.Sys)(pt:Nat->Rat):Bool:=decide (p.At pt)
theorem IR {p:Lp.Sys}:atB p pt=true ↔ p.At pt:=by
 unfold atB;exact @decide_eq_true_iff _ (Classical.propDecidable _)
open Classical in
theorem LD :(!rows.any (xH n pt))=atB (bZ n (eg rows)) pt:=by
 unfold atB;by_cases h:(bZ n (eg rows)).At pt
 ·rw[RJ h,List.any_eq_false.2 fun r hr=>?_]
  ·rfl
  have:=gV.1 h r hr;unfold xH;rw[RU (Rat.not_lt.2 this)];decide
 rw[RU h];have:rows.any (xH n pt)=true:=by
  refine RT fun a=>h (gV.2 fun r hr=>Rat.not_lt.1 fun b=>a ?_);refine TX.2 ⟨r,hr, ?_⟩;unfold xH;exact RJ b
 rw[this];rfl
theorem Ey (C:Mem)(l:Tabs C)(m y:Value)(B:Bk)(z:List Rat)(g:Nat->List RowQ)(a:Nat->Rat)(k:Nat)(d:BookIn C m B)(h:Calm B z g)(c:FieldsIn C y (iZ (bs B) (bp B) a))(M:k<=22)(A:Lp.CmD (bs B*bp B) k a)(o:∀ j,QB 22 (a j)) :
  Gives cx.P 31 [m,y] C (.bool (atB (oA B g) a)):=by
 have E:=d;have N:=h.n12;have O:=h.rich.scol.1;have p:=fun(D:Mem)(e:C.le D)=>Is D m B (d.mono e) O om_;have Q:=de B.obs.length;rw[<- zq]at c;obtain⟨xs,F,r,S⟩:=Ov c;have t:gC xs=(List.range (bs B*bp B)).map a:=by unfold gC;rw[F,sw]
 have T:xs.length=bs B:=by rw[<- au (f:=(·.2)),F];unfold wI;simp
 obtain⟨As,cs,rfl,V,_⟩:=id r;simp only[au,T]at r V⊢;obtain⟨v1,v2,tv,cv,ov,rfl,h1,h2,h3,h4,h5⟩:=id d.ex;obtain⟨A4,c4,rfl,W,_⟩:=id h4;have X:(B.col.map vu).length=bs B+1:=by rw[au];omega
 simp only[X]at h4 W E p⊢;have ag:=mx_
 obtain⟨n,Y⟩:∃ n,bs B*bp B=n:=⟨_,rfl⟩;have H:=h.rl;have Z:=h.rowI Q;have I:∀ s∈((List.range (bs B*bp B)).map a).map qtx,aR s=true:=fun s c=>by
  obtain⟨q,u,rfl⟩:=Rs.1 c;obtain⟨j,_,rfl⟩:=Rs.1 u;exact bh (o j)
 have J:∀ s∈((List.range (bs B*bp B)).map a).map qtx,s.length<=999998:=fun s c=>by
  obtain⟨q,u,rfl⟩:=Rs.1 c;obtain⟨j,_,rfl⟩:=Rs.1 u;exact RD (bd (o j) dc_) dc_
 unfold oA;rw[Y]at I J p N t H A⊢;refine Vi func31 42 U3 fun w0=>Vd fun R b=>Vs U6 fun b2=>C6 1 [1,2] b U<|G.freeze 0 U fun _ _ v=>Vd fun R b=>Vb (bkT v 5) U8<|VJ (xZ _ l.m_ _ B z g E.m_ h) U7 (fun ah _ _ aa=>?_);obtain⟨lv,rfl,ab⟩:=aa;refine C6 5 [1,2,5,6] b U<|VB [(1,3)] U fun R b=>Vc U6<|D.call (EV _ _ xs r.m_ (fun x i=>(S x i).mono mup) (by rw[t];simp;omega)) U (.inr dc_) U6 (Rw _) fl_ (fun ai _ aj _ ac=>?_);obtain⟨Ax,nx,ad,rfl,rfl⟩:=ac;rw[t];refine Vt U5 fun K=>Vk (j:=0) U12<|Vf [1,2,5,6,7] b U<|WI af (fun A0 c0 ae _=>?_);obtain⟨rfl,rfl,rfl⟩:Ax=A0/\nx=((List.range n).map a).length/\ad=c0:=by cases ae;exact⟨rfl,rfl,rfl⟩
 refine G.freezeArr 1 (((List.range n).map a).map aQ) U U bS ak fun _ _ L=>G.freeze 0 U fun _ _ w=>Vv [0,1,2,3,4,5,6,7,8,9,10,11,12,13,14,15,16,17,18,19,20,21,22,23,24,25,26,27] [] U kr_ fun R d b=>Ve 5 U<|VE U6 (fun _=>PtrTo.blockT (Mem.get v mup) _ 1) U3<|Vc U6<|VI (((bs B:Nat):Int)) U4 om_ om_ om_ U2<|Vc U6<|Vz U8<|Vc U6<|VE U6 (fun _=>PtrTo.blockT (Mem.get w mup) _ 1) U3<|Vc U6<|VE U6 (fun _=>PtrTo.blockT (Mem.get v mup) _ 5) U3<|VK (fun _=>(p _ mup)) U9<|Vc U6<|Vz U8<|Vc U6<|VE U6 (fun _=>PtrTo.blockT (Mem.get w mup) _ 1) U3<|Vx (fun _=>(zN _ l.m_ _ (((List.range n).map a).map qtx) (by rw[<- mK];exact L.mono mup) ap J I)) U9<|Vz U8<|Ve 3 U<|Vx (fun _=>(oG _ _ (dz B g) 88 [p_ K] (xH n a) ab.m_ kr_ (fun x i D fv e hf=>Ez D (l.mono (Mem.le.trans mup e)) fv _ K n k x a (Mem.le.trans mup e _ _ w) hf (L.mono (Mem.le.trans mup e)) (Z x i) (H x i) om_ M A o))) U9<|Vc U6<|Vz U8<|Vc U6<|Vf [4] b U ?_;clear b d R;refine Vg U2<|⟨?_,U⟩;rw[<- LD];simp
theorem PJ (h:∀ r∈rows,RowI r):OX ((eg rows).map eA):=fun r hr=>by
 obtain⟨x,a,rfl⟩:=Rs.1 hr;obtain⟨h1,h2⟩:=lV h x a;refine⟨fun s hs=>?_,RD (bd h2 dc_) dc_⟩;obtain⟨q,b,rfl⟩:=Rs.1 hs;exact RD (bd (h1 q b) dc_) dc_
theorem Jj {a:List (List Rat × Rat)}:∀ i,(zh a ps n i).length=0 ↔ ∀ k,k<i->lB (a.getD k ([],0)).1 ps n<=(a.getD k ([],0)).2:=by
 intro i;induction i with
|zero=>exact⟨fun _ k b=>absurd b (Nat.not_lt_zero _),fun _=>rfl⟩
|succ i c =>
  unfold zh;by_cases h:(a.getD i ([],0)).2<lB (a.getD i ([],0)).1 ps n
  ·rw[aM h];refine⟨fun h2=>by simp at h2,fun h2=>?_⟩;have:=h2 i (Nat.lt_succ_self _);grind
  rw[aF h,c];refine⟨fun h2 k b=>?_,fun h2 k b=>h2 k om_⟩;rcases Nat.lt_or_eq_of_le (Nat.le_of_lt_succ b) with h3|h3
  ·exact h2 k h3
  rw[h3];grind
theorem LV :(zh (eg rows) ps n (eg rows).length).length=0 ↔ (bZ n (eg rows)).At fun j=>ps.getD j 0:=by
 rw[Jj];have hm:(eg rows).length=rows.length:=au _;exact⟨fun h r hr=>h r hr,fun h r hr=>h r hr⟩
open Classical in
noncomputable def KP (B:Bk)(RO:Nat->List RowQ)(ls:List (List Str))(ps:List Rat):Int:=if pB (bs B) (bp B) ls≠0 then pB (bs B) (bp B) ls else if (oA B RO).At (fun j=>ps.getD j 0) then 0 else 23
theorem DO {a:List (List Str)}(h:pB s p a=0){x:Str}(c:x∈a.flatten):aR x=true:=by
 unfold pB at h;split at h
 ·obtain⟨l,d,e⟩:=List.mem_flatten.1 c;obtain⟨j,b⟩:=SV d;have f:=(aJ.1 b).1;have h1:=iy h j f;rw[am,b]at h1;unfold nj at h1;split at h1
  ·rcases eN (l.all aR) with⟨_,h2⟩|⟨h2,_⟩
   ·exact RI.1 h2 x e
   have h3:oH (l.all aR)=0:=h1;rw[h2]at h3;cases h3
  cases h1
 cases h
def IX (B:Bk)(ls:List (List Str))(ps:List Rat):Prop:=pB (bs B) (bp B) ls=0->ls.flatten=ps.map qtx/\ps.length=bs B*bp B/\∀ x∈ps,QB 23 x
theorem Lo (b:n<=60)(c:rows.length<=300)(d:∀ r∈rows,r.f.length=n)(h:∀ r∈rows,RowI r){a:List Rat}(e:a.length=n)(g:∀ x∈a,QB 22 x):Fo n ((eg rows).map eA) (a.map qtx)=0 :=
 nV b (by rw[eg,au];exact c) (lU (P:=fun r=>r.1.length=n) d) (lV h) e g
theorem EE (C:Mem)(n:Tabs C)(r t u:Value)(B:Bk)(z:List Rat)(e:Nat->List RowQ)(b:List (List Str))(g:List Rat)(o:BookIn C r B)(h:Calm B z e)(D:Qy C (bs B*bp B) (dz B e) (List.replicate (bs B*bp B) 0) t)(f:FieldsIn C u b)(v:∀ l∈b,∀ x∈l,x.length<=999998)(E:b.length<=1000)(F:IX B b g) :
  Gives cx.P 90 [r,t,u] C (i_ (KP B e b g)):=by
 have H:=o;have I:=h.rich.good;have J:=h.rich.bookz n o;have af:=h.n12;have i:=de B.obs.length;have K:=h.cnt i;obtain⟨P1,m1,d1,P2,m2,d2,rfl,L,M⟩:=D;obtain⟨vs,_,_,N⟩:=id f;obtain⟨As,cs,rfl,_⟩:=id N;obtain⟨v1,v2,tv,cv,ov,rfl,h1,h2,h3,h4,h5⟩:=id o.ex;refine Vi func90 33 U3 fun w0=>?_;refine Vd fun R a=>?_;refine Vs U6 (fun b3=>?_);refine Vs U6 (fun b4=>?_);refine C6 1 [2,3,4] a U ?_;clear a R;refine G.freeze 1 U (fun _ _ O=>?_);refine G.freeze 0 U (fun _ _ Q=>?_);refine Vd fun R a=>?_;refine Vb (bkT O 5) U8 ?_;refine Vc U6 ?_;refine VC (so _ n.m_ _ _ B b H.m_ I J.m_ om_ f.m_ v E) U7 fl_ (fun ag _ _ S=>?_);obtain⟨T,rfl,p⟩:=S;obtain⟨Aw,mw,cw,rfl⟩:∃ A m c,T=Value.slice A m c:=by
  obtain⟨A,c,h,_⟩:=id p;exact⟨_,_,_,h⟩
 refine C6 5 [4,7,8] a U ?_;clear a R;refine U1 2 [4,7,8,17] U ?_;refine G.cd (fun q=>?_) fun q=>?_
 ·have d:pB (bs B) (bp B) b≠0:=by simpa using q
  refine U1 2 [6] U ?_;refine Vg U2 ?_;exact⟨by unfold KP;rw[aM d],U⟩
 have d:pB (bs B) (bp B) b=0:=by simpa using q
 obtain⟨w,V,W⟩:=F d;rw[aM d]at p;have y:gb (bs B*bp B:Nat) b.flatten=0:=kb.2 ⟨by rw[w,au,V],RI.2 fun s f=>DO d f⟩;refine Vd fun R a=>?_;refine Vb (bkT Q 3) U8 ?_;refine Vc U6 ?_;refine VC (zm _ n.m_ (bs B*bp B) _ _ _ (eg (dz B e)) b.flatten (List.replicate (bs B*bp B) 0) g L.m_ (by rw[<- mK];exact M.mono mup) (PJ (h.rowI i)) (h.rowsQ i) (Lo om_ (RD K dc_) h.rl (h.rowI i) RX (Gn _)) om_ (fun x X=>(Gn _ x X).le dc_) p.m_ (fun s f=>by
  obtain⟨l,Y,Z⟩:=List.mem_flatten.1 f;exact v l Y s Z) (fun _=>⟨w,W⟩)) U7 fl_ (fun ah _ _ aa=>?_)
 obtain⟨Av,mv,ai,rfl,ab⟩:=aa;have ac:=ab y;rw[y];refine C6 5 [8,9] a U ?_;clear a R;refine Va 6 U fun R a=>?_;refine Vz U8 ?_;refine Vf [8,31] a U ?_;clear a R;refine G.cd (fun k=>?_) fun k=>?_
 ·have ad:¬ (oA B e).At fun j=>g.getD j 0:=fun ha=>by
   have:=LV.2 ha;rw[ac,this]at k;exact absurd k dc_
  refine U1 1 [6] U ?_;refine Vg U2 ?_;exact⟨by unfold KP;rw[aF (fun h=>h d),aF ad],U⟩
 have ae:(oA B e).At fun j=>g.getD j 0:=LV.1 (by
  have:¬ 0<mv:=by simpa using k
  omega)
 refine U1 2 [6] U ?_;refine Vg U2 ?_;exact⟨by unfold KP;rw[aF (fun h=>h d),aM ae],U⟩
theorem yj (C:Mem)(f:Tabs C)(g i:Value)(B:Bk)(d:List Rat)(b:Nat->List RowQ)(a:List (List Str))(e:List Rat)(k:BookIn C g B)(h:Calm B d b)(m:FieldsIn C i a)(r:∀ l∈a,∀ x∈l,x.length<=999998)(s:a.length<=1000)(t:IX B a e) :
  Gives cx.P 32 [g,i] C (i_ (KP B b a e)):=by
 have n:=k;obtain⟨vs,_,_,u⟩:=id m;obtain⟨F,cs,rfl,_⟩:=id u;obtain⟨H,I,J,K,L,rfl,h1,h2,h3,h4,h5⟩:=id k.ex;refine Vi func32 19 U3 fun w0=>Vd fun R c=>Vs U6 fun M=>C6 1 [1,2] c U<|G.freeze 0 U fun _ _ o=>VB [(1,3)] U fun R c=>Vb (bkT o 5) U8<|D.call (iu _ f.m_ _ B d b n.m_ h) U (.inr dc_) U6 (Rw _) fl_ (fun N _ O _ v=>?_);obtain⟨Q,S,T,us,rfl,p,rfl⟩:=v;refine Ve 3 U<|Vt U5 fun V=>Vk (j:=0) U12<|C6 1 [1,2,5,6] c U<|U1 2 [1,2,5,6,13] U<|G.cd (fun q=>?_) fun q=>?_
 ·exact absurd q dc_
 refine G.freezeArr 1 (aC us (dz B b)) U U (bQ _ _) (by rw[bE p.1]) (fun _ _ w=>?_);rw[jU];refine G.freezeArr 1 ((List.replicate (bs B*bp B) (0:Rat)).map aQ) U U bS ak fun _ _ y=>G.freeze 0 U (fun z _ A=>?_);have E:=oP (RowsOk.m_ p) (w.mono mup:Sl z 2 _ _);exact Vd fun R c=>Vb (bkT o 5) U8<|Vb (bkT A 3) U8<|Vc U6<|Vl (EE _ f.m_ _ _ _ B d b a e n.m_ h ⟨_,_,_,_,_,_,U,E.mono mup,y.mono mup⟩ m.m_ r s t) U7<|C6 1 [4] c U<|Vg U2<|⟨U,U⟩
theorem gU (C:Mem)(a x y d:Str):Gives cx.P 56 [ae a,ae x,ae y,ae d] C (.agg ⟨[i_ 2,ae a,ae x,ae y,ae d,ae [66],ae [65],ae [],ae [],ae []]⟩):=by
 refine Vi func56 15 U3 fun w0=>Vd fun R b=>Vt U5 fun c=>Vf [0,1,2,3,8] b U<|Va 3 U fun R b=>Vu [ae x,ae y] U8<|Vc U6<|Vu [i_ 2,ae a,ae x,ae y,ae d,ae [66],ae [65],ae [],ae [],ae []] U8<|Vk (j:=0) U12<|Vf [8] b U<|Vo (VU ag U4 ?_);exact⟨U,U⟩
theorem QO (l:List Nat):(xB l).pts.map gx=[[ae [48],ae [48]],[ae [54],ae [48]],[ae [48],ae [52]]]:=by
 show [[ae (qtx 0),ae (qtx 0)],[ae (qtx 6),ae (qtx 0)],[ae (qtx 0),ae (qtx 4)]]=_;rw[J6,J7,Mj]
theorem QV (l:List Nat):(xB l).col.map vu=[[ae [65],ae [48],ae []],[ae [66],ae [48],ae []]]:=by
 show [[ae [65],ae (qtx 0),ae []],[ae [66],ae (qtx 0),ae []]]=_;rw[J6]
theorem lA (C:Mem)(b:Value)(l:List Nat)(c:Sl C 10 b ((l.map xO).map sb)):Pur cx.P 55 [b] C fun u D=>BookIn D u (xB l):=by
 obtain⟨f,c0,rfl,_⟩:=id c;refine Vi func55 20 U3 fun w0=>Vd fun R a=>Vt U5 fun p=>Vf [0,2] a U<|Vd fun R a=>Vu [ae [48],ae [48]] U8<|Vu [ae [54],ae [48]] U8<|Vu [ae [48],ae [52]] U8<|VZ [[ae [48],ae [48]],[ae [54],ae [48]],[ae [48],ae [52]]] U12 fl_ fun d _ _ g=>Vu [i_ 0,i_ 1,i_ 2] U8<|VZ [[i_ 0,i_ 1,i_ 2]] U12 fl_ fun e _ _ h=>Vu [s_ d 3 3,s_ e 1 1] U8<|Vt U5 fun q=>Vk (j:=0) U12<|Vf [0,2,3] a U<|Vd fun R a=>Vu [ae [65],ae [48],ae []] U8<|Vu [ae [66],ae [48],ae []] U8<|VZ [[ae [65],ae [48],ae []],[ae [66],ae [48],ae []]] U12 fl_ fun i _ _ k=>C6 1 [0,2,3,4] a U<|G.freeze 0 U fun _ _ m=>Vd fun R a=>Vb (bkT m 2) U8<|VZ [[ae [49,48]],[ae [49,48]],[ae [49,48]]] U12 fl_ fun n _ _ o=>Ve 2 U<|Vu [s_ d 3 3,s_ e 1 1,s_ n 3 3,s_ i 2 2,.slice f ((l.map xO).map sb).length c0] U8<|Vk (j:=0) U12<|Vf [2] a U<|Vo (VU ag U4 ?_);exact⟨U,_,_,_,_,_,U,by rw[QO];exact g.mono mup,h.mono mup,o.mono mup,by rw[QV];exact k.mono mup,c.mono mup⟩
def xC:List Rat:=zl 3 0 (0,1,2) (wgt (xB []).pts (0,1,2) (3,0)) 3
theorem xC_e:sgL xC 0=[1/2,1/2,0]/\sgL xC 1=[-1/2, -1/2,0]:=by decide +kernel
theorem QT:∀ k,k<2->Lp.Lim (bZ 3 (eg (xR 0))) (fun j=>(sgL xC k).getD j 0) 20:=fun k a=>by
 have b:∀ k<2,∀ j<3,wlB 2 ((sgL xC k).getD j 0)=true:=by decide +kernel
 exact uV dc_ (LR 0 dc_) ⟨2,by decide,by decide,fun j c=>FA (b k a j c)⟩
theorem MU (h:MP (bZ 3 (eg (xR 0))) xC u):u=.tuple #[ae [54],ae [54],i_ 0]:=by
 obtain⟨e,f,g,i,_,h1,h2,h3⟩:=h;rw[xC_e.1]at h1;rw[xC_e.2]at h2;obtain⟨a,c⟩:=h1.same QS;obtain⟨b,d⟩:=(h2 om_).same Pj;rcases h3 with⟨h3,_⟩|⟨_,rfl⟩
 ·omega
 unfold Fl oE;rw[aM a,aM b,c a,d b,show(1:Rat)*6=6 by decide +kernel,show(-1:Rat) * -6=6 by decide +kernel,J7]
theorem MX {D:Mem}(h:BuiO (xB [0,1]) (xRO [0,1]) D u):∃ (A:Option Addr)(n c:Nat),u=.tuple #[.slice none 0 0,.agg ⟨[.slice A n c]⟩,.bool false,i_ 0]:=by
 cases h with
|yes pt v h1 h2 h3 h4 =>
  unfold oA at h1;rw[PM]at h1;exact absurd ⟨pt,h1⟩ x_no
|no du a h1 h2 =>
  obtain⟨A,c,rfl,_⟩:=id h2;exact⟨_,_,_,U⟩
theorem MV {D:Mem}(b:EdgL (xB [2,3]).tris es)(h:FlatO (xB [2,3]) (xRO [2,3]) es D u):∃ (A:Option Addr)(n c:Nat)(A2:Option Addr)(n2 c2:Nat),u=.tuple #[.agg ⟨[.slice A n c,ae [54],.slice A2 n2 c2]⟩,i_ 0]:=by
 obtain rfl:=b.same Qk;have a:=Pm;rw[<- PL]at a;cases h with
|opt v pt du f g h1 h2 h3 =>
  obtain⟨vs,_,_,d⟩:=h2;obtain⟨A,c,rfl,_⟩:=id d;obtain⟨A2,c2,rfl,_⟩:=id h3;have e:=(h1.val.same a).2 rfl;exact⟨_,_,_,_,_,_,by rw[e,J7]⟩
|inf h1 =>
  obtain⟨_,⟨y,hy,_⟩,_⟩|⟨h,_⟩|⟨h,_⟩:=a
  ·exact absurd ⟨y,hy⟩ h1
  ·cases h
  cases h
theorem lK:sb (xO 0)=[i_ 2,ae [97],ae [51],ae [48],ae [52],ae [66],ae [65],ae [],ae [],ae []]/\sb (xO 1)=[i_ 2,ae [98],ae [51],ae [48],ae [53],ae [66],ae [65],ae [],ae [],ae []] /\
  sb (xO 2)=[i_ 2,ae [97],ae [48],ae [48],ae [52],ae [66],ae [65],ae [],ae [],ae []]/\sb (xO 3)=[i_ 2,ae [98],ae [54],ae [48],ae [49],ae [66],ae [65],ae [],ae [],ae []]:=by
 rw[I7,I7,I7,I7];exact⟨U,U,U,U⟩
theorem QM:(.agg ⟨[ae [51],ae [48]]⟩:Value)=ptV (3,0):=by
 show _=Value.agg ⟨[ae (qtx 3),ae (qtx 0)]⟩;rw[Gw,J6]
theorem ye (C:Mem)(b:Tabs C):Gives cx.P 11 [] C (.bool true):=by
 have c:=fun(D:Mem)(d:C.le D)(bv:Value)(e:BookIn D bv (xB [0]))=>HG D (b.mono d) bv (xB [0]) xFs (xRO [0]) 0 (3,0) 0 [] (0,1,2) [49,48] e (zk ok0) dc_ (LS 0 dc_).2.2.2.2 ⟨bh (LS 0 dc_).2.1,bh (LS 0 dc_).2.2.1⟩ (Je 0 dc_) rfl (x_w 0 dc_)
  (by rw[<- PW];exact Pf 0 dc_) (fun k f=>by
   have:=QT k f;rw[<- rows0]at this;exact this)
 have g:∀ es,EdgL (xB [2,3]).tris es->bs (xB [2,3])*bp (xB [2,3])+bs (xB [2,3])*es.length<=12:=fun es h=>by
  obtain rfl:=h.same Qk;decide
 refine Vi func11 64 U3 fun w0=>Va 1 U fun R a=>V9 [] trivial (a _ _ _ U ?_);refine Vd fun R a=>Vl (gU _ [97] [51] [48] [52]) U7<|VZ [[i_ 2,ae [97],ae [51],ae [48],ae [52],ae [66],ae [65],ae [],ae [],ae []]] U12 fl_ fun w _ _ i=>VC (lA _ _ [0] (by show Sl _ 10 _ [sb (xO 0)];rw[lK.1];exact i.mono mup)) U7 fl_ fun x _ _ l=>Vu [ae [51],ae [48]] U8 ?_;rw[QM];refine VJ (c _ mup _ l.m_) U7 (fun y _ _ m=>?_);obtain rfl:=MU (by have:=m;unfold oA at this;rw[rows0]at this;exact this);refine C6 7 [1,2,3] a U<|Vd fun R a=>Vl (gU _ [97] [51] [48] [52]) U7<|Vl (gU _ [98] [51] [48] [53]) U7<|VZ [[i_ 2,ae [97],ae [51],ae [48],ae [52],ae [66],ae [65],ae [],ae [],ae []],[i_ 2,ae [98],ae [51],ae [48],ae [53],ae [66],ae [65],ae [],ae [],ae []]] U12 fl_ fun z _ _ n=>VC (lA _ _ [0,1] (by show Sl _ 10 _ [sb (xO 0),sb (xO 1)];rw[lK.1,lK.2.1];exact n.mono mup)) U7 fl_ fun A _ _ o=>VJ (HM _ b.m_ _ (xB [0,1]) xFs (xRO [0,1]) o.m_ (zk ok01)) U7 (fun B _ _ p=>?_);obtain⟨E,nb,F,rfl⟩:=MX p;refine Ve 5 U<|Vt U5 fun H=>Vc U6<|Vk (j:=0) U12<|C6 2 [1,2,3,6,7] a U<|Vd fun R a=>Vl (gU _ [97] [48] [48] [52]) U7<|Vl (gU _ [98] [54] [48] [49]) U7<|VZ [[i_ 2,ae [97],ae [48],ae [48],ae [52],ae [66],ae [65],ae [],ae [],ae []],[i_ 2,ae [98],ae [54],ae [48],ae [49],ae [66],ae [65],ae [],ae [],ae []]] U12 fl_ fun I _ _ q=>VC (lA _ _ [2,3] (by show Sl _ 10 _ [sb (xO 2),sb (xO 3)];rw[lK.2.2.1,lK.2.2.2];exact q.mono mup)) U7 fl_ fun J _ _ r=>VC (KQ _ b.m_ _ (xB [2,3]) xFs (xRO [2,3]) r.m_ (zk ok23) dc_ dc_ g) U7 fl_ (fun K _ _ s=>?_);obtain⟨es,t,u⟩:=s;obtain⟨L,M,N,O,Q,S,rfl⟩:=MV t u;exact Ve 3 U<|Vt U5 fun T=>Vk (j:=0) U12<|C6 1 [1,2,3,6,7,8,9] a U<|G.freeze 0 U fun _ _ v=>Va 5 U fun R a=>Vz U8<|Ve 3 U<|Vz U8<|Ve 3 U<|Vz U8<|Ve 3 U<|Vz U8<|Ve 3 U<|Vz U8<|Ve 2 U<|VE U6 (fun _=>PtrTo.blockT (Mem.get v mup) _ 1) U3<|Vc U6<|Vz U8<|C6 1 [0] a U<|Vg U2<|⟨U,U⟩
end Go.Proofs.YtfjcldheldflbaaGreatDoor
