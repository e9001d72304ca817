/- Laws that the proofs of this seat share, part 15. -/
import Derived.Test.YtfjcldheldflbaaGreatDoorG14
import Derived.Test.YtfjcldheldflbaaGreatDoorShelf
set_option maxHeartbeats 4000000
namespace Go.Proofs.YtfjcldheldflbaaGreatDoor
open Go.Proofs.Tryz
open Go Go.Jog
set_option maxRecDepth 100000
variable {C:Mem}{es:List (Nat × Nat)}{i:Nat}{l:List RowQ}{n p:Nat}{r r':RowQ}{rows:List RowQ}{u:Value}{us:List Value}{w:Value}
theorem NF (n:Nat)(q:Rat):List.replicate n (af (qtx q))=((List.replicate n q).map aQ).flatten:=by
 rw[Ta];induction n with
|zero=>rfl
|succ n a=>rw[RP,RP,RU,<- a];rfl
theorem MO (C:Mem)(v:Value)(n:Nat)(q:Rat)(s:Str)(a:qtx q=s)(c:Sl C 1 v [[af s]])(d:n<=1000000):Pur cx.P 64 [v,.int .i64 n] C fun u D=>∃ b,u=.slice (some ⟨b,0,none⟩) n n/\Sl D 1 u ((List.replicate n q).map aQ) :=
 We (na C v n s c d) fun u e f ⟨b,h1,h2⟩=>.inr ⟨u,32,1,(List.replicate n q).map aQ,by rw[h2,<- NF,a];simp,bU,fun D _ h=>⟨b,h1,h⟩⟩
theorem oJ (C:Mem)(n:Nat)(h:n<=100000):Pur cx.P 77 [.int .i64 n] C fun u D=>∃ b,u=.slice (some ⟨b,0,none⟩) n n/\Sl D 1 u ((List.replicate n (0:Rat)).map aQ) :=
 We (mg C n h) fun u a c ⟨b,h1,h2⟩=>.inr ⟨u,32,1,(List.replicate n 0).map aQ,by rw[h2,<- lL];simp,bU,fun D _ h=>⟨b,h1,h⟩⟩
def zj (rows:List RowQ)(more i:Nat):List RowQ:=(rows.take i).map (fq more)++rows.drop i
theorem JS (a:List RowQ)(b i:Nat):(zj a b i).length=a.length:=by
 unfold zj;rw[QG,ar,<- QG,RB]
theorem Nn {more:Nat}(h:rows[i]?=some r):(zj rows more i)[i]?=some r/\zj rows more (i+1)=(zj rows more i).set i (fq more r):=by
 have c:=(aL.1 h).1;have a:((rows.take i).map (fq more)).length=i:=by rw[ar,QO];omega
 have b:rows.drop i=r::rows.drop (i+1):=by rw[Q0 c,(aL.1 h).2]
 unfold zj;constructor
 ·rw[Q3 om_,a,Tt,b];rfl
 rw[Q4,h,Rh,b,List.set_append_right _ _ om_,a,Tt];simp
theorem gg (d:us.length=l.length)(c:l[i]?=some r)(e:r'.b=r.b) :
  aD (aC us l).flatten [w] (i*2)=(aC (us.set i w) (l.set i r')).flatten:=by
 have f:=(aL.1 c).1;obtain⟨u0,g⟩:∃ u0,us[i]?=some u0:=⟨us[i]'om_,aj om_⟩;have h:us=us.take i++u0::us.drop (i+1):=by
  conv=>lhs;rw[<- RB i us,Q0 om_,(aL.1 g).2]
 have j:l=l.take i++r::l.drop (i+1):=by
  conv=>lhs;rw[<- RB i l,Q0 om_,(aL.1 c).2]
 have a:(us.take i).length=(l.take i).length:=by rw[QO,QO,d]
 have k:aC us l=aC (us.take i) (l.take i)++[u0,af (qtx r.b)]::aC (us.drop (i+1)) (l.drop (i+1)):=by
  conv=>lhs;rw[h,j]
  unfold aC;rw[List.zipWith_append a];rfl
 have m:aC (us.set i w) (l.set i r')=aC (us.take i) (l.take i)++[w,af (qtx r.b)]::aC (us.drop (i+1)) (l.drop (i+1)):=by
  rw[List.set_eq_take_append_cons_drop,aJ om_,List.set_eq_take_append_cons_drop,aJ f];unfold aC;rw[List.zipWith_append a,<- e];rfl
 have n:(aC (us.take i) (l.take i)).flatten.length=i*2:=by
  rw[aH (bZ _ _),bN a,QO,RD om_]
 rw[k,m,Ro,Ro,RU,RU];exact wo (A:=(aC (us.take i) (l.take i)).flatten) (x:=u0) (B:=af (qtx r.b)::(aC (us.drop (i+1)) (l.drop (i+1))).flatten) n
theorem jL (h:RowsOk C us l)(b:Sl C 1 w (r'.f.map eM)):RowsOk C (us.set i w) (l.set i r'):=by
 refine⟨by rw[Ru,Ru];exact h.1,fun j v r a hr=>?_⟩;rw[List.getElem?_set]at a hr;by_cases e:i=j
 ·subst e;rw[aJ rfl]at a hr;split at a
  ·split at hr
   ·cases a;cases hr;exact b
   cases hr
  cases a
 rw[aF e]at a hr;exact h.2 j v r a hr
theorem yX (h:RowsOk C us l)(e:Sl C 1 w (r.f.map eM)):RowsOk C (us++[w]) (l++[r]):=by
 refine⟨by rw[QG,QG,h.1];rfl,fun j v x a b=>?_⟩;have:=h.1;rcases Q1 j us.length with c|c
 ·rw[Rr c]at a;rw[Rr om_]at b;exact h.2 j v x a b
 rw[Q3 c]at a;rw[Q3 om_]at b;cases d:j-us.length with
|zero =>
  rw[d]at a;rw[show j-l.length=0 by omega]at b;cases a;cases b;exact e
|succ k=>rw[d]at a;cases a
theorem wQ (d:us.length=l.length)(a:l[i]?=some r)(e:us[i]?=some w):((aC us l).flatten.drop (i*2)).take 2=[w,af (qtx r.b)]:=by
 have k:=(aL.1 a).1;have f:us=us.take i++w::us.drop (i+1):=by
  conv=>lhs;rw[<- RB i us,Q0 om_,(aL.1 e).2]
 have g:l=l.take i++r::l.drop (i+1):=by
  conv=>lhs;rw[<- RB i l,Q0 om_,(aL.1 a).2]
 have c:(us.take i).length=(l.take i).length:=by rw[QO,QO,d]
 have h:aC us l=aC (us.take i) (l.take i)++[w,af (qtx r.b)]::aC (us.drop (i+1)) (l.drop (i+1)):=by
  conv=>lhs;rw[f,g]
  unfold aC;rw[List.zipWith_append c];rfl
 have j:(aC (us.take i) (l.take i)).flatten.length=i*2:=by
  rw[aH (bZ _ _),bN c,QO,RD om_]
 rw[h,Ro,RU,<- j,List.drop_left];rfl
theorem qJ (l:List Rat):((l.map aQ).all fun r=>r.all lQ)=true:=by
 rw[QX];intro r hr;obtain⟨q,_,rfl⟩:=QE.1 hr;rfl
theorem Jm {h:Nat}{k q:Nat}(a:q<2):(rgK n h p es k).take (q+1)=(rgK n h p es k).take q++[⟨rgF n h p es.length k (edg es k) (oh q),0⟩]:=by
 rcases(by omega:q=0∨q=1) with rfl|rfl <;> rfl
def Qy (D:Mem)(n:Nat)(rows:List RowQ)(ob:List Rat)(u:Value):Prop:=∃ (A1:Option Addr)(n1 c1:Nat)(A2:Option Addr)(n2 c2:Nat),u=.agg ⟨[.int .i64 n,.slice A1 n1 c1,.slice A2 n2 c2]⟩/\RowsT D (.slice A1 n1 c1) ((eO rows).map fW)/\Sl D 1 (.slice A2 n2 c2) (ob.map aQ)
abbrev sR7 (A:Option Addr)(n c:Nat):Value:=.slice A n c
abbrev sF7 (A:Option Addr)(n c:Nat):Value:=.slice A n c
theorem Jk (C:Mem)(hT:Tabs C)(bv:Value)(B:Bk)(fs:List Rat)(RO:Nat->List RowQ)(d:BookIn C bv B)(h:Calm B fs RO)(a0:bp B<=6)(a1:bs B<=2) :
  Pur cx.P 22 [bv] C fun u D=>∃ es x,u=.tuple #[x,.int .i64 0]/\EdgL B.tris es/\Qy D (bs B*bp B+bs B*es.length) (yY (dP B RO) (bs B*bp B) (bp B) es (bs B*es.length)) (mZ (bs B*bp B) (bs B*es.length)) x:=by
 have a2:=d;have hG:=h.rich.good;have a3:=h.n12;have a4:=h.cnt (dD B.obs.length);have ae:=fun(D:Mem)(hD:C.le D)=>kV D (hT.mono hD) bv B fs RO (d.mono hD) h;obtain⟨v1,v2,tv,cv,ov,rfl,h1,h2,h3,h4,h5⟩:=id d.ex;have hm:MeshIn C (.agg ⟨[v1,v2]⟩) B.pts B.tris:=⟨v1,v2,rfl,h1,h2⟩;obtain⟨s,t,rfl,a5,_⟩:=id h1;obtain⟨A4,c4,rfl,a6,_⟩:=id h4;have a7:(B.pts.map gl).length=bp B:=ar _;have a8:(B.col.map xY).length=bs B+1:=by rw[ar];have:=h.rich.scol.1;omega
 simp only[a7,a8]at h1 a5 h4 a6 hm a2 ae⊢;have bJ:maxLen<=9223372036854775807:=by simp[maxLen]
 obtain⟨n,hn⟩:∃ n,bs B*bp B=n:=⟨_,rfl⟩;obtain⟨rows,au⟩:∃ rows,dP B RO=rows:=⟨_,rfl⟩;rw[show pq B RO (List.range B.obs.length)=rows from au]at a4;rw[hn]at ae a3⊢;rw[au]at ae⊢;have a9:∀ r∈rows,r.f.length<=12:=fun r hr=>by
  have h1:=(h.rowsQ (dD B.obs.length)).l (r.f,r.b) (QE.2 ⟨r,by rw[<- au]at hr;exact hr,rfl⟩);have h2:r.f.length=bs B*bp B:=h1;omega
 refine Ur func22 153 U3 fun w0=>?_;refine Ul fun R c=>?_;refine UC U6 (fun b1=>?_);refine UB U5 (fun v=>?_);refine C6 1 [1,2] c Z ?_;clear c R;refine G.freeze 1 Z (fun _ _ ak=>?_);refine UI [(1,3)] Z (fun R c=>?_);refine Uj (bkT ak 5) U8 ?_;refine D.call (ae _ mup) Z (.inr dc_) U6 (QI _) fl_ (fun bK _ bL _ ba=>?_);obtain⟨O,E,bo,vs,rfl,bb,rfl⟩:=ba;refine Um 3 Z ?_;refine UB U5 (fun y=>?_);refine Us (j:=0) U12 ?_;refine C6 1 [1,2,4,5] c Z ?_;clear c R;refine Uh 2 [1,2,4,5,24] Z ?_;refine G.cd (fun aK=>?_) fun aK=>?_
 ·exact absurd aK dc_
 refine Ui 1 Z fun R c=>?_;refine Uj (bkT ak 2) U8 ?_;refine UR (Kp _ hT.m_ _ B.pts B.tris hm.m_ hG) U7 (fun bM _ _ bc=>?_);obtain⟨es,ev,rfl,av,aw⟩:=bc;obtain⟨Ae,ce,rfl,bd,_⟩:=id aw;simp only[ar]at aw bd⊢;obtain⟨be,bO⟩:=av.le hG.ok.ins a0;obtain⟨a,ad⟩:∃ a,bs B*es.length=a:=⟨_,rfl⟩;have bP:a<=30:=by rw[<- ad];exact R0 a1 be
 refine C6 5 [1,2,4,5,6] c Z ?_;clear c R;refine Uh 2 [1,2,4,5,6,34] Z ?_;refine G.cd (fun aL=>?_) fun aL=>?_
 ·exact absurd aL dc_
 refine UD [0,1,2,3,4,5,6,7] [] Z kr_ (fun R d c=>?_);refine Uk U6 ?_;refine Uo ag U9 ?_;refine Um 2 Z ?_;refine Uj (bkT ak 1) U8 ?_;refine Um 3 Z ?_;refine Un [1,2,4,6,7,8] c Z ?_;clear c d R;refine Ui 1 Z fun R c=>?_;refine Uj (bkT ak 1) U8 ?_;refine Uk U6 ?_;refine UQ (((bs B:Nat):Int)) U4 om_ om_ om_ U2 ?_;refine Um 2 Z ?_;refine UQ (((a:Nat):Int)) U4 (by rw[<- ad,Ra]) om_ om_ U2 ?_;refine C6 1 [2,4,6,7,8,9] c Z ?_;clear c R;refine Ui 1 Z fun R c=>?_;refine Uo ag U9 ?_;refine Uk U6 ?_;refine UQ (((n+a:Nat):Int)) U4 om_ om_ om_ U2 ?_;refine Uk U6 ?_;refine Us (j:=0) U12 ?_;refine Un [2,4,6,7,8,9] c Z ?_;clear c R;refine Ui 1 Z fun R c=>?_;refine Uo ag U9 ?_;refine Um 3 Z ?_;refine Uo ag U9 ?_;refine Um 2 Z ?_;refine Uq _ Z U6 ?_;refine Uq _ Z U6 ?_;refine Uk U6 ?_;refine UN U8 ?_;refine Un [2,4,6,7,8,9,66] c Z ?_;clear c R;refine G.cd (fun aM=>?_) fun aM=>?_
 ·exact absurd aM ap
 refine UD [0,1,3,2,4,5,6,7] [] Z kr_ (fun R d c=>?_);refine Uk U6 ?_;refine Uo ag U9 ?_;refine Uk U6 ?_;refine UF [[af [49]]] U12 (fun bQ _ _ bf=>?_);refine UK (MO _ _ a 1 [49] MW bf.m_ om_) U7 fl_ (fun bR _ _ bh=>?_);obtain⟨bS,rfl,bi⟩:=bh;refine UP (j:=2) U11 bi.m_ (qJ _) (by simp only[ar,Rb,maxLen];omega) (by simp only[ar,Rb];omega) fl_ (fun e o p=>?_);refine Uk U6 ?_;refine Us (j:=1) U12 ?_;refine Un [2,4,6,7,8,9] c Z ?_;clear c d R;refine Ui 1 Z fun R c=>?_;refine Uo ag U9 ?_;refine C6 2 [2,4,6,7,8,9,76,77,78] c Z ?_;clear c R;have bj:List.replicate n (af [48])++((List.replicate a (1:Rat)).map aQ).flatten=((mZ n a).map aQ).flatten:=by
  rw[lL];unfold mZ;rw[Rh,Ro]
 have bk:n+((List.replicate a (1:Rat)).map aQ).length=n+a:=by simp
 refine G.perm (L':=[.arr (sR7 O rows.length E) 140 2 (rows.length) (aC vs (zj rows a 0)).flatten,.arr (sF7 e o p) 32 1 (n+a) ((mZ n a).map aQ).flatten,.obj y (.cells ⟨[.int .i64 (n+a:Nat),.slice O rows.length E,.slice e o p]⟩ 74 (0,0)),.obj v (.cells ⟨[.int .i64 0,.slice none 0 0,.slice none 0 0]⟩ 74 (0,0))]) (by rw[show zj rows a 0=rows from Z,<- bj,<- bk];(exact pkL [2,1,0,0] Z)) ?_;refine G.loop (fun fr K z F=>∃ (i:Nat)(us:List Value),(i<=rows.length/\RowsOk K us (zj rows a i))/\fr=[(2,[],.pointer (some ⟨v,0,none⟩)),(4,[],.pointer (some ⟨y,0,none⟩)),(6,[],.slice Ae es.length ce),(7,[],.int .i64 n),(8,[],.int .i64 (bp B:Nat)),(9,[],.int .i64 a),(76,[],.slice O rows.length E),(77,[],.int .i64 rows.length),(78,[],.int .i64 i)]/\z=[.arr (sR7 O rows.length E) 140 2 rows.length (aC us (zj rows a i)).flatten,.arr (sF7 e o p) 32 1 (n+a) ((mZ n a).map aQ).flatten,.obj y (.cells ⟨[.int .i64 (n+a:Nat),.slice O rows.length E,.slice e o p]⟩ 74 (0,0)),.obj v (.cells ⟨[.int .i64 0,.slice none 0 0,.slice none 0 0]⟩ 74 (0,0))]/\F=rows.length-i) (hn_ [2,4,6,7,8,9,76,77,78] Z) ⟨0,vs,⟨QH _,by rw[show zj rows a 0=rows from rfl];exact RowsOk.mono bb mup⟩,Z,Z,Z⟩ (fun fr bT bV m _ H=>?_);obtain⟨i,us,⟨hi,L⟩,rfl,rfl,rfl⟩:=H;refine Wi ag (fun A0 c0 bl bm=>?_);refine Uh 1 [2,4,6,7,8,9,76,77,78,79] Z ?_;refine G.cd (fun ay=>?_) fun ay=>?_
 ·have az:i<rows.length:=by
   have:=PZ ay;omega
  obtain⟨rfl,rfl⟩:O=A0/\E=c0:=by cases bl;exact⟨rfl,rfl⟩
  obtain⟨g,rfl⟩:=bm om_;obtain⟨r,aN⟩:∃ r,rows[i]?=some r:=⟨rows[i],aj az⟩;obtain⟨V,M⟩:=Nn (more:=a) aN;have bW:=JS rows a i;have I:=L.1;obtain⟨w,aO⟩:∃ w,us[i]?=some w:=⟨us[i]'om_,aj om_⟩;have aA:=L.2 i w r aO V;obtain⟨Aw,cw,rfl,_⟩:=id aA;have bX:r.f.length<=12:=a9 r (aX aN);refine Ui 1 Z fun R c=>?_;refine UL ((i*2)) U10 ai U2 ?_;refine U1 ag U6 (fun _=>(by rw[show((TI.size _:Nat))=2 from Z,wQ I V aO];rfl)) U2 ?_;refine UB U5 (fun bY=>?_);refine Uk U6 ?_;refine Us (j:=0) U12 ?_;refine Un [2,4,6,7,8,9,10,11,76,77,78] c Z ?_;clear c R;refine G.freeze 0 Z (fun _ _ bn=>?_);refine G.cut (fun fr K z F=>∃ (an:List Value),(RowsOk K an (zj rows a (i+1)))/\fr=[(2,[],.pointer (some ⟨v,0,none⟩)),(4,[],.pointer (some ⟨y,0,none⟩)),(6,[],.slice Ae es.length ce),(7,[],.int .i64 n),(8,[],.int .i64 (bp B:Nat)),(9,[],.int .i64 a),(76,[],.slice (some ⟨g,0,none⟩) rows.length E),(77,[],.int .i64 rows.length),(78,[],.int .i64 i)]/\z=[.arr (sR7 (some ⟨g,0,none⟩) rows.length E) 140 2 (rows.length) (aC an (zj rows a (i+1))).flatten,.arr (sF7 e o p) 32 1 (n+a) ((mZ n a).map aQ).flatten,.obj y (.cells ⟨[.int .i64 (n+a:Nat),.slice (some ⟨g,0,none⟩) rows.length E,.slice e o p]⟩ 74 (0,0)),.obj v (.cells ⟨[.int .i64 0,.slice none 0 0,.slice none 0 0]⟩ 74 (0,0))]) ?_ (fun fr b0 b3 F b5 H=>?_)
  ·refine Vd (.cut [0,2,3,4,6] (.alt 1 (.fin [5,7,8,9,10,11]) (.alt 5 (.cut [] (.alt 1 (.fin [7,8,9,10,11]) (.alt 7 (.cut [] (.alt 1 (.fin [8,9,10,11]) (.alt 8 (.fin [1,9,10,11]) .stop))) .stop))) .stop))) [(5,3),(4,0)] Z Z kr_ (fun R d c A=>?_);refine Um 3 Z ?_;refine Vr (fun _=>((bkT bn 1).mono d)) U9 ?_;refine Uk U6 ?_;refine UT A Z ⟨?_, ?_,trivial⟩
   ·try obtain⟨W,X,cc,rfl,rfl⟩:=N
    first|refine Vk ac U9 ?_|refine Vk aa U9 ?_
    refine D.call (HS _ _ r.f aA.m_ om_) Z (.inr dc_) U6 (QI _) fl_ (fun bq br bt _ N=>?_)
    try obtain⟨W,X,cc,rfl,rfl⟩:=N
    refine UK (oJ _ a om_) U7 fl_ (fun aP aR _ Y=>?_);obtain⟨bz,rfl,Q⟩:=Y;refine UP (j:=0) U11 Q.m_ (qJ _) (by simp only[ar,Rb,maxLen];omega) (by simp only[ar,Rb];omega) fl_ (fun S T U=>?_);refine UL ((i*2)) U10 ai U2 ?_;refine Uk U6 ?_;refine UO (j:=1) U11 (by rw[aH (bZ _ _),bN I];simp;omega) ?_;refine Un [2,4,6,7,8,9,76,77,78] c Z ?_;clear c d A R;rw[<- Ro,<- Rh,gg I V (r':=fq a r) rfl,<- M];refine G.freezeArr 1 ((r.f++List.replicate a (0:Rat)).map aQ) Z Z bU al (fun Cf ao J=>?_);exact Ux 0 mup (hn_ [2,4,6,7,8,9,76,77,78] Z) ⟨us.set i (.slice S T U),by rw[M];exact jL (RowsOk.m_ L) J,Z,Z⟩
   refine D.call (HS _ _ r.f aA.m_ om_) Z (.inr dc_) U6 (QI _) fl_ (fun bq br bt _ N=>?_);refine UT A Z ⟨?_, ?_,trivial⟩
   ·try obtain⟨W,X,cc,rfl,rfl⟩:=N
    first|refine Vk ac U9 ?_|refine Vk aa U9 ?_
    try obtain⟨W,X,cc,rfl,rfl⟩:=N
    refine UK (oJ _ a om_) U7 fl_ (fun aP aR _ Y=>?_);obtain⟨bz,rfl,Q⟩:=Y;refine UP (j:=0) U11 Q.m_ (qJ _) (by simp only[ar,Rb,maxLen];omega) (by simp only[ar,Rb];omega) fl_ (fun S T U=>?_);refine UL ((i*2)) U10 ai U2 ?_;refine Uk U6 ?_;refine UO (j:=1) U11 (by rw[aH (bZ _ _),bN I];simp;omega) ?_;refine Un [2,4,6,7,8,9,76,77,78] c Z ?_;clear c d A R;rw[<- Ro,<- Rh,gg I V (r':=fq a r) rfl,<- M];refine G.freezeArr 1 ((r.f++List.replicate a (0:Rat)).map aQ) Z Z bU al (fun Cf ao J=>?_);exact Ux 0 mup (hn_ [2,4,6,7,8,9,76,77,78] Z) ⟨us.set i (.slice S T U),by rw[M];exact jL (RowsOk.m_ L) J,Z,Z⟩
   try obtain⟨W,X,cc,rfl,rfl⟩:=N
   refine UK (oJ _ a om_) U7 fl_ (fun aP aR _ Y=>?_);refine UT A Z ⟨?_, ?_,trivial⟩
   ·try obtain⟨W,X,cc,rfl,rfl⟩:=N
    first|refine Vk ac U9 ?_|refine Vk aa U9 ?_
    obtain⟨bz,rfl,Q⟩:=Y;refine UP (j:=0) U11 Q.m_ (qJ _) (by simp only[ar,Rb,maxLen];omega) (by simp only[ar,Rb];omega) fl_ (fun S T U=>?_);refine UL ((i*2)) U10 ai U2 ?_;refine Uk U6 ?_;refine UO (j:=1) U11 (by rw[aH (bZ _ _),bN I];simp;omega) ?_;refine Un [2,4,6,7,8,9,76,77,78] c Z ?_;clear c d A R;rw[<- Ro,<- Rh,gg I V (r':=fq a r) rfl,<- M];refine G.freezeArr 1 ((r.f++List.replicate a (0:Rat)).map aQ) Z Z bU al (fun Cf ao J=>?_);exact Ux 0 mup (hn_ [2,4,6,7,8,9,76,77,78] Z) ⟨us.set i (.slice S T U),by rw[M];exact jL (RowsOk.m_ L) J,Z,Z⟩
   obtain⟨bz,rfl,Q⟩:=Y;refine UP (j:=0) U11 Q.m_ (qJ _) (by simp only[ar,Rb,maxLen];omega) (by simp only[ar,Rb];omega) fl_ (fun S T U=>?_)
   try obtain⟨W,X,cc,rfl,rfl⟩:=N
   first|refine Vk ac U9 ?_|refine Vk aa U9 ?_
   refine UL ((i*2)) U10 ai U2 ?_;refine Uk U6 ?_;refine UO (j:=1) U11 (by rw[aH (bZ _ _),bN I];simp;omega) ?_;refine Un [2,4,6,7,8,9,76,77,78] c Z ?_;clear c d A R;rw[<- Ro,<- Rh,gg I V (r':=fq a r) rfl,<- M];refine G.freezeArr 1 ((r.f++List.replicate a (0:Rat)).map aQ) Z Z bU al (fun Cf ao J=>?_);exact Ux 0 mup (hn_ [2,4,6,7,8,9,76,77,78] Z) ⟨us.set i (.slice S T U),by rw[M];exact jL (RowsOk.m_ L) J,Z,Z⟩
  obtain⟨an,ab,rfl,rfl⟩:=H;refine Ul fun R c=>?_;refine Uq _ Z U6 ?_;refine C6 1 [2,4,6,7,8,9,76,77,78] c Z ?_;clear c R;refine Uw (m':=rows.length-(i+1)) om_ mup (hn_ [2,4,6,7,8,9,76,77,78] Z) ⟨i+1,an,⟨by omega,ab⟩,Z,Z,Z⟩
 have az:i=rows.length:=by
  have:=QF ay;omega
 subst az;refine Uh 2 [2,4,6,7,8,95,96] Z ?_;rw[show zj rows a rows.length=rows.map (fq a)++rgL (n+a) n (bp B) es 0 by unfold zj;rw[QM,RN];rfl]at L⊢;refine G.loop (fun fr K z F=>∃ (k:Nat)(s:Option Addr)(n1 t:Nat)(us:List Value),(k<=a/\RowsOk K us (rows.map (fq a)++rgL (n+a) n (bp B) es k))/\fr=[(2,[],.pointer (some ⟨v,0,none⟩)),(4,[],.pointer (some ⟨y,0,none⟩)),(6,[],.slice Ae es.length ce),(7,[],.int .i64 n),(8,[],.int .i64 (bp B:Nat)),(95,[],.int .i64 a),(96,[],.int .i64 k)]/\z=[.arr (sR7 s n1 t) 140 2 (rows.length+2*k) (aC us (rows.map (fq a)++rgL (n+a) n (bp B) es k)).flatten,.arr (sF7 e o p) 32 1 (n+a) ((mZ n a).map aQ).flatten,.obj y (.cells ⟨[.int .i64 (n+a:Nat),.slice s n1 t,.slice e o p]⟩ 74 (0,0)),.obj v (.cells ⟨[.int .i64 0,.slice none 0 0,.slice none 0 0]⟩ 74 (0,0))]/\F=a-k) (hn_ [2,4,6,7,8,95,96] Z) ⟨0,O,rows.length,E,us,⟨QH _,RowsOk.mono L mup⟩,Z,Z,Z⟩ (fun fr b6 b7 m _ H=>?_);obtain⟨k,s,n1,t,us,⟨hk,aB⟩,rfl,rfl,rfl⟩:=H;refine Uh 1 [2,4,6,7,8,95,96,97] Z ?_;refine G.cd (fun aD=>?_) fun aD=>?_
 ·have b8:k<a:=by
   have:=PZ aD;omega
  have aS:k<bs B*es.length:=by omega
  obtain⟨bu,b9⟩:=Hs aS;obtain⟨bw,bx,ca⟩:=LL (av.ok (n:=bp B) hG.ok.ins (bs B)) aS;rw[hn]at bw bx;have bA:0<es.length:=List.length_pos_of_mem bu;have aT:=Rj k bA;have bB:(es.map xZ)[k % es.length]?=some (xZ (edg es k)):=by
   rw[QD,aj aT];unfold edg;rw[am,aj aT];rfl
  refine Uh 2 [2,4,6,7,8,12,95,96] Z ?_;refine UD [0,1,2,3,4,5,6,7,8,9,10,11,12,13] [] Z kr_ (fun R d c=>?_);refine Um 3 Z ?_;refine Vn (k) (es.length) U6 om_ (.inl ⟨Z,by omega⟩) U2 ?_;refine Um 4 Z ?_;refine Vc (k) (es.length) U6 om_ U2 ?_;refine Uy aw.m_ U10 om_ bB fl_ (fun cb bC=>?_);refine Uj bC U8 ?_;refine UB U5 (fun aU=>?_);refine Uk U6 ?_;refine Us (j:=0) U12 ?_;refine Un [2,4,6,7,8,12,13,14,95,96] c Z ?_;clear c d R;refine G.freeze 0 Z (fun _ _ aE=>?_);refine Ul fun R c=>?_;refine Ve [[af [49]],[af [45,49]]] U12 fl_ (fun aV _ _ aW=>?_);refine C6 2 [2,4,6,7,8,12,13,14,95,96,110,111,112] c Z ?_;clear c R;rw[sgns]at aW;refine Uz (L':=[.arr (sR7 s n1 t) 140 2 (rows.length+2*k+0) (aC us (rows.map (fq a)++(rgL (n+a) n (bp B) es k++(rgK (n+a) n (bp B) es k).take 0))).flatten,.arr (sF7 e o p) 32 1 (n+a) ((mZ n a).map aQ).flatten,.obj y (.cells ⟨[.int .i64 (n+a:Nat),.slice s n1 t,.slice e o p]⟩ 74 (0,0)),.obj v (.cells ⟨[.int .i64 0,.slice none 0 0,.slice none 0 0]⟩ 74 (0,0))]) (by rw[List.take_zero,Q2];rfl) ?_;refine G.loop (fun fr K z F=>∃ (q:Nat)(s:Option Addr)(n1 t:Nat)(us:List Value),(q<=2/\RowsOk K us (rows.map (fq a)++(rgL (n+a) n (bp B) es k++(rgK (n+a) n (bp B) es k).take q)))/\fr=[(2,[],.pointer (some ⟨v,0,none⟩)),(4,[],.pointer (some ⟨y,0,none⟩)),(6,[],.slice Ae es.length ce),(7,[],.int .i64 n),(8,[],.int .i64 (bp B:Nat)),(12,[],.int .i64 k),(13,[],.int .i64 (k / es.length:Nat)),(14,[],.pointer (some ⟨aU,0,none⟩)),(95,[],.int .i64 a),(96,[],.int .i64 k),(110,[],.slice (some ⟨aV,0,none⟩) 2 2),(111,[],.int .i64 2),(112,[],.int .i64 q)]/\z=[.arr (sR7 s n1 t) 140 2 (rows.length+2*k+q) (aC us (rows.map (fq a)++(rgL (n+a) n (bp B) es k++(rgK (n+a) n (bp B) es k).take q))).flatten,.arr (sF7 e o p) 32 1 (n+a) ((mZ n a).map aQ).flatten,.obj y (.cells ⟨[.int .i64 (n+a:Nat),.slice s n1 t,.slice e o p]⟩ 74 (0,0)),.obj v (.cells ⟨[.int .i64 0,.slice none 0 0,.slice none 0 0]⟩ 74 (0,0))]/\F=2-q) (hn_ [2,4,6,7,8,12,13,14,95,96,110,111,112] Z) ⟨0,s,n1,t,us,⟨QH _,by rw[List.take_zero,Q2];exact RowsOk.mono aB mup⟩,Z,Z,Z⟩ (fun fr cf cg m _ H=>?_);obtain⟨q,s,n1,t,us,⟨ch,ab⟩,rfl,rfl,rfl⟩:=H;refine Uh 1 [2,4,6,7,8,12,13,14,95,96,110,111,112,113] Z ?_;refine G.cd (fun aF=>?_) fun aF=>?_
  ·have aq:q<2:=by
    have:=PZ aF;omega
   refine Ul fun R c=>?_;refine Uy aW.m_ U10 om_ (by rw[QD,Lf aq];rfl:(([1, -1]:List Rat).map aQ)[q]?=some (aQ (oh q))) fl_ (fun ci bD=>?_);refine Uj bD U8 ?_;refine C6 1 [2,4,6,7,8,12,13,14,16,95,96,110,111,112] c Z ?_;clear c R;refine UI [(2,3)] Z (fun R c=>?_);refine Uk U6 ?_;refine Uo ac U9 ?_;refine D.call (mg _ (n+a) om_) Z (.inr dc_) U6 (QI _) fl_ (fun cj _ ck _ bE=>?_);obtain⟨bz,rfl,rfl⟩:=bE;rw[Lj];have aY:(Value.string ⟨#[45,49]⟩)=tq (-1):=by show af [45,49]=af (qtx (-1));rw[FW]
   refine C6 1 [2,4,6,7,8,12,13,14,16,17,95,96,110,111,112] c Z ?_;clear c R;refine G.cut (fun fr K z F=>(True)/\fr=[(2,[],.pointer (some ⟨v,0,none⟩)),(4,[],.pointer (some ⟨y,0,none⟩)),(6,[],.slice Ae es.length ce),(7,[],.int .i64 n),(8,[],.int .i64 (bp B:Nat)),(12,[],.int .i64 k),(13,[],.int .i64 (k / es.length:Nat)),(14,[],.pointer (some ⟨aU,0,none⟩)),(17,[],.slice (some ⟨bz,0,none⟩) (n+a) (n+a)),(95,[],.int .i64 a),(96,[],.int .i64 k),(110,[],.slice (some ⟨aV,0,none⟩) 2 2),(111,[],.int .i64 2),(112,[],.int .i64 q)]/\z=[.arr (.slice (some ⟨bz,0,none⟩) (n+a) (n+a)) 32 1 (n+a) ((rgF (n+a) n (bp B) es.length k (edg es k) (oh q)).map tq),.arr (sR7 s n1 t) 140 2 (rows.length+2*k+q) (aC us (rows.map (fq a)++(rgL (n+a) n (bp B) es k++(rgK (n+a) n (bp B) es k).take q))).flatten,.arr (sF7 e o p) 32 1 (n+a) ((mZ n a).map aQ).flatten,.obj y (.cells ⟨[.int .i64 (n+a:Nat),.slice s n1 t,.slice e o p]⟩ 74 (0,0)),.obj v (.cells ⟨[.int .i64 0,.slice none 0 0,.slice none 0 0]⟩ 74 (0,0))]) ?_ (fun fr cl cm F cn H=>?_)
   ·refine Vd (.cut [0,1,2,3,4,5,6,7,8,9,10,11,14,15,16,17,18,19,20,21] (.alt 12 (.fin [13,22,23,24,25,26]) (.alt 22 (.fin [12,13,23,24,25,26]) .stop))) [(20,1)] Z Z kr_ (fun R d c A=>?_);refine Um 3 Z ?_;refine Uq (((k / es.length*bp B:Nat):Int)) (Ra _ _) U6 ?_;refine UE (0) U9 ah U2 ?_;refine Uj (bkT aE 1) U8 ?_;refine UQ (((k / es.length*bp B+(edg es k).1:Nat):Int)) U4 om_ om_ om_ U2 ?_;refine Um 3 Z ?_;refine Uq (((k / es.length*bp B:Nat):Int)) (Ra _ _) U6 ?_;refine UE (1) U9 ah U2 ?_;refine Um 3 Z ?_;refine UQ (((n+k:Nat):Int)) U4 om_ om_ om_ U2 ?_;refine Um 2 Z ?_;refine UG (fun _=>(eK _ (oh q) (QW (bg (Bw q) dc_) dc_))) U9 ?_;refine UL ((k / es.length*bp B+(edg es k).1)) U10 (fun _=>⟨by omega,by omega,(RY _).symm⟩) U2 ?_;refine UT A Z ⟨?_, ?_,trivial⟩
    ·refine Uj (bkT aE 1) U8 ?_;refine UQ (((k / es.length*bp B+(edg es k).2:Nat):Int)) U4 om_ om_ om_ U2 ?_;refine UO (j:=0) U11 ap ?_;rw[ft ap];refine UL ((k / es.length*bp B+(edg es k).2)) U10 (fun _=>⟨by omega,by omega,(RY _).symm⟩) U2 ?_;refine UO (j:=0) U11 ap ?_;rw[ft ap];refine UL ((n+k)) U10 (fun _=>⟨by omega,by omega,(RY _).symm⟩) U2 ?_;refine UO (j:=0) U11 ap ?_;refine Un [2,4,6,7,8,12,13,14,17,95,96,110,111,112] c Z ?_;clear c d A R;rw[aY,ft ap];exact Ux 0 mup (hn_ [2,4,6,7,8,12,13,14,17,95,96,110,111,112] Z) ⟨trivial,Z,Z⟩
    refine UO (j:=0) U11 ap ?_;refine Uj (bkT aE 1) U8 ?_;refine UQ (((k / es.length*bp B+(edg es k).2:Nat):Int)) U4 om_ om_ om_ U2 ?_;rw[ft ap];refine UL ((k / es.length*bp B+(edg es k).2)) U10 (fun _=>⟨by omega,by omega,(RY _).symm⟩) U2 ?_;refine UO (j:=0) U11 ap ?_;rw[ft ap];refine UL ((n+k)) U10 (fun _=>⟨by omega,by omega,(RY _).symm⟩) U2 ?_;refine UO (j:=0) U11 ap ?_;refine Un [2,4,6,7,8,12,13,14,17,95,96,110,111,112] c Z ?_;clear c d A R;rw[aY,ft ap];exact Ux 0 mup (hn_ [2,4,6,7,8,12,13,14,17,95,96,110,111,112] Z) ⟨trivial,Z,Z⟩
   obtain⟨_,rfl,rfl⟩:=H;rw[<- tV];refine G.freezeArr 0 ((rgF (n+a) n (bp B) es.length k (edg es k) (oh q)).map aQ) Z Z bU (by rw[ar,zc]) (fun _ _ bF=>?_);refine Ui 1 Z fun R c=>?_;refine Uo ac U9 ?_;refine Uk U6 ?_;refine UA [.slice (some ⟨bz,0,none⟩) (n+a) (n+a),af [48]] U8 ?_;refine UF [[.slice (some ⟨bz,0,none⟩) (n+a) (n+a),af [48]]] U12 (fun co _ _ bG=>?_);refine UP (j:=0) U11 bG.m_ Z ax (by simp only[QA];omega) fl_ (fun aG aI aJ=>?_);refine Uk U6 ?_;refine Us (j:=2) U12 ?_;refine Un [2,4,6,7,8,12,13,14,95,96,110,111,112] c Z ?_;clear c R;refine Ul fun R c=>?_;refine Uq _ Z U6 ?_;refine C6 1 [2,4,6,7,8,12,13,14,95,96,110,111,112] c Z ?_;clear c R;have aZ:rows.map (fq a)++(rgL (n+a) n (bp B) es k++(rgK (n+a) n (bp B) es k).take (q+1))=(rows.map (fq a)++(rgL (n+a) n (bp B) es k++(rgK (n+a) n (bp B) es k).take q))++[⟨rgF (n+a) n (bp B) es.length k (edg es k) (oh q),0⟩]:=by rw[Jm aq];simp only[Q8]
   have bH:(aC us (rows.map (fq a)++(rgL (n+a) n (bp B) es k++(rgK (n+a) n (bp B) es k).take q))).flatten++[[Value.slice (some ⟨bz,0,none⟩) (n+a) (n+a),af [48]]].flatten=(aC (us++[.slice (some ⟨bz,0,none⟩) (n+a) (n+a)]) (rows.map (fq a)++(rgL (n+a) n (bp B) es k++(rgK (n+a) n (bp B) es k).take (q+1)))).flatten:=by
    rw[aZ,eJ ab.1,Ro,MV]
   refine G.perm (L':=[.arr (sR7 aG aI aJ) 140 2 (rows.length+2*k+(q+1)) (aC (us++[.slice (some ⟨bz,0,none⟩) (n+a) (n+a)]) (rows.map (fq a)++(rgL (n+a) n (bp B) es k++(rgK (n+a) n (bp B) es k).take (q+1)))).flatten,.arr (sF7 e o p) 32 1 (n+a) ((mZ n a).map aQ).flatten,.obj y (.cells ⟨[.int .i64 (n+a:Nat),.slice aG aI aJ,.slice e o p]⟩ 74 (0,0)),.obj v (.cells ⟨[.int .i64 0,.slice none 0 0,.slice none 0 0]⟩ 74 (0,0))]) (by rw[<- bH];(exact pkL [1,1,0,0] Z)) ?_;refine Uw (m':=2-(q+1)) om_ mup (hn_ [2,4,6,7,8,12,13,14,95,96,110,111,112] Z) ⟨q+1,aG,aI,aJ,us++[.slice (some ⟨bz,0,none⟩) (n+a) (n+a)],⟨by omega,by rw[aZ];exact yX (RowsOk.m_ ab) bF.m_⟩,Z,Z,Z⟩
  have aq:q=2:=by
   have:=QF aF;omega
  subst aq;refine Ul fun R c=>?_;refine Uq _ Z U6 ?_;refine C6 1 [2,4,6,7,8,95,96] c Z ?_;clear c R;rw[show(rgK (n+a) n (bp B) es k).take 2=rgK (n+a) n (bp B) es k from rfl,<- BC]at ab⊢;refine Uw (m':=a-(k+1)) om_ mup (hn_ [2,4,6,7,8,95,96] Z) ⟨k+1,s,n1,t,us,⟨by omega,RowsOk.mono ab mup⟩,Z,Z,Z⟩
 obtain rfl:a=k:=by
  have:=QF aD;omega
 refine Ul fun R c=>?_;refine Uo ac U9 ?_;refine Us (j:=3) U12 ?_;refine C6 1 [2,3] c Z ?_;clear c R;refine G.freezeArr 1 (aC us (rows.map (fq a)++rgL (n+a) n (bp B) es a)) Z Z (bZ _ _) (by rw[bN aB.1,QG,ar,yZ]) (fun Cf ao J=>?_);refine G.freezeArr 1 ((mZ n a).map aQ) Z Z bU (by rw[ar,BB]) (fun Cg cp bI=>?_);refine Uv (VV ag Z Z Z Z Z ?_);refine⟨Z,es,_,Z,av,_,_,_,_,_,_,by rw[ad];rfl, ?_, ?_⟩
 ·rw[ad];exact ue (RowsOk.m_ aB) J.m_
 rw[ad];exact bI
theorem Do {p:Lp.Sys}{c:Nat->Rat}{D:Mem}(h:SolO p c D u):∃ (kd:Int)(val:Str)(a:Option Addr)(n1 b:Nat)(A2:Option Addr)(n2 c2:Nat)(d:Option Addr)(e f:Nat),u=.agg ⟨[.int .i64 kd,af val,.slice a n1 b,.slice A2 n2 c2,.slice d e f]⟩ /\
  ((kd=1/\∃ v pt du,val=qtx v/\Lp.OptR p c 20 v pt du/\n1=p.n/\Sl D 1 (.slice a n1 b) (((List.range p.n).map pt).map aQ)/\Sl D 1 (.slice A2 n2 c2) (((List.range p.m).map du).map aQ))∨(kd≠1/\(¬ p.Hold∨∃ pt ra,Lp.UnbR p c 20 pt ra))):=by
 cases h with
|opt v pt du g i j h1 h2 =>
  obtain⟨a,b,rfl,_⟩:=id h1;obtain⟨A2,c2,rfl,_⟩:=id h2;exact⟨_,_,_,_,_,_,_,_,_,_,_,Z,.inl ⟨Z,v,pt,du,Z,j,by simp,h1,h2⟩⟩
|inf du i k h1 =>
  obtain⟨A2,c2,rfl,_⟩:=id h1;exact⟨_,_,_,_,_,_,_,_,_,_,_,Z,.inr ⟨by decide,.inl k.not⟩⟩
|unb pt ra g o l h1 h2 =>
  obtain⟨a,b,rfl,_⟩:=id h1;obtain⟨A2,c2,rfl,_⟩:=id h2;exact⟨_,_,_,_,_,_,_,_,_,_,_,Z,.inr ⟨by decide,.inr ⟨pt,ra,l⟩⟩⟩
abbrev Og (B:Bk)(RO:Nat->List RowQ)(es:List (Nat × Nat)):Lp.Sys:=ci (bs B*bp B+bs B*es.length) (eO (yY (dP B RO) (bs B*bp B) (bp B) es (bs B*es.length)))
abbrev objR (B:Bk)(es:List (Nat × Nat))(j:Nat):Rat:=(mZ (bs B*bp B) (bs B*es.length)).getD j 0
inductive FlatO (B:Bk) (RO:Nat->List RowQ) (es:List (Nat × Nat)) (D:Mem):Value->Prop where
|opt (v:Rat) (pt du:Nat->Rat) (fv dv:Value):Lp.OptR (Og B RO es) (objR B es) 20 v pt du->FieldsIn D fv (yL (bs B) (bp B) pt)->Sl D 1 dv (((List.range (Og B RO es).m).map du).map aQ)->FlatO B RO es D (.tuple #[.agg ⟨[fv,af (qtx v),dv]⟩,.int .i64 0])
|inf:¬ (Og B RO es).Hold->FlatO B RO es D (.tuple #[.agg ⟨[.slice none 0 0,af [],.slice none 0 0]⟩,.int .i64 22])
theorem Calm.rl {B:Bk}{c:List Rat}{a:Nat->List RowQ}(h:Calm B c a):∀ r∈dP B a,r.f.length=bs B*bp B:=fun r hr=>(h.rowsQ (dD B.obs.length)).l (r.f,r.b) (QE.2 ⟨r,hr,rfl⟩)
theorem O1 {s:Nat}(h:∀ r∈rows,r.f.length=s*p):∀ r∈yY rows (s*p) p es (s*es.length),r.f.length=s*p+s*es.length:=by
 intro r hr;rcases QS.1 hr with hr|hr
 ·obtain⟨x,a,rfl⟩:=QE.1 hr;show(x.f++List.replicate _ 0).length=_;rw[QG,Rb,h x a]
 obtain⟨k,_,hr⟩:=List.mem_flatMap.1 hr;rcases QQ.1 hr with rfl|hr
 ·exact zc _ _ _ _ _ _ _
 rw[QY.1 hr];exact zc _ _ _ _ _ _ _
theorem uc (h:∀ r∈rows,RowI r):∀ r∈eO rows,(∀ x∈r.1,QB 22 x)/\QB 22 r.2 :=
 om (P:=fun r=>(∀ x∈r.1,QB 22 x)/\QB 22 r.2) fun r hr=>⟨fun x a=>((h r hr).q.1 x a).le dc_,(h r hr).q.2.le dc_⟩
theorem OW (h:∀ r∈rows,RowI r)(a:∀ r∈rows,r.f.length=n)(b:rows.length<=150):RowsQ n (eO rows) :=
 ⟨om (P:=fun r=>r.1.length=n) a,fun r hr=>⟨fun x c=>((uc h r hr).1 x c).le dc_,(uc h r hr).2.le dc_⟩,by rw[eO,ar];exact b⟩
theorem ML (h b:Nat):∀ x∈mZ h b,QB 22 x:=fun x a=>by
 rcases QS.1 a with a|a
 ·rw[(List.mem_replicate.1 a).2];exact QB_zero.le dc_
 rw[(List.mem_replicate.1 a).2];decide +kernel
theorem DD {m:Nat}{a:Nat->Rat}(h:n<=m):(((List.range m).map a).map qtx).take n=((List.range n).map a).map qtx:=by
 rw[<- SH,<- SH,List.take_range,RD h]
theorem J9 (C:Mem)(e:Tabs C)(f:Value)(B:Bk)(y:List Rat)(b:Nat->List RowQ)(c:BookIn C f B)(h:Calm B y b)(z:bp B<=6)(A:bs B<=2)(V:∀ es,EdgL B.tris es->bs B*bp B+bs B*es.length<=12) :
  Pur cx.P 42 [f] C fun u D=>∃ es,EdgL B.tris es/\FlatO B b es D u:=by
 have E:=c;have F:=h.rich.good;have H:=h.rich.bookz e c;have W:=h.cnt (dD B.obs.length);have az:=h.n12;have X:∀ D:Mem,C.le D->Gives cx.P 92 [f] D (.tuple #[.int .i64 (bs B*bp B:Nat),.int .i64 0]):=fun D Y=>by
  have h:=zN D f B 0 (H.mono Y) om_;rw[aJ rfl]at h;exact h
 obtain⟨v1,v2,tv,cv,ov,rfl,h1,h2,h3,h4,h5⟩:=id c.ex;have aA:maxLen<=9223372036854775807:=by simp[maxLen]
 refine Ur func42 59 U3 fun w0=>Ul fun R a=>UC U6 fun b1=>UB U5 fun b2=>C6 1 [1,2] a Z<|G.freeze 1 Z fun _ _ o=>Ul fun R a=>Uj (bkT o 5) U8<|UR (Jk _ e.m_ _ B y b E.m_ h z A) U7 (fun aB _ _ aa=>?_);obtain⟨es,x,rfl,d,A1,n1,c1,A2,n2,c2,rfl,ab,ac⟩:=aa;have ad:=V es d;have ae:=O1 (es:=es) h.rl;have I:=O2 (s:=bs B) (p:=bp B) (es:=es) (h.rowI (dD B.obs.length));obtain⟨ah,_⟩:=d.le F.ok.ins z;have aC:bs B*es.length<=30:=R0 A ah;have ai:(yY (dP B b) (bs B*bp B) (bp B) es (bs B*es.length)).length<=150:=by
  rw[Jl];have:(dP B b).length<=120:=W;omega
 have aj:=d.ok (n:=bp B) F.ok.ins (bs B);refine Um 3 Z<|UB U5 fun b4=>Us (j:=0) U12<|C6 1 [1,2,4,5] a Z<|Uh 2 [1,2,4,5,15] Z<|G.cd (fun J=>?_) fun J=>?_
 ·exact absurd J dc_
 refine G.freeze 0 Z fun _ _ ak=>Ul fun R a=>Uj (bkT ak 3) U8<|UK (F7 _ e.m_ (bs B*bp B+bs B*es.length) _ _ (eO (yY (dP B b) (bs B*bp B) (bp B) es (bs B*es.length))) (mZ (bs B*bp B) (bs B*es.length)) ab.m_ ac.m_ (OW I ae ai) (ML _ _) (uc I) om_ (BB _ _) (MJ ad (h.rowI (dD B.obs.length)))) U7 fl_ (fun aD _ _ am=>?_);obtain⟨rr,rfl,an⟩:=am;obtain⟨kd,val,Ap,K,g,L,nd,cd,Ar,nr,cr,rfl,M⟩:=Do an;refine Um 3 Z<|UB U5 fun b6=>Us (j:=0) U12<|C6 1 [1,2,5,6] a Z<|G.freeze 0 Z fun _ _ i=>Uh 2 [1,2,5,6,24] Z<|G.cd (fun N=>?_) fun N=>?_
 ·exact absurd N dc_
 refine Ui 1 Z fun R a=>Uj (bkT i 1) U8<|C6 1 [1,2,6,29] a Z<|G.cd (fun q=>?_) fun q=>?_
 ·have r:kd≠1:=by simpa using q
  have ao:¬ (Og B b es).Hold:=by
   rcases M with⟨h,_⟩|⟨_,h|⟨pt,ra,hu⟩⟩
   ·exact absurd h r
   ·exact h
   exact(MI aj h.rl hu).elim
  refine Ul fun R a=>UA ([.slice none 0 0,af [],.slice none 0 0]) U8<|Us (j:=0) U12<|C6 1 [2,3] a Z<|Uv (VV ag Z Z Z Z Z ?_);exact⟨Z,es,d,.inf ao⟩
 have r:kd=1:=by simpa using q
 obtain⟨v,pt,du,rfl,t,rfl,w,aq⟩:∃ v pt du,val=qtx v/\Lp.OptR (Og B b es) (objR B es) 20 v pt du/\K=bs B*bp B+bs B*es.length/\Sl _ 1 (.slice Ap K g) (((List.range (bs B*bp B+bs B*es.length)).map pt).map aQ)/\Sl _ 1 (.slice L nd cd) (((List.range (Og B b es).m).map du).map aQ):=by
  rcases M with⟨_,h⟩|⟨h,_⟩
  ·exact h
  exact absurd r h
 have O:=xL (s:=bs B) (p:=bp B) t.qp;have au:bs B*bp B<=bs B*bp B+bs B*es.length:=Nat.le_add_right _ _;rw[Hq]at w;have aE:bs B*bp B+bs B*es.length<=g:=by
  obtain⟨A',c',Q,av,_⟩:=id w;simp only[Value.slice.injEq]at Q;obtain⟨_,aF,aG⟩:=Q;simp only[ar,RV]at av;omega
 have S:=w.sub (l:=0) (h:=bs B*bp B) (m:=g) (QH _) al om_ (Qz _);rw[RR,<- SH,DD au]at S;refine Ul fun R a=>Uj (bkT o 5) U8<|Ut (X _ mup) U7<|C6 5 [1,2,5,6,7] a Z<|Uh 2 [1,2,5,6,7,37] Z<|G.cd (fun T=>?_) fun T=>?_
 ·exact absurd T dc_
 refine UD [0,1,2,3,4,5,6,7,8,9,10] [] Z kr_ fun R c a=>Uj (bkT o 5) U8<|Uk U6<|Uj (bkT i 1) U8<|Uk U6<|Vg 0 (bs B*bp B) g U12 (fun _=>⟨.inl ⟨Z,Z⟩,.inr ⟨_,Z⟩,.inl ⟨Z,Z⟩,by omega,by omega,Qz _⟩) U2<|UK (xU _ e.m_ _ _ B (((List.range (bs B*bp B)).map pt).map qtx) E.m_ H.m_ om_ S.m_ (wZ t.qp) ap) U7 fl_ (fun aH _ _ aw=>?_);obtain⟨fv,rfl,k⟩:=aw;rw[O,aJ rfl]at k;rw[O];obtain⟨ax,aI,aK,ay⟩:=id k;obtain⟨Af,cf,rfl,_⟩:=id ay;rw[ar]at k⊢;refine Um 5 Z<|Un [2,5,6,8] a Z ?_;clear a c R;refine Uh 2 [2,5,6,8,50] Z<|G.cd (fun U=>?_) fun U=>?_
 ·exact absurd U dc_
 refine Ui 2 Z fun R a=>Uj (bkT i 1) U8<|Uk U6<|Uj (bkT i 1) U8<|UA [.slice Af ax.length cf,af (qtx v),.slice L nd cd] U8<|Us (j:=0) U12<|C6 1 [2,3] a Z<|Uv (VV ag Z Z Z Z Z ?_);exact⟨Z,es,d,.opt v pt du _ _ t k.m_ aq.m_⟩
def gT (s p:Nat)(pt:Nat->Rat):List (List Rat):=(List.range s).map fun j=>(((List.range (s*p)).map pt).take ((j+1)*p)).drop (j*p)
theorem Mq (s p:Nat)(a:Nat->Rat):(gT s p a).map (·.map qtx)=yL s p a:=by
 unfold gT yL chunks Ej;rw[RC];refine List.map_congr_left fun j _=>?_;show(List.drop _ (List.take _ _)).map qtx=_;rw[List.map_drop,SH]
theorem gN (C:Mem)(a x y d:Str):Gives cx.P 56 [af a,af x,af y,af d] C (.agg ⟨[.int .i64 2,af a,af x,af y,af d,af [66],af [65],af [],af [],af []]⟩):=by
 refine Ur func56 15 U3 fun w0=>Ul fun R b=>UB U5 fun c=>Un [0,1,2,3,8] b Z<|Ui 3 Z fun R b=>UA [af x,af y] U8<|Uk U6<|UA [.int .i64 2,af a,af x,af y,af d,af [66],af [65],af [],af [],af []] U8<|Us (j:=0) U12<|Un [8] b Z<|Uv (Va ag U4 ?_);exact⟨Z,Z⟩
theorem P1 (l:List Nat):(xB l).pts.map gl=[[af [48],af [48]],[af [54],af [48]],[af [48],af [52]]]:=by
 show [[af (qtx 0),af (qtx 0)],[af (qtx 6),af (qtx 0)],[af (qtx 0),af (qtx 4)]]=_;rw[MV,Jt,Ln]
theorem P7 (l:List Nat):(xB l).col.map xY=[[af [65],af [48],af []],[af [66],af [48],af []]]:=by
 show [[af [65],af (qtx 0),af []],[af [66],af (qtx 0),af []]]=_;rw[MV]
theorem kZ (C:Mem)(b:Value)(l:List Nat)(c:Sl C 10 b ((l.map xO).map rI)):Pur cx.P 55 [b] C fun u D=>BookIn D u (xB l):=by
 obtain⟨f,c0,rfl,_⟩:=id c;refine Ur func55 20 U3 fun w0=>Ul fun R a=>UB U5 fun p=>Un [0,2] a Z<|Ul fun R a=>UA [af [48],af [48]] U8<|UA [af [54],af [48]] U8<|UA [af [48],af [52]] U8<|Ve [[af [48],af [48]],[af [54],af [48]],[af [48],af [52]]] U12 fl_ fun d _ _ g=>UA [.int .i64 0,.int .i64 1,.int .i64 2] U8<|Ve [[.int .i64 0,.int .i64 1,.int .i64 2]] U12 fl_ fun e _ _ h=>UA [.slice (some ⟨d,0,none⟩) 3 3,.slice (some ⟨e,0,none⟩) 1 1] U8<|UB U5 fun q=>Us (j:=0) U12<|Un [0,2,3] a Z<|Ul fun R a=>UA [af [65],af [48],af []] U8<|UA [af [66],af [48],af []] U8<|Ve [[af [65],af [48],af []],[af [66],af [48],af []]] U12 fl_ fun i _ _ k=>C6 1 [0,2,3,4] a Z<|G.freeze 0 Z fun _ _ m=>Ul fun R a=>Uj (bkT m 2) U8<|Ve [[af [49,48]],[af [49,48]],[af [49,48]]] U12 fl_ fun n _ _ o=>Um 2 Z<|UA [.slice (some ⟨d,0,none⟩) 3 3,.slice (some ⟨e,0,none⟩) 1 1,.slice (some ⟨n,0,none⟩) 3 3,.slice (some ⟨i,0,none⟩) 2 2,.slice f ((l.map xO).map rI).length c0] U8<|Us (j:=0) U12<|Un [2] a Z<|Uv (Va ag U4 ?_);exact⟨Z,_,_,_,_,_,Z,by rw[P1];exact g.mono mup,h.mono mup,o.mono mup,by rw[P7];exact k.mono mup,c.mono mup⟩
def xC:List Rat:=jF 3 0 (0,1,2) (wgt (xB []).pts (0,1,2) (3,0)) 3
theorem xC_e:sgL xC 0=[1/2,1/2,0]/\sgL xC 1=[-1/2, -1/2,0]:=by decide +kernel
theorem P5:∀ k,k<2->Lp.Lim (ci 3 (eO (xR 0))) (fun j=>(sgL xC k).getD j 0) 20:=fun k a=>by
 have b:∀ k<2,∀ j<3,wlB 2 ((sgL xC k).getD j 0)=true:=by decide +kernel
 exact uJ dc_ (K5 0 dc_) ⟨2,by decide,by decide,fun j c=>EX (b k a j c)⟩
theorem Ma (h:Ih (ci 3 (eO (xR 0))) xC u):u=.tuple #[af [54],af [54],.int .i64 0]:=by
 obtain⟨e,f,g,i,_,h1,h2,h3⟩:=h;rw[xC_e.1]at h1;rw[xC_e.2]at h2;obtain⟨a,c⟩:=h1.same P4;obtain⟨b,d⟩:=(h2 om_).same Ox;rcases h3 with⟨h3,_⟩|⟨_,rfl⟩
 ·omega
 unfold qe fP;rw[aJ a,aJ b,c a,d b,show(1:Rat)*6=6 by decide +kernel,show(-1:Rat) * -6=6 by decide +kernel,Jt]
theorem Md {D:Mem}(h:BuiO (xB [0,1]) (xRO [0,1]) D u):∃ (A:Option Addr)(n c:Nat),u=.tuple #[.slice none 0 0,.agg ⟨[.slice A n c]⟩,.bool false,.int .i64 0]:=by
 cases h with
|yes pt v h1 h2 h3 h4 =>
  unfold nI at h1;rw[OZ]at h1;exact absurd ⟨pt,h1⟩ x_no
|no du a h1 h2 =>
  obtain⟨A,c,rfl,_⟩:=id h2;exact⟨_,_,_,Z⟩
theorem Mb {D:Mem}(b:EdgL (xB [2,3]).tris es)(h:FlatO (xB [2,3]) (xRO [2,3]) es D u):∃ (A:Option Addr)(n c:Nat)(A2:Option Addr)(n2 c2:Nat),u=.tuple #[.agg ⟨[.slice A n c,af [54],.slice A2 n2 c2]⟩,.int .i64 0]:=by
 obtain rfl:=b.same Px;have a:=Oz;rw[<- OY]at a;cases h with
|opt v pt du f g h1 h2 h3 =>
  obtain⟨vs,_,_,d⟩:=h2;obtain⟨A,c,rfl,_⟩:=id d;obtain⟨A2,c2,rfl,_⟩:=id h3;have e:=(h1.val.same a).2 rfl;exact⟨_,_,_,_,_,_,by rw[e,Jt]⟩
|inf h1 =>
  obtain⟨_,⟨y,hy,_⟩,_⟩|⟨h,_⟩|⟨h,_⟩:=a
  ·exact absurd ⟨y,hy⟩ h1
  ·cases h
  cases h
theorem lu:rI (xO 0)=[.int .i64 2,af [97],af [51],af [48],af [52],af [66],af [65],af [],af [],af []]/\rI (xO 1)=[.int .i64 2,af [98],af [51],af [48],af [53],af [66],af [65],af [],af [],af []] /\
  rI (xO 2)=[.int .i64 2,af [97],af [48],af [48],af [52],af [66],af [65],af [],af [],af []]/\rI (xO 3)=[.int .i64 2,af [98],af [54],af [48],af [49],af [66],af [65],af [],af [],af []]:=by
 rw[Iu,Iu,Iu,Iu];exact⟨Z,Z,Z,Z⟩
theorem P0:(.agg ⟨[af [51],af [48]]⟩:Value)=ptV (3,0):=by
 show _=Value.agg ⟨[af (qtx 3),af (qtx 0)]⟩;rw[FU,MV]
theorem GY (C:Mem)(b:Tabs C):Gives cx.P 11 [] C (.bool true):=by
 have c:=fun(D:Mem)(d:C.le D)(bv:Value)(e:BookIn D bv (xB [0]))=>qu D (b.mono d) bv (xB [0]) xFs (xRO [0]) 0 (3,0) 0 [] (0,1,2) [49,48] e (yI ok0) dc_ (K6 0 dc_).2.2.2.2 ⟨bi (K6 0 dc_).2.1,bi (K6 0 dc_).2.2.1⟩ (IC 0 dc_) rfl (x_w 0 dc_)
  (by rw[<- O9];exact Ot 0 dc_) (fun k f=>by
   have:=P5 k f;rw[<- rows0]at this;exact this)
 have g:∀ es,EdgL (xB [2,3]).tris es->bs (xB [2,3])*bp (xB [2,3])+bs (xB [2,3])*es.length<=12:=fun es h=>by
  obtain rfl:=h.same Px;decide
 refine Ur func11 64 U3 fun w0=>Ui 1 Z fun R a=>Vp [] trivial (a _ _ _ Z ?_);refine Ul fun R a=>Ut (gN _ [97] [51] [48] [52]) U7<|Ve [[.int .i64 2,af [97],af [51],af [48],af [52],af [66],af [65],af [],af [],af []]] U12 fl_ fun w _ _ i=>UK (kZ _ _ [0] (by show Sl _ 10 _ [rI (xO 0)];rw[lu.1];exact i.mono mup)) U7 fl_ fun x _ _ l=>UA [af [51],af [48]] U8 ?_;rw[P0];refine UR (c _ mup _ l.m_) U7 (fun y _ _ m=>?_);obtain rfl:=Ma (by have:=m;unfold nI at this;rw[rows0]at this;exact this);refine C6 7 [1,2,3] a Z<|Ul fun R a=>Ut (gN _ [97] [51] [48] [52]) U7<|Ut (gN _ [98] [51] [48] [53]) U7<|Ve [[.int .i64 2,af [97],af [51],af [48],af [52],af [66],af [65],af [],af [],af []],[.int .i64 2,af [98],af [51],af [48],af [53],af [66],af [65],af [],af [],af []]] U12 fl_ fun z _ _ n=>UK (kZ _ _ [0,1] (by show Sl _ 10 _ [rI (xO 0),rI (xO 1)];rw[lu.1,lu.2.1];exact n.mono mup)) U7 fl_ fun A _ _ o=>UR (xE _ b.m_ _ (xB [0,1]) xFs (xRO [0,1]) o.m_ (yI ok01)) U7 (fun B _ _ p=>?_);obtain⟨E,nb,F,rfl⟩:=Md p;refine Um 5 Z<|UB U5 fun H=>Uk U6<|Us (j:=0) U12<|C6 2 [1,2,3,6,7] a Z<|Ul fun R a=>Ut (gN _ [97] [48] [48] [52]) U7<|Ut (gN _ [98] [54] [48] [49]) U7<|Ve [[.int .i64 2,af [97],af [48],af [48],af [52],af [66],af [65],af [],af [],af []],[.int .i64 2,af [98],af [54],af [48],af [49],af [66],af [65],af [],af [],af []]] U12 fl_ fun I _ _ q=>UK (kZ _ _ [2,3] (by show Sl _ 10 _ [rI (xO 2),rI (xO 3)];rw[lu.2.2.1,lu.2.2.2];exact q.mono mup)) U7 fl_ fun J _ _ r=>UK (J9 _ b.m_ _ (xB [2,3]) xFs (xRO [2,3]) r.m_ (yI ok23) dc_ dc_ g) U7 fl_ (fun K _ _ s=>?_);obtain⟨es,t,u⟩:=s;obtain⟨L,M,N,O,Q,S,rfl⟩:=Mb t u;exact Um 3 Z<|UB U5 fun T=>Us (j:=0) U12<|C6 1 [1,2,3,6,7,8,9] a Z<|G.freeze 0 Z fun _ _ v=>Ui 5 Z fun R a=>UJ U8<|Um 3 Z<|UJ U8<|Um 3 Z<|UJ U8<|Um 3 Z<|UJ U8<|Um 3 Z<|UJ U8<|Um 2 Z<|UM U6 (fun _=>PtrTo.blockT (Mem.get v mup) _ 1) U3<|Uk U6<|UJ U8<|C6 1 [0] a Z<|Up U2<|⟨Z,Z⟩
end Go.Proofs.YtfjcldheldflbaaGreatDoor
