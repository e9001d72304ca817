/- Laws that the proofs of this seat share, part 15. -/
import Derived.Test.YtfjcldheldflbaaGreatDoorG14
import Derived.Test.YtfjcldheldflbaaGreatDoorShelf
set_option maxHeartbeats 4000000
namespace Go.Proofs.YtfjcldheldflbaaGreatDoor
open Go.Proofs.Tryz
open Go Go.Jog
set_option maxRecDepth 100000
variable {C:Mem}{es:List (Nat × Nat)}{i:Nat}{l:List RowQ}{n p:Nat}{r r':RowQ}{rows:List RowQ}{u:Value}{us:List Value}{w:Value}
theorem MJ (n:Nat)(q:Rat):List.replicate n (af (qtx q))=((List.replicate n q).map aQ).flatten:=by
 rw [R4];induction n with
 | zero=>rfl
 | succ n a=>rw [QJ,QJ,QQ,<- a];rfl
theorem LL (C:Mem)(v:Value)(n:Nat)(q:Rat)(s:Str)(a:qtx q=s)(c:Sl C 1 v [[af s]])(d:n<=1000000):Pur cx.P 64 [v,.int .i64 n] C fun u D=>∃ b,u=.slice (some ⟨b,0,none⟩) n n/\Sl D 1 u ((List.replicate n q).map aQ) :=
 Vq (jC C v n s c d) fun u e f ⟨b,h1,h2⟩=>.inr ⟨u,32,1,(List.replicate n q).map aQ,by rw [h2,<- MJ,a];simp,bR,fun D _ h=>⟨b,h1,h⟩⟩
theorem og (C:Mem)(n:Nat)(h:n<=100000):Pur cx.P 77 [.int .i64 n] C fun u D=>∃ b,u=.slice (some ⟨b,0,none⟩) n n/\Sl D 1 u ((List.replicate n (0:Rat)).map aQ) :=
 Vq (lP C n h) fun u a c ⟨b,h1,h2⟩=>.inr ⟨u,32,1,(List.replicate n 0).map aQ,by rw [h2,<- lu];simp,bR,fun D _ h=>⟨b,h1,h⟩⟩
def yA (rows:List RowQ)(more i:Nat):List RowQ:=(rows.take i).map (fk more)++rows.drop i
theorem I2 (a:List RowQ)(b i:Nat):(yA a b i).length=a.length:=by
 unfold yA;rw [PM,al,<- PM,Qw]
theorem Mr {more:Nat}(h:rows[i]?=some r):(yA rows more i)[i]?=some r/\yA rows more (i+1)=(yA rows more i).set i (fk more r):=by
 have c:=(aJ.1 h).1;have a:((rows.take i).map (fk more)).length=i:=by rw [al,PS];omega
 have b:rows.drop i=r::rows.drop (i+1):=by rw [P1 c,(aJ.1 h).2]
 unfold yA;constructor
 ·rw [P4 om_,a,Sf,b];rfl
 rw [P6,h,Qg,b,List.set_append_right _ _ om_,a,Sf];simp
theorem fZ (d:us.length=l.length)(c:l[i]?=some r)(e:r'.b=r.b) :
  aE (aB us l).flatten [w] (i*2)=(aB (us.set i w) (l.set i r')).flatten:=by
 have f:=(aJ.1 c).1;obtain ⟨u0,g⟩:∃ u0,us[i]?=some u0:=⟨us[i]'om_,aj om_⟩;have h:us=us.take i++u0::us.drop (i+1):=by
  conv=>lhs;rw [<- Qw i us,P1 om_,(aJ.1 g).2]
 have j:l=l.take i++r::l.drop (i+1):=by
  conv=>lhs;rw [<- Qw i l,P1 om_,(aJ.1 c).2]
 have a:(us.take i).length=(l.take i).length:=by rw [PS,PS,d]
 have k:aB us l=aB (us.take i) (l.take i)++[u0,af (qtx r.b)]::aB (us.drop (i+1)) (l.drop (i+1)):=by
  conv=>lhs;rw [h,j]
  unfold aB;rw [List.zipWith_append a];rfl
 have m:aB (us.set i w) (l.set i r')=aB (us.take i) (l.take i)++[w,af (qtx r.b)]::aB (us.drop (i+1)) (l.drop (i+1)):=by
  rw [List.set_eq_take_append_cons_drop,aK om_,List.set_eq_take_append_cons_drop,aK f];unfold aB;rw [List.zipWith_append a,<- e];rfl
 have n:(aB (us.take i) (l.take i)).flatten.length=i*2:=by
  rw [aN (bT _ _),bI a,PS,QK om_]
 rw [k,m,Ql,Ql,QQ,QQ];exact vH (A:=(aB (us.take i) (l.take i)).flatten) (x:=u0) (B:=af (qtx r.b)::(aB (us.drop (i+1)) (l.drop (i+1))).flatten) n
theorem jA (h:RowsOk C us l)(b:Sl C 1 w (r'.f.map ec)):RowsOk C (us.set i w) (l.set i r'):=by
 refine ⟨by rw [Qp,Qp];exact h.1,fun j v r a hr=>?_⟩;rw [List.getElem?_set] at a hr;by_cases e:i=j
 ·subst e;rw [aK rfl] at a hr;split at a
  ·split at hr
   ·cases a;cases hr;exact b
   cases hr
  cases a
 rw [aG e] at a hr;exact h.2 j v r a hr
theorem yq (h:RowsOk C us l)(e:Sl C 1 w (r.f.map ec)):RowsOk C (us++[w]) (l++[r]):=by
 refine ⟨by rw [PM,PM,h.1];rfl,fun j v x a b=>?_⟩;have:=h.1;rcases P8 j us.length with c | c
 ·rw [Qm c] at a;rw [Qm om_] at b;exact h.2 j v x a b
 rw [P4 c] at a;rw [P4 om_] at b;cases d:j-us.length with
 | zero =>
  rw [d] at a;rw [show j-l.length=0 by omega] at b;cases a;cases b;exact e
 | succ k=>rw [d] at a;cases a
theorem vY (d:us.length=l.length)(a:l[i]?=some r)(e:us[i]?=some w):((aB us l).flatten.drop (i*2)).take 2=[w,af (qtx r.b)]:=by
 have k:=(aJ.1 a).1;have f:us=us.take i++w::us.drop (i+1):=by
  conv=>lhs;rw [<- Qw i us,P1 om_,(aJ.1 e).2]
 have g:l=l.take i++r::l.drop (i+1):=by
  conv=>lhs;rw [<- Qw i l,P1 om_,(aJ.1 a).2]
 have c:(us.take i).length=(l.take i).length:=by rw [PS,PS,d]
 have h:aB us l=aB (us.take i) (l.take i)++[w,af (qtx r.b)]::aB (us.drop (i+1)) (l.drop (i+1)):=by
  conv=>lhs;rw [f,g]
  unfold aB;rw [List.zipWith_append c];rfl
 have j:(aB (us.take i) (l.take i)).flatten.length=i*2:=by
  rw [aN (bT _ _),bI c,PS,QK om_]
 rw [h,Ql,QQ,<- j,List.drop_left];rfl
theorem pV (l:List Rat):((l.map aQ).all fun r=>r.all nk)=true:=by
 rw [PY];intro r hr;obtain ⟨q,_,rfl⟩:=PK.1 hr;rfl
theorem Iu {h:Nat}{k q:Nat}(a:q<2):(rgK n h p es k).take (q+1)=(rgK n h p es k).take q++[⟨rgF n h p es.length k (edg es k) (nI q),0⟩]:=by
 rcases (by omega:q=0∨q=1) with rfl | rfl <;> rfl
def PC (D:Mem)(n:Nat)(rows:List RowQ)(ob:List Rat)(u:Value):Prop:=∃ (A1:Option Addr)(n1 c1:Nat)(A2:Option Addr)(n2 c2:Nat),u=.agg ⟨[.int .i64 n,.slice A1 n1 c1,.slice A2 n2 c2]⟩/\RowsT D (.slice A1 n1 c1) ((eI rows).map fH)/\Sl D 1 (.slice A2 n2 c2) (ob.map aQ)
abbrev sR7 (A:Option Addr)(n c:Nat):Value:=.slice A n c
abbrev sF7 (A:Option Addr)(n c:Nat):Value:=.slice A n c
theorem Ir (C:Mem)(hT:Tabs C)(bv:Value)(B:Bk)(fs:List Rat)(RO:Nat->List RowQ)(d:BookIn C bv B)(h:Calm B fs RO)(a0:bp B<=6)(a1:bs B<=2) :
  Pur cx.P 22 [bv] C fun u D=>∃ es x,u=.tuple #[x,.int .i64 0]/\EdgL B.tris es/\PC D (bs B*bp B+bs B*es.length) (yr (dh B RO) (bs B*bp B) (bp B) es (bs B*es.length)) (mF (bs B*bp B) (bs B*es.length)) x:=by
 have a2:=d;have hG:=h.rich.good;have a3:=h.n12;have a4:=h.cnt (dq B.obs.length);have ae:=fun (D:Mem)(hD:C.le D)=>fN D (hT.mono hD) bv B fs RO (d.mono hD) h;obtain ⟨v1,v2,tv,cv,ov,rfl,h1,h2,h3,h4,h5⟩:=id d.ex;have hm:MeshIn C (.agg ⟨[v1,v2]⟩) B.pts B.tris:=⟨v1,v2,rfl,h1,h2⟩;obtain ⟨s,t,rfl,a5,_⟩:=id h1;obtain ⟨A4,c4,rfl,a6,_⟩:=id h4;have a7:(B.pts.map gi).length=bp B:=al _;have a8:(B.col.map sj).length=bs B+1:=by rw [al];have:=h.rich.scol.1;omega
 simp only [a7,a8] at h1 a5 h4 a6 hm a2 ae ⊢;have bK:maxLen<=9223372036854775807:=by simp [maxLen]
 obtain ⟨n,hn⟩:∃ n,bs B*bp B=n:=⟨_,rfl⟩;obtain ⟨rows,ar⟩:∃ rows,dh B RO=rows:=⟨_,rfl⟩;rw [show oT B RO (List.range B.obs.length)=rows from ar] at a4;rw [hn] at ae a3 ⊢;rw [ar] at ae ⊢;have a9:∀ r∈rows,r.f.length<=12:=fun r hr=>by
  have h1:=(h.rowsQ (dq B.obs.length)).l (r.f,r.b) (PK.2 ⟨r,by rw [<- ar] at hr;exact hr,rfl⟩);have h2:r.f.length=bs B*bp B:=h1;omega
 refine Tr func22 153 U3 fun w0=>?_;refine Tl fun R c=>?_;refine TC U6 (fun b1=>?_);refine TB U5 (fun v=>?_);refine C6 1 [1,2] c Z ?_;clear c R;refine G.freeze 1 Z (fun _ _ ak=>?_);refine TH [(1,3)] Z (fun R c=>?_);refine Tj (bkT ak 5) U8 ?_;refine D.call (ae _ mup) Z (.inr dc_) U6 (PI _) fl_ (fun bL _ bM _ ba=>?_);obtain ⟨O,E,bo,vs,rfl,bb,rfl⟩:=ba;refine Tm 3 Z ?_;refine TB U5 (fun y=>?_);refine Ts (j:=0) U12 ?_;refine C6 1 [1,2,4,5] c Z ?_;clear c R;refine Th 2 [1,2,4,5,24] Z ?_;refine G.cd (fun aJ=>?_) fun aJ=>?_
 ·exact absurd aJ dc_
 refine Ti 1 Z fun R c=>?_;refine Tj (bkT ak 2) U8 ?_;refine TT (Jy _ hT.m_ _ B.pts B.tris hm.m_ hG) U7 (fun bN _ _ bc=>?_);obtain ⟨es,ev,rfl,au,av⟩:=bc;obtain ⟨Ae,ce,rfl,bd,_⟩:=id av;simp only [al] at av bd ⊢;obtain ⟨be,bO⟩:=au.le hG.ok.ins a0;obtain ⟨a,ad⟩:∃ a,bs B*es.length=a:=⟨_,rfl⟩;have bP:a<=30:=by rw [<- ad];exact Q3 a1 be
 refine C6 5 [1,2,4,5,6] c Z ?_;clear c R;refine Th 2 [1,2,4,5,6,34] Z ?_;refine G.cd (fun aK=>?_) fun aK=>?_
 ·exact absurd aK dc_
 refine TD [0,1,2,3,4,5,6,7] [] Z kr_ (fun R d c=>?_);refine Tk U6 ?_;refine To ag U9 ?_;refine Tm 2 Z ?_;refine Tj (bkT ak 1) U8 ?_;refine Tm 3 Z ?_;refine Tn [1,2,4,6,7,8] c Z ?_;clear c d R;refine Ti 1 Z fun R c=>?_;refine Tj (bkT ak 1) U8 ?_;refine Tk U6 ?_;refine TS (((bs B:Nat):Int)) U4 om_ om_ om_ U2 ?_;refine Tm 2 Z ?_;refine TS (((a:Nat):Int)) U4 (by rw [<- ad,Qa]) om_ om_ U2 ?_;refine C6 1 [2,4,6,7,8,9] c Z ?_;clear c R;refine Ti 1 Z fun R c=>?_;refine To ag U9 ?_;refine Tk U6 ?_;refine TS (((n+a:Nat):Int)) U4 om_ om_ om_ U2 ?_;refine Tk U6 ?_;refine Ts (j:=0) U12 ?_;refine Tn [2,4,6,7,8,9] c Z ?_;clear c R;refine Ti 1 Z fun R c=>?_;refine To ag U9 ?_;refine Tm 3 Z ?_;refine To ag U9 ?_;refine Tm 2 Z ?_;refine Tq _ Z U6 ?_;refine Tq _ Z U6 ?_;refine Tk U6 ?_;refine TQ U8 ?_;refine Tn [2,4,6,7,8,9,66] c Z ?_;clear c R;refine G.cd (fun aL=>?_) fun aL=>?_
 ·exact absurd aL ap
 refine TD [0,1,3,2,4,5,6,7] [] Z kr_ (fun R d c=>?_);refine Tk U6 ?_;refine To ag U9 ?_;refine Tk U6 ?_;refine TF [[af [49]]] U12 (fun bQ _ _ bf=>?_);refine TO (LL _ _ a 1 [49] LU bf.m_ om_) U7 fl_ (fun bS _ _ bg=>?_);obtain ⟨bU,rfl,bh⟩:=bg;refine TR (j:=2) U11 bh.m_ (pV _) (by simp only [al,Qd,maxLen];omega) (by simp only [al,Qd];omega) fl_ (fun e o p=>?_);refine Tk U6 ?_;refine Ts (j:=1) U12 ?_;refine Tn [2,4,6,7,8,9] c Z ?_;clear c d R;refine Ti 1 Z fun R c=>?_;refine To ag U9 ?_;refine C6 2 [2,4,6,7,8,9,76,77,78] c Z ?_;clear c R;have bj:List.replicate n (af [48])++((List.replicate a (1:Rat)).map aQ).flatten=((mF n a).map aQ).flatten:=by
  rw [lu];unfold mF;rw [Qg,Ql]
 have bk:n+((List.replicate a (1:Rat)).map aQ).length=n+a:=by simp
 refine G.perm (L':=[.arr (sR7 O rows.length E) 140 2 (rows.length) (aB vs (yA rows a 0)).flatten,.arr (sF7 e o p) 32 1 (n+a) ((mF n a).map aQ).flatten,.obj y (.cells ⟨[.int .i64 (n+a:Nat),.slice O rows.length E,.slice e o p]⟩ 74 (0,0)),.obj v (.cells ⟨[.int .i64 0,.slice none 0 0,.slice none 0 0]⟩ 74 (0,0))]) (by rw [show yA rows a 0=rows from Z,<- bj,<- bk];(exact pkL [2,1,0,0] Z)) ?_;refine G.loop (fun fr K z F=>∃ (i:Nat)(us:List Value),(i<=rows.length/\RowsOk K us (yA rows a i))/\fr=[(2,[],.pointer (some ⟨v,0,none⟩)),(4,[],.pointer (some ⟨y,0,none⟩)),(6,[],.slice Ae es.length ce),(7,[],.int .i64 n),(8,[],.int .i64 (bp B:Nat)),(9,[],.int .i64 a),(76,[],.slice O rows.length E),(77,[],.int .i64 rows.length),(78,[],.int .i64 i)]/\z=[.arr (sR7 O rows.length E) 140 2 rows.length (aB us (yA rows a i)).flatten,.arr (sF7 e o p) 32 1 (n+a) ((mF n a).map aQ).flatten,.obj y (.cells ⟨[.int .i64 (n+a:Nat),.slice O rows.length E,.slice e o p]⟩ 74 (0,0)),.obj v (.cells ⟨[.int .i64 0,.slice none 0 0,.slice none 0 0]⟩ 74 (0,0))]/\F=rows.length-i) (hn_ [2,4,6,7,8,9,76,77,78] Z) ⟨0,vs,⟨PL _,by rw [show yA rows a 0=rows from rfl];exact RowsOk.mono bb mup⟩,Z,Z,Z⟩ (fun fr bV bW m _ H=>?_);obtain ⟨i,us,⟨hi,L⟩,rfl,rfl,rfl⟩:=H;refine Vt ag (fun A0 c0 bl bm=>?_);refine Th 1 [2,4,6,7,8,9,76,77,78,79] Z ?_;refine G.cd (fun ay=>?_) fun ay=>?_
 ·have az:i<rows.length:=by
   have:=aY ay;omega
  obtain ⟨rfl,rfl⟩:O=A0/\E=c0:=by cases bl;exact ⟨rfl,rfl⟩
  obtain ⟨g,rfl⟩:=bm om_;obtain ⟨r,aM⟩:∃ r,rows[i]?=some r:=⟨rows[i],aj az⟩;obtain ⟨V,M⟩:=Mr (more:=a) aM;have bX:=I2 rows a i;have I:=L.1;obtain ⟨w,aO⟩:∃ w,us[i]?=some w:=⟨us[i]'om_,aj om_⟩;have aA:=L.2 i w r aO V;obtain ⟨Aw,cw,rfl,_⟩:=id aA;have bY:r.f.length<=12:=a9 r (O0 aM);refine Ti 1 Z fun R c=>?_;refine TL ((i*2)) U10 ai U2 ?_;refine Ue ag U6 (fun _=>(by rw [show ((TI.size _:Nat))=2 from Z,vY I V aO];rfl)) U2 ?_;refine TB U5 (fun bZ=>?_);refine Tk U6 ?_;refine Ts (j:=0) U12 ?_;refine Tn [2,4,6,7,8,9,10,11,76,77,78] c Z ?_;clear c R;refine G.freeze 0 Z (fun _ _ bn=>?_);refine G.cut (fun fr K z F=>∃ (an:List Value),(RowsOk K an (yA rows a (i+1)))/\fr=[(2,[],.pointer (some ⟨v,0,none⟩)),(4,[],.pointer (some ⟨y,0,none⟩)),(6,[],.slice Ae es.length ce),(7,[],.int .i64 n),(8,[],.int .i64 (bp B:Nat)),(9,[],.int .i64 a),(76,[],.slice (some ⟨g,0,none⟩) rows.length E),(77,[],.int .i64 rows.length),(78,[],.int .i64 i)]/\z=[.arr (sR7 (some ⟨g,0,none⟩) rows.length E) 140 2 (rows.length) (aB an (yA rows a (i+1))).flatten,.arr (sF7 e o p) 32 1 (n+a) ((mF n a).map aQ).flatten,.obj y (.cells ⟨[.int .i64 (n+a:Nat),.slice (some ⟨g,0,none⟩) rows.length E,.slice e o p]⟩ 74 (0,0)),.obj v (.cells ⟨[.int .i64 0,.slice none 0 0,.slice none 0 0]⟩ 74 (0,0))]) ?_ (fun fr b0 b3 F b5 H=>?_)
  ·refine Uf (.cut [0,2,3,4,6] (.alt 1 (.fin [5,7,8,9,10,11]) (.alt 5 (.cut [] (.alt 1 (.fin [7,8,9,10,11]) (.alt 7 (.cut [] (.alt 1 (.fin [8,9,10,11]) (.alt 8 (.fin [1,9,10,11]) .stop))) .stop))) .stop))) [(5,3),(4,0)] Z Z kr_ (fun R d c A=>?_);refine Tm 3 Z ?_;refine Uv (fun _=>((bkT bn 1).mono d)) U9 ?_;refine Tk U6 ?_;refine TV A Z ⟨?_, ?_,trivial⟩
   ·try obtain ⟨W,X,cc,rfl,rfl⟩:=N
    first | refine Uo ac U9 ?_ | refine Uo aa U9 ?_
    refine D.call (G9 _ _ r.f aA.m_ om_) Z (.inr dc_) U6 (PI _) fl_ (fun bq br bt _ N=>?_)
    try obtain ⟨W,X,cc,rfl,rfl⟩:=N
    refine TO (og _ a om_) U7 fl_ (fun aP aR _ Y=>?_);obtain ⟨bz,rfl,Q⟩:=Y;refine TR (j:=0) U11 Q.m_ (pV _) (by simp only [al,Qd,maxLen];omega) (by simp only [al,Qd];omega) fl_ (fun S T U=>?_);refine TL ((i*2)) U10 ai U2 ?_;refine Tk U6 ?_;refine TP (j:=1) U11 (by rw [aN (bT _ _),bI I];simp;omega) ?_;refine Tn [2,4,6,7,8,9,76,77,78] c Z ?_;clear c d A R;rw [<- Ql,<- Qg,fZ I V (r':=fk a r) rfl,<- M];refine G.freezeArr 1 ((r.f++List.replicate a (0:Rat)).map aQ) Z Z bR am (fun Cf ao J=>?_);exact Tx 0 mup (hn_ [2,4,6,7,8,9,76,77,78] Z) ⟨us.set i (.slice S T U),by rw [M];exact jA (RowsOk.m_ L) J,Z,Z⟩
   refine D.call (G9 _ _ r.f aA.m_ om_) Z (.inr dc_) U6 (PI _) fl_ (fun bq br bt _ N=>?_);refine TV A Z ⟨?_, ?_,trivial⟩
   ·try obtain ⟨W,X,cc,rfl,rfl⟩:=N
    first | refine Uo ac U9 ?_ | refine Uo aa U9 ?_
    try obtain ⟨W,X,cc,rfl,rfl⟩:=N
    refine TO (og _ a om_) U7 fl_ (fun aP aR _ Y=>?_);obtain ⟨bz,rfl,Q⟩:=Y;refine TR (j:=0) U11 Q.m_ (pV _) (by simp only [al,Qd,maxLen];omega) (by simp only [al,Qd];omega) fl_ (fun S T U=>?_);refine TL ((i*2)) U10 ai U2 ?_;refine Tk U6 ?_;refine TP (j:=1) U11 (by rw [aN (bT _ _),bI I];simp;omega) ?_;refine Tn [2,4,6,7,8,9,76,77,78] c Z ?_;clear c d A R;rw [<- Ql,<- Qg,fZ I V (r':=fk a r) rfl,<- M];refine G.freezeArr 1 ((r.f++List.replicate a (0:Rat)).map aQ) Z Z bR am (fun Cf ao J=>?_);exact Tx 0 mup (hn_ [2,4,6,7,8,9,76,77,78] Z) ⟨us.set i (.slice S T U),by rw [M];exact jA (RowsOk.m_ L) J,Z,Z⟩
   try obtain ⟨W,X,cc,rfl,rfl⟩:=N
   refine TO (og _ a om_) U7 fl_ (fun aP aR _ Y=>?_);refine TV A Z ⟨?_, ?_,trivial⟩
   ·try obtain ⟨W,X,cc,rfl,rfl⟩:=N
    first | refine Uo ac U9 ?_ | refine Uo aa U9 ?_
    obtain ⟨bz,rfl,Q⟩:=Y;refine TR (j:=0) U11 Q.m_ (pV _) (by simp only [al,Qd,maxLen];omega) (by simp only [al,Qd];omega) fl_ (fun S T U=>?_);refine TL ((i*2)) U10 ai U2 ?_;refine Tk U6 ?_;refine TP (j:=1) U11 (by rw [aN (bT _ _),bI I];simp;omega) ?_;refine Tn [2,4,6,7,8,9,76,77,78] c Z ?_;clear c d A R;rw [<- Ql,<- Qg,fZ I V (r':=fk a r) rfl,<- M];refine G.freezeArr 1 ((r.f++List.replicate a (0:Rat)).map aQ) Z Z bR am (fun Cf ao J=>?_);exact Tx 0 mup (hn_ [2,4,6,7,8,9,76,77,78] Z) ⟨us.set i (.slice S T U),by rw [M];exact jA (RowsOk.m_ L) J,Z,Z⟩
   obtain ⟨bz,rfl,Q⟩:=Y;refine TR (j:=0) U11 Q.m_ (pV _) (by simp only [al,Qd,maxLen];omega) (by simp only [al,Qd];omega) fl_ (fun S T U=>?_)
   try obtain ⟨W,X,cc,rfl,rfl⟩:=N
   first | refine Uo ac U9 ?_ | refine Uo aa U9 ?_
   refine TL ((i*2)) U10 ai U2 ?_;refine Tk U6 ?_;refine TP (j:=1) U11 (by rw [aN (bT _ _),bI I];simp;omega) ?_;refine Tn [2,4,6,7,8,9,76,77,78] c Z ?_;clear c d A R;rw [<- Ql,<- Qg,fZ I V (r':=fk a r) rfl,<- M];refine G.freezeArr 1 ((r.f++List.replicate a (0:Rat)).map aQ) Z Z bR am (fun Cf ao J=>?_);exact Tx 0 mup (hn_ [2,4,6,7,8,9,76,77,78] Z) ⟨us.set i (.slice S T U),by rw [M];exact jA (RowsOk.m_ L) J,Z,Z⟩
  obtain ⟨an,ab,rfl,rfl⟩:=H;refine Tl fun R c=>?_;refine Tq _ Z U6 ?_;refine C6 1 [2,4,6,7,8,9,76,77,78] c Z ?_;clear c R;refine Tv (m':=rows.length-(i+1)) om_ mup (hn_ [2,4,6,7,8,9,76,77,78] Z) ⟨i+1,an,⟨by omega,ab⟩,Z,Z,Z⟩
 have az:i=rows.length:=by
  have:=PJ ay;omega
 subst az;refine Th 2 [2,4,6,7,8,95,96] Z ?_;rw [show yA rows a rows.length=rows.map (fk a)++rgL (n+a) n (bp B) es 0 by unfold yA;rw [PT,QI];rfl] at L ⊢;refine G.loop (fun fr K z F=>∃ (k:Nat)(s:Option Addr)(n1 t:Nat)(us:List Value),(k<=a/\RowsOk K us (rows.map (fk a)++rgL (n+a) n (bp B) es k))/\fr=[(2,[],.pointer (some ⟨v,0,none⟩)),(4,[],.pointer (some ⟨y,0,none⟩)),(6,[],.slice Ae es.length ce),(7,[],.int .i64 n),(8,[],.int .i64 (bp B:Nat)),(95,[],.int .i64 a),(96,[],.int .i64 k)]/\z=[.arr (sR7 s n1 t) 140 2 (rows.length+2*k) (aB us (rows.map (fk a)++rgL (n+a) n (bp B) es k)).flatten,.arr (sF7 e o p) 32 1 (n+a) ((mF n a).map aQ).flatten,.obj y (.cells ⟨[.int .i64 (n+a:Nat),.slice s n1 t,.slice e o p]⟩ 74 (0,0)),.obj v (.cells ⟨[.int .i64 0,.slice none 0 0,.slice none 0 0]⟩ 74 (0,0))]/\F=a-k) (hn_ [2,4,6,7,8,95,96] Z) ⟨0,O,rows.length,E,us,⟨PL _,RowsOk.mono L mup⟩,Z,Z,Z⟩ (fun fr b6 b7 m _ H=>?_);obtain ⟨k,s,n1,t,us,⟨hk,aC⟩,rfl,rfl,rfl⟩:=H;refine Th 1 [2,4,6,7,8,95,96,97] Z ?_;refine G.cd (fun aD=>?_) fun aD=>?_
 ·have b8:k<a:=by
   have:=aY aD;omega
  have aS:k<bs B*es.length:=by omega
  obtain ⟨bu,b9⟩:=GE aS;obtain ⟨bw,bx,ca⟩:=KQ (au.ok (n:=bp B) hG.ok.ins (bs B)) aS;rw [hn] at bw bx;have bA:0<es.length:=List.length_pos_of_mem bu;have aT:=Qj k bA;have bB:(es.map xg)[k % es.length]?=some (xg (edg es k)):=by
   rw [PH,aj aT];unfold edg;rw [ax,aj aT];rfl
  refine Th 2 [2,4,6,7,8,12,95,96] Z ?_;refine TD [0,1,2,3,4,5,6,7,8,9,10,11,12,13] [] Z kr_ (fun R d c=>?_);refine Tm 3 Z ?_;refine Ur (k) (es.length) U6 om_ (.inl ⟨Z,by omega⟩) U2 ?_;refine Tm 4 Z ?_;refine Uj (k) (es.length) U6 om_ U2 ?_;refine Ty av.m_ U10 om_ bB fl_ (fun cb bC=>?_);refine Tj bC U8 ?_;refine TB U5 (fun aU=>?_);refine Tk U6 ?_;refine Ts (j:=0) U12 ?_;refine Tn [2,4,6,7,8,12,13,14,95,96] c Z ?_;clear c d R;refine G.freeze 0 Z (fun _ _ aE=>?_);refine Tl fun R c=>?_;refine Ug [[af [49]],[af [45,49]]] U12 fl_ (fun aV _ _ aW=>?_);refine C6 2 [2,4,6,7,8,12,13,14,95,96,110,111,112] c Z ?_;clear c R;rw [sgns] at aW;refine Tz (L':=[.arr (sR7 s n1 t) 140 2 (rows.length+2*k+0) (aB us (rows.map (fk a)++(rgL (n+a) n (bp B) es k++(rgK (n+a) n (bp B) es k).take 0))).flatten,.arr (sF7 e o p) 32 1 (n+a) ((mF n a).map aQ).flatten,.obj y (.cells ⟨[.int .i64 (n+a:Nat),.slice s n1 t,.slice e o p]⟩ 74 (0,0)),.obj v (.cells ⟨[.int .i64 0,.slice none 0 0,.slice none 0 0]⟩ 74 (0,0))]) (by rw [List.take_zero,P3];rfl) ?_;refine G.loop (fun fr K z F=>∃ (q:Nat)(s:Option Addr)(n1 t:Nat)(us:List Value),(q<=2/\RowsOk K us (rows.map (fk a)++(rgL (n+a) n (bp B) es k++(rgK (n+a) n (bp B) es k).take q)))/\fr=[(2,[],.pointer (some ⟨v,0,none⟩)),(4,[],.pointer (some ⟨y,0,none⟩)),(6,[],.slice Ae es.length ce),(7,[],.int .i64 n),(8,[],.int .i64 (bp B:Nat)),(12,[],.int .i64 k),(13,[],.int .i64 (k / es.length:Nat)),(14,[],.pointer (some ⟨aU,0,none⟩)),(95,[],.int .i64 a),(96,[],.int .i64 k),(110,[],.slice (some ⟨aV,0,none⟩) 2 2),(111,[],.int .i64 2),(112,[],.int .i64 q)]/\z=[.arr (sR7 s n1 t) 140 2 (rows.length+2*k+q) (aB us (rows.map (fk a)++(rgL (n+a) n (bp B) es k++(rgK (n+a) n (bp B) es k).take q))).flatten,.arr (sF7 e o p) 32 1 (n+a) ((mF n a).map aQ).flatten,.obj y (.cells ⟨[.int .i64 (n+a:Nat),.slice s n1 t,.slice e o p]⟩ 74 (0,0)),.obj v (.cells ⟨[.int .i64 0,.slice none 0 0,.slice none 0 0]⟩ 74 (0,0))]/\F=2-q) (hn_ [2,4,6,7,8,12,13,14,95,96,110,111,112] Z) ⟨0,s,n1,t,us,⟨PL _,by rw [List.take_zero,P3];exact RowsOk.mono aC mup⟩,Z,Z,Z⟩ (fun fr cf cg m _ H=>?_);obtain ⟨q,s,n1,t,us,⟨ch,ab⟩,rfl,rfl,rfl⟩:=H;refine Th 1 [2,4,6,7,8,12,13,14,95,96,110,111,112,113] Z ?_;refine G.cd (fun aF=>?_) fun aF=>?_
  ·have aq:q<2:=by
    have:=aY aF;omega
   refine Tl fun R c=>?_;refine Ty aW.m_ U10 om_ (by rw [PH,Kp aq];rfl:(([1, -1]:List Rat).map aQ)[q]?=some (aQ (nI q))) fl_ (fun ci bD=>?_);refine Tj bD U8 ?_;refine C6 1 [2,4,6,7,8,12,13,14,16,95,96,110,111,112] c Z ?_;clear c R;refine TH [(2,3)] Z (fun R c=>?_);refine Tk U6 ?_;refine To ac U9 ?_;refine D.call (lP _ (n+a) om_) Z (.inr dc_) U6 (PI _) fl_ (fun cj _ ck _ bE=>?_);obtain ⟨bz,rfl,rfl⟩:=bE;rw [EW];have aX:(Value.string ⟨#[45,49]⟩)=tq (-1):=by show af [45,49]=af (qtx (-1));rw [Fa]
   refine C6 1 [2,4,6,7,8,12,13,14,16,17,95,96,110,111,112] c Z ?_;clear c R;refine G.cut (fun fr K z F=>(True)/\fr=[(2,[],.pointer (some ⟨v,0,none⟩)),(4,[],.pointer (some ⟨y,0,none⟩)),(6,[],.slice Ae es.length ce),(7,[],.int .i64 n),(8,[],.int .i64 (bp B:Nat)),(12,[],.int .i64 k),(13,[],.int .i64 (k / es.length:Nat)),(14,[],.pointer (some ⟨aU,0,none⟩)),(17,[],.slice (some ⟨bz,0,none⟩) (n+a) (n+a)),(95,[],.int .i64 a),(96,[],.int .i64 k),(110,[],.slice (some ⟨aV,0,none⟩) 2 2),(111,[],.int .i64 2),(112,[],.int .i64 q)]/\z=[.arr (.slice (some ⟨bz,0,none⟩) (n+a) (n+a)) 32 1 (n+a) ((rgF (n+a) n (bp B) es.length k (edg es k) (nI q)).map tq),.arr (sR7 s n1 t) 140 2 (rows.length+2*k+q) (aB us (rows.map (fk a)++(rgL (n+a) n (bp B) es k++(rgK (n+a) n (bp B) es k).take q))).flatten,.arr (sF7 e o p) 32 1 (n+a) ((mF n a).map aQ).flatten,.obj y (.cells ⟨[.int .i64 (n+a:Nat),.slice s n1 t,.slice e o p]⟩ 74 (0,0)),.obj v (.cells ⟨[.int .i64 0,.slice none 0 0,.slice none 0 0]⟩ 74 (0,0))]) ?_ (fun fr cl cm F cn H=>?_)
   ·refine Uf (.cut [0,1,2,3,4,5,6,7,8,9,10,11,14,15,16,17,18,19,20,21] (.alt 12 (.fin [13,22,23,24,25,26]) (.alt 22 (.fin [12,13,23,24,25,26]) .stop))) [(20,1)] Z Z kr_ (fun R d c A=>?_);refine Tm 3 Z ?_;refine Tq (((k / es.length*bp B:Nat):Int)) (Qa _ _) U6 ?_;refine TE (0) U9 ah U2 ?_;refine Tj (bkT aE 1) U8 ?_;refine TS (((k / es.length*bp B+(edg es k).1:Nat):Int)) U4 om_ om_ om_ U2 ?_;refine Tm 3 Z ?_;refine Tq (((k / es.length*bp B:Nat):Int)) (Qa _ _) U6 ?_;refine TE (1) U9 ah U2 ?_;refine Tm 3 Z ?_;refine TS (((n+k:Nat):Int)) U4 om_ om_ om_ U2 ?_;refine Tm 2 Z ?_;refine TG (fun _=>(eF _ (nI q) (PV (bi (AG q) dc_) dc_))) U9 ?_;refine TL ((k / es.length*bp B+(edg es k).1)) U10 (fun _=>⟨by omega,by omega,(QD _).symm⟩) U2 ?_;refine TV A Z ⟨?_, ?_,trivial⟩
    ·refine Tj (bkT aE 1) U8 ?_;refine TS (((k / es.length*bp B+(edg es k).2:Nat):Int)) U4 om_ om_ om_ U2 ?_;refine TP (j:=0) U11 ap ?_;rw [df ap];refine TL ((k / es.length*bp B+(edg es k).2)) U10 (fun _=>⟨by omega,by omega,(QD _).symm⟩) U2 ?_;refine TP (j:=0) U11 ap ?_;rw [df ap];refine TL ((n+k)) U10 (fun _=>⟨by omega,by omega,(QD _).symm⟩) U2 ?_;refine TP (j:=0) U11 ap ?_;refine Tn [2,4,6,7,8,12,13,14,17,95,96,110,111,112] c Z ?_;clear c d A R;rw [aX,df ap];exact Tx 0 mup (hn_ [2,4,6,7,8,12,13,14,17,95,96,110,111,112] Z) ⟨trivial,Z,Z⟩
    refine TP (j:=0) U11 ap ?_;refine Tj (bkT aE 1) U8 ?_;refine TS (((k / es.length*bp B+(edg es k).2:Nat):Int)) U4 om_ om_ om_ U2 ?_;rw [df ap];refine TL ((k / es.length*bp B+(edg es k).2)) U10 (fun _=>⟨by omega,by omega,(QD _).symm⟩) U2 ?_;refine TP (j:=0) U11 ap ?_;rw [df ap];refine TL ((n+k)) U10 (fun _=>⟨by omega,by omega,(QD _).symm⟩) U2 ?_;refine TP (j:=0) U11 ap ?_;refine Tn [2,4,6,7,8,12,13,14,17,95,96,110,111,112] c Z ?_;clear c d A R;rw [aX,df ap];exact Tx 0 mup (hn_ [2,4,6,7,8,12,13,14,17,95,96,110,111,112] Z) ⟨trivial,Z,Z⟩
   obtain ⟨_,rfl,rfl⟩:=H;rw [<- mA];refine G.freezeArr 0 ((rgF (n+a) n (bp B) es.length k (edg es k) (nI q)).map aQ) Z Z bR (by rw [al,yu]) (fun _ _ bF=>?_);refine Ti 1 Z fun R c=>?_;refine To ac U9 ?_;refine Tk U6 ?_;refine TA [.slice (some ⟨bz,0,none⟩) (n+a) (n+a),af [48]] U8 ?_;refine TF [[.slice (some ⟨bz,0,none⟩) (n+a) (n+a),af [48]]] U12 (fun co _ _ bG=>?_);refine TR (j:=0) U11 bG.m_ Z aw (by simp only [PD];omega) fl_ (fun aG aH aI=>?_);refine Tk U6 ?_;refine Ts (j:=2) U12 ?_;refine Tn [2,4,6,7,8,12,13,14,95,96,110,111,112] c Z ?_;clear c R;refine Tl fun R c=>?_;refine Tq _ Z U6 ?_;refine C6 1 [2,4,6,7,8,12,13,14,95,96,110,111,112] c Z ?_;clear c R;have aZ:rows.map (fk a)++(rgL (n+a) n (bp B) es k++(rgK (n+a) n (bp B) es k).take (q+1))=(rows.map (fk a)++(rgL (n+a) n (bp B) es k++(rgK (n+a) n (bp B) es k).take q))++[⟨rgF (n+a) n (bp B) es.length k (edg es k) (nI q),0⟩]:=by rw [Iu aq];simp only [Qb]
   have bH:(aB us (rows.map (fk a)++(rgL (n+a) n (bp B) es k++(rgK (n+a) n (bp B) es k).take q))).flatten++[[Value.slice (some ⟨bz,0,none⟩) (n+a) (n+a),af [48]]].flatten=(aB (us++[.slice (some ⟨bz,0,none⟩) (n+a) (n+a)]) (rows.map (fk a)++(rgL (n+a) n (bp B) es k++(rgK (n+a) n (bp B) es k).take (q+1)))).flatten:=by
    rw [aZ,eE ab.1,Ql,LS]
   refine G.perm (L':=[.arr (sR7 aG aH aI) 140 2 (rows.length+2*k+(q+1)) (aB (us++[.slice (some ⟨bz,0,none⟩) (n+a) (n+a)]) (rows.map (fk a)++(rgL (n+a) n (bp B) es k++(rgK (n+a) n (bp B) es k).take (q+1)))).flatten,.arr (sF7 e o p) 32 1 (n+a) ((mF n a).map aQ).flatten,.obj y (.cells ⟨[.int .i64 (n+a:Nat),.slice aG aH aI,.slice e o p]⟩ 74 (0,0)),.obj v (.cells ⟨[.int .i64 0,.slice none 0 0,.slice none 0 0]⟩ 74 (0,0))]) (by rw [<- bH];(exact pkL [1,1,0,0] Z)) ?_;refine Tv (m':=2-(q+1)) om_ mup (hn_ [2,4,6,7,8,12,13,14,95,96,110,111,112] Z) ⟨q+1,aG,aH,aI,us++[.slice (some ⟨bz,0,none⟩) (n+a) (n+a)],⟨by omega,by rw [aZ];exact yq (RowsOk.m_ ab) bF.m_⟩,Z,Z,Z⟩
  have aq:q=2:=by
   have:=PJ aF;omega
  subst aq;refine Tl fun R c=>?_;refine Tq _ Z U6 ?_;refine C6 1 [2,4,6,7,8,95,96] c Z ?_;clear c R;rw [show (rgK (n+a) n (bp B) es k).take 2=rgK (n+a) n (bp B) es k from rfl,<- AO] at ab ⊢;refine Tv (m':=a-(k+1)) om_ mup (hn_ [2,4,6,7,8,95,96] Z) ⟨k+1,s,n1,t,us,⟨by omega,RowsOk.mono ab mup⟩,Z,Z,Z⟩
 obtain rfl:a=k:=by
  have:=PJ aD;omega
 refine Tl fun R c=>?_;refine To ac U9 ?_;refine Ts (j:=3) U12 ?_;refine C6 1 [2,3] c Z ?_;clear c R;refine G.freezeArr 1 (aB us (rows.map (fk a)++rgL (n+a) n (bp B) es a)) Z Z (bT _ _) (by rw [bI aC.1,PM,al,yt]) (fun Cf ao J=>?_);refine G.freezeArr 1 ((mF n a).map aQ) Z Z bR (by rw [al,AN]) (fun Cg cp bJ=>?_);refine Tu (U1 ag Z Z Z Z Z ?_);refine ⟨Z,es,_,Z,au,_,_,_,_,_,_,by rw [ad];rfl, ?_, ?_⟩
 ·rw [ad];exact nM (RowsOk.m_ aC) J.m_
 rw [ad];exact bJ
theorem CE {p:Lp.Sys}{c:Nat->Rat}{D:Mem}(h:SolO p c D u):∃ (kd:Int)(val:Str)(a:Option Addr)(n1 b:Nat)(A2:Option Addr)(n2 c2:Nat)(d:Option Addr)(e f:Nat),u=.agg ⟨[.int .i64 kd,af val,.slice a n1 b,.slice A2 n2 c2,.slice d e f]⟩ /\
  ((kd=1/\∃ v pt du,val=qtx v/\Lp.OptR p c 20 v pt du/\n1=p.n/\Sl D 1 (.slice a n1 b) (((List.range p.n).map pt).map aQ)/\Sl D 1 (.slice A2 n2 c2) (((List.range p.m).map du).map aQ))∨(kd≠1/\(¬ p.Hold∨∃ pt ra,Lp.UnbR p c 20 pt ra))):=by
 cases h with
 | opt v pt du g i j h1 h2 =>
  obtain ⟨a,b,rfl,_⟩:=id h1;obtain ⟨A2,c2,rfl,_⟩:=id h2;exact ⟨_,_,_,_,_,_,_,_,_,_,_,Z,.inl ⟨Z,v,pt,du,Z,j,by simp,h1,h2⟩⟩
 | inf du i k h1 =>
  obtain ⟨A2,c2,rfl,_⟩:=id h1;exact ⟨_,_,_,_,_,_,_,_,_,_,_,Z,.inr ⟨by decide,.inl k.not⟩⟩
 | unb pt ra g o l h1 h2 =>
  obtain ⟨a,b,rfl,_⟩:=id h1;obtain ⟨A2,c2,rfl,_⟩:=id h2;exact ⟨_,_,_,_,_,_,_,_,_,_,_,Z,.inr ⟨by decide,.inr ⟨pt,ra,l⟩⟩⟩
abbrev Ni (B:Bk)(RO:Nat->List RowQ)(es:List (Nat × Nat)):Lp.Sys:=ck (bs B*bp B+bs B*es.length) (eI (yr (dh B RO) (bs B*bp B) (bp B) es (bs B*es.length)))
abbrev objR (B:Bk)(es:List (Nat × Nat))(j:Nat):Rat:=(mF (bs B*bp B) (bs B*es.length)).getD j 0
inductive FlatO (B:Bk) (RO:Nat->List RowQ) (es:List (Nat × Nat)) (D:Mem):Value->Prop where
 | opt (v:Rat) (pt du:Nat->Rat) (fv dv:Value):Lp.OptR (Ni B RO es) (objR B es) 20 v pt du->FieldsIn D fv (NH (bs B) (bp B) pt)->Sl D 1 dv (((List.range (Ni B RO es).m).map du).map aQ)->FlatO B RO es D (.tuple #[.agg ⟨[fv,af (qtx v),dv]⟩,.int .i64 0])
 | inf:¬ (Ni B RO es).Hold->FlatO B RO es D (.tuple #[.agg ⟨[.slice none 0 0,af [],.slice none 0 0]⟩,.int .i64 22])
theorem Calm.rl {B:Bk}{c:List Rat}{a:Nat->List RowQ}(h:Calm B c a):∀ r∈dh B a,r.f.length=bs B*bp B:=fun r hr=>(h.rowsQ (dq B.obs.length)).l (r.f,r.b) (PK.2 ⟨r,hr,rfl⟩)
theorem NZ {s:Nat}(h:∀ r∈rows,r.f.length=s*p):∀ r∈yr rows (s*p) p es (s*es.length),r.f.length=s*p+s*es.length:=by
 intro r hr;rcases PU.1 hr with hr | hr
 ·obtain ⟨x,a,rfl⟩:=PK.1 hr;show (x.f++List.replicate _ 0).length=_;rw [PM,Qd,h x a]
 obtain ⟨k,_,hr⟩:=List.mem_flatMap.1 hr;rcases PQ.1 hr with rfl | hr
 ·exact yu _ _ _ _ _ _ _
 rw [PZ.1 hr];exact yu _ _ _ _ _ _ _
theorem tA (h:∀ r∈rows,RowI r):∀ r∈eI rows,(∀ x∈r.1,QB 22 x)/\QB 22 r.2 :=
 nK (P:=fun r=>(∀ x∈r.1,QB 22 x)/\QB 22 r.2) fun r hr=>⟨fun x a=>((h r hr).q.1 x a).le dc_,(h r hr).q.2.le dc_⟩
theorem NT (h:∀ r∈rows,RowI r)(a:∀ r∈rows,r.f.length=n)(b:rows.length<=150):RowsQ n (eI rows) :=
 ⟨nK (P:=fun r=>r.1.length=n) a,fun r hr=>⟨fun x c=>((tA h r hr).1 x c).le dc_,(tA h r hr).2.le dc_⟩,by rw [eI,al];exact b⟩
theorem LI (h b:Nat):∀ x∈mF h b,QB 22 x:=fun x a=>by
 rcases PU.1 a with a | a
 ·rw [(List.mem_replicate.1 a).2];exact QB_zero.le dc_
 rw [(List.mem_replicate.1 a).2];decide +kernel
theorem CQ {m:Nat}{a:Nat->Rat}(h:n<=m):(((List.range m).map a).map qtx).take n=((List.range n).map a).map qtx:=by
 rw [<- RW,<- RW,List.take_range,QK h]
theorem Jj (C:Mem)(e:Tabs C)(f:Value)(B:Bk)(y:List Rat)(b:Nat->List RowQ)(c:BookIn C f B)(h:Calm B y b)(z:bp B<=6)(A:bs B<=2)(V:∀ es,EdgL B.tris es->bs B*bp B+bs B*es.length<=12) :
  Pur cx.P 42 [f] C fun u D=>∃ es,EdgL B.tris es/\FlatO B b es D u:=by
 have E:=c;have F:=h.rich.good;have H:=h.rich.bookz e c;have W:=h.cnt (dq B.obs.length);have az:=h.n12;have X:∀ D:Mem,C.le D->Gives cx.P 92 [f] D (.tuple #[.int .i64 (bs B*bp B:Nat),.int .i64 0]):=fun D Y=>by
  have h:=zc D f B 0 (H.mono Y) om_;rw [aK rfl] at h;exact h
 obtain ⟨v1,v2,tv,cv,ov,rfl,h1,h2,h3,h4,h5⟩:=id c.ex;have aA:maxLen<=9223372036854775807:=by simp [maxLen]
 refine Tr func42 59 U3 fun w0=>Tl fun R a=>TC U6 fun b1=>TB U5 fun b2=>C6 1 [1,2] a Z<|G.freeze 1 Z fun _ _ o=>Tl fun R a=>Tj (bkT o 5) U8<|TT (Ir _ e.m_ _ B y b E.m_ h z A) U7 (fun aB _ _ aa=>?_);obtain ⟨es,x,rfl,d,A1,n1,c1,A2,n2,c2,rfl,ab,ac⟩:=aa;have ad:=V es d;have ae:=NZ (es:=es) h.rl;have I:=N3 (s:=bs B) (p:=bp B) (es:=es) (h.rowI (dq B.obs.length));obtain ⟨ah,_⟩:=d.le F.ok.ins z;have aC:bs B*es.length<=30:=Q3 A ah;have ai:(yr (dh B b) (bs B*bp B) (bp B) es (bs B*es.length)).length<=150:=by
  rw [Is];have:(dh B b).length<=120:=W;omega
 have aj:=d.ok (n:=bp B) F.ok.ins (bs B);refine Tm 3 Z<|TB U5 fun b4=>Ts (j:=0) U12<|C6 1 [1,2,4,5] a Z<|Th 2 [1,2,4,5,15] Z<|G.cd (fun J=>?_) fun J=>?_
 ·exact absurd J dc_
 refine G.freeze 0 Z fun _ _ ak=>Tl fun R a=>Tj (bkT ak 3) U8<|TO (tO _ e.m_ (bs B*bp B+bs B*es.length) _ _ (eI (yr (dh B b) (bs B*bp B) (bp B) es (bs B*es.length))) (mF (bs B*bp B) (bs B*es.length)) ab.m_ ac.m_ (NT I ae ai) (LI _ _) (tA I) om_ (AN _ _) (LG ad (h.rowI (dq B.obs.length)))) U7 fl_ (fun aD _ _ an=>?_);obtain ⟨rr,rfl,ao⟩:=an;obtain ⟨kd,val,Ap,K,g,L,nd,cd,Ar,nr,cr,rfl,M⟩:=CE ao;refine Tm 3 Z<|TB U5 fun b6=>Ts (j:=0) U12<|C6 1 [1,2,5,6] a Z<|G.freeze 0 Z fun _ _ i=>Th 2 [1,2,5,6,24] Z<|G.cd (fun N=>?_) fun N=>?_
 ·exact absurd N dc_
 refine Ti 1 Z fun R a=>Tj (bkT i 1) U8<|C6 1 [1,2,6,29] a Z<|G.cd (fun q=>?_) fun q=>?_
 ·have r:kd≠1:=by simpa using q
  have aq:¬ (Ni B b es).Hold:=by
   rcases M with ⟨h,_⟩ | ⟨_,h | ⟨pt,ra,hu⟩⟩
   ·exact absurd h r
   ·exact h
   exact (LF aj h.rl hu).elim
  refine Tl fun R a=>TA ([.slice none 0 0,af [],.slice none 0 0]) U8<|Ts (j:=0) U12<|C6 1 [2,3] a Z<|Tu (U1 ag Z Z Z Z Z ?_);exact ⟨Z,es,d,.inf aq⟩
 have r:kd=1:=by simpa using q
 obtain ⟨v,pt,du,rfl,t,rfl,w,ar⟩:∃ v pt du,val=qtx v/\Lp.OptR (Ni B b es) (objR B es) 20 v pt du/\K=bs B*bp B+bs B*es.length/\Sl _ 1 (.slice Ap K g) (((List.range (bs B*bp B+bs B*es.length)).map pt).map aQ)/\Sl _ 1 (.slice L nd cd) (((List.range (Ni B b es).m).map du).map aQ):=by
  rcases M with ⟨_,h⟩ | ⟨h,_⟩
  ·exact h
  exact absurd r h
 have O:=wZ (s:=bs B) (p:=bp B) t.qp;have au:bs B*bp B<=bs B*bp B+bs B*es.length:=Nat.le_add_right _ _;rw [GC] at w;have aE:bs B*bp B+bs B*es.length<=g:=by
  obtain ⟨A',c',Q,av,_⟩:=id w;simp only [Value.slice.injEq] at Q;obtain ⟨_,aF,aG⟩:=Q;simp only [al,QR] at av;omega
 have S:=w.sub (l:=0) (h:=bs B*bp B) (m:=g) (PL _) am om_ (PE _);rw [QV,<- RW,CQ au] at S;refine Tl fun R a=>Tj (bkT o 5) U8<|Tt (X _ mup) U7<|C6 5 [1,2,5,6,7] a Z<|Th 2 [1,2,5,6,7,37] Z<|G.cd (fun T=>?_) fun T=>?_
 ·exact absurd T dc_
 refine TD [0,1,2,3,4,5,6,7,8,9,10] [] Z kr_ fun R c a=>Tj (bkT o 5) U8<|Tk U6<|Tj (bkT i 1) U8<|Tk U6<|Um 0 (bs B*bp B) g U12 (fun _=>⟨.inl ⟨Z,Z⟩,.inr ⟨_,Z⟩,.inl ⟨Z,Z⟩,by omega,by omega,PE _⟩) U2<|TO (xe _ e.m_ _ _ B (((List.range (bs B*bp B)).map pt).map qtx) E.m_ H.m_ om_ S.m_ (wi t.qp) ap) U7 fl_ (fun aH _ _ aw=>?_);obtain ⟨fv,rfl,k⟩:=aw;rw [O,aK rfl] at k;rw [O];obtain ⟨ax,aI,aJ,ay⟩:=id k;obtain ⟨Af,cf,rfl,_⟩:=id ay;rw [al] at k ⊢;refine Tm 5 Z<|Tn [2,5,6,8] a Z ?_;clear a c R;refine Th 2 [2,5,6,8,50] Z<|G.cd (fun U=>?_) fun U=>?_
 ·exact absurd U dc_
 refine Ti 2 Z fun R a=>Tj (bkT i 1) U8<|Tk U6<|Tj (bkT i 1) U8<|TA [.slice Af ax.length cf,af (qtx v),.slice L nd cd] U8<|Ts (j:=0) U12<|C6 1 [2,3] a Z<|Tu (U1 ag Z Z Z Z Z ?_);exact ⟨Z,es,d,.opt v pt du _ _ t k.m_ ar.m_⟩
def RowsIn6 (D:Mem)(v:Value)(rows:List RowQ):Prop:=∃ vs,RowsOk D vs rows/\Sl D 2 v (aB vs rows)
theorem RowsIn6.T {v:Value}(h:RowsIn6 C v rows):RowsT C v ((eI rows).map fH):=by
 obtain ⟨vs,h1,h2⟩:=h;exact nM h1 h2
abbrev sL6 (A:Option Addr)(n c:Nat):Value:=.slice A n c
theorem F2 (C:Mem)(M:Tabs C)(d:Value)(B:Bk)(A:List Rat)(c:Nat->List RowQ)(e:BookIn C d B)(h:Calm B A c) :
  Pur cx.P 13 [d] C fun u D=>∃ v,u=.tuple #[v,.bool true]/\RowsIn6 D v (dh B c):=by
 have ai:=e;have N:=h.cnt (dq B.obs.length);have ak:=h.ob;obtain ⟨l,g⟩:∃ l,bS (bH B) c (List.range B.obs.length)=l:=⟨_,rfl⟩;have F:dh B c=l.map SrcQ.r:=by rw [<- ES,g]
 have am:l.length<=120:=by
  have:=N;rw [show oT B c (List.range B.obs.length)=dh B c from rfl,F,al] at this;exact this
 have O:∀ D:Mem,C.le D->Pur cx.P 54 [d] D fun u E=>∃ v,u=.tuple #[v,.int .i64 0]/\B7 E v l:=fun D H=>by
  have:=KZ D (M.mono H) d B A c (e.mono H) h.rich om_ (by rw [g];omega);rw [g] at this;exact this
 rw [F];obtain ⟨v1,v2,tv,cv,ov,rfl,h1,h2,h3,h4,h5⟩:=id e.ex;have an:maxLen<=9223372036854775807:=by simp [maxLen]
 refine Tr func13 29 U3 fun w0=>Tl fun R a=>TC U6 fun b1=>C6 2 [1] a Z<|G.freeze 0 Z fun _ _ Q=>Tl fun R a=>Tj (bkT Q 5) U8<|TT (O _ mup) U7 (fun ao _ _ S=>?_);obtain ⟨wv,rfl,T⟩:=S;obtain ⟨vs,k,n⟩:=T;have o:=jv k;obtain ⟨U,V,rfl,W,ap,_⟩:=id n;have X:(bV vs l).length=l.length:=by unfold bV;simp [o]
 rw [X] at n W ⊢;refine C6 5 [4,5] a Z<|Th 1 [4,5,6] Z<|Th 3 [5,6,14,15,16] Z<|G.nilArr 140 2<|G.loop (fun fr C' I Y=>∃ (i:Nat)(p:Option Addr)(n1 q:Nat),(i<=l.length)/\fr=[(5,[],.int .i64 0),(6,[],.slice p n1 q),(14,[],.slice U l.length V),(15,[],.int .i64 l.length),(16,[],.int .i64 i)]/\I=[.arr (sL6 p n1 q) 140 2 i (prC (vs.take i) (l.take i)).flatten]/\Y=l.length-i) (hn_ [5,6,14,15,16] Z) ⟨0,none,0,0,PL _,Z,Z,Z⟩ (fun fr aq ar m _ hI=>?_);obtain ⟨i,p,n1,q,hi,rfl,rfl,rfl⟩:=hI;refine Th 1 [5,6,14,15,16,17] Z<|G.cd (fun t=>?_) fun t=>?_
 ·have x:i<l.length:=by
   have:=aY t;omega
  obtain ⟨s,y⟩:∃ s,l[i]?=some s:=⟨l[i],aj x⟩;obtain ⟨w,z⟩:∃ w,vs[i]?=some w:=⟨vs[i]'om_,aj om_⟩;have aa:=k.2 i w s.r z (by rw [PH,y];rfl);obtain ⟨Ax,ab,rfl,_⟩:=id aa;have ac:=Ba o z y;refine Tl fun R a=>Ty n.m_ U10 om_ (Kl z y) fl_ fun au ad=>Tj ad U8<|TB U5 fun b8=>Ts (j:=0) U12<|Tn [5,6,8,14,15,16] a Z<|G.freeze 0 Z fun _ _ ae=>Ti 2 Z fun R a=>Tj (bkT ae 2) U8<|TF [[.slice Ax (s.r.f.map ec).length ab,af (qtx s.r.b)]] U12 fun av _ _ ag=>TR (j:=0) U11 ag.m_ Z aw (by show (i+1)*40<=_;omega) fl_ fun J K L=>C6 1 [5,6,14,15,16] a Z<|Tl fun R a=>Tq _ Z U6<|C6 1 [5,6,14,15,16] a Z<|Tz (L':=[.arr (sL6 J K L) 140 2 (i+1) (prC (vs.take (i+1)) (l.take (i+1))).flatten]) (by rw [ac,Ql];rfl)<|Tv (m':=l.length-(i+1)) om_ mup (hn_ [5,6,14,15,16] Z) ⟨i+1,J,K,L,om_,Z,Z,Z⟩
 have x:i=l.length:=by
  have:=PJ t;omega
 subst x;refine Th 5 [2,3] Z ?_;rw [Qk (show vs.length<=l.length by omega),PT];refine G.freezeArr 0 (prC vs l) Z Z (L4 _ _) (by rw [prC,bI (by simp [o]),al]) fun Cf ax ah=>Tu (G.dropAll (TM U3 ?_));exact ⟨Z,_,Z,vs,RowsOk.mono k mup,ah⟩
theorem jh (C:Mem)(b:Value)(B:Bk)(d:BookIn C b B)(g:bs B+1=B.col.length)(h:bs B*bp B<=1000):Gives cx.P 17 [b] C (.int .i64 (bs B*bp B:Nat)):=by
 obtain ⟨i,j,k,l,m,rfl,h1,h2,h3,h4,h5⟩:=id d.ex;obtain ⟨n,o,rfl,e,_⟩:=id h1;obtain ⟨p,q,rfl,f,_⟩:=id h4;have r:maxLen<=9223372036854775807:=by simp [maxLen]
 simp only [al] at e f ⊢;exact Tr func17 12 U3 fun w0=>Tl fun R a=>TC U6 fun s=>C6 1 [1] a Z<|G.freeze 0 Z fun _ _ c=>Ti 1 Z fun R a=>Tj (bkT c 1) U8<|Tk U6<|TS (((bs B:Nat):Int)) U4 om_ om_ om_ U2<|Tm 2 Z<|Tj (bkT c 1) U8<|Tk U6<|Tq (((bs B*bp B:Nat):Int)) (Qa _ _) U6<|C6 1 [2] a Z<|Tp U2<|⟨Z,Z⟩
theorem jJ (C:Mem)(n:Nat)(h:n<=100000):Jog.Fn cx.P 16 [.int .i64 n] C [] fun u _f a=>∃ b,u=.slice (some ⟨b,0,none⟩) n n/\a=[.arr u 32 1 n (List.replicate n (af [48]))]:=by
 refine Tr func16 6 U3 fun w0=>Th 1 [0] Z<|TH [(2,3)] Z fun R c=>TF [[af [48]]] U12 fun g _ _ d=>Tk U6<|D.call (jC _ _ n [48] d.m_ om_) Z (.inr dc_) U6 (PI _) fl_ fun i _ j _ e=>C6 1 [2] c Z ?_;obtain ⟨bz,rfl,rfl⟩:=e;refine Tu (TW Z Z ?_);exact ⟨bz,Z,Z⟩
theorem gF (C:Mem)(a x y d:Str):Gives cx.P 56 [af a,af x,af y,af d] C (.agg ⟨[.int .i64 2,af a,af x,af y,af d,af [66],af [65],af [],af [],af []]⟩):=by
 refine Tr func56 15 U3 fun w0=>Tl fun R b=>TB U5 fun c=>Tn [0,1,2,3,8] b Z<|Ti 3 Z fun R b=>TA [af x,af y] U8<|Tk U6<|TA [.int .i64 2,af a,af x,af y,af d,af [66],af [65],af [],af [],af []] U8<|Ts (j:=0) U12<|Tn [8] b Z<|Tu (Uc ag U4 ?_);exact ⟨Z,Z⟩
theorem O2 (l:List Nat):(xB l).pts.map gi=[[af [48],af [48]],[af [54],af [48]],[af [48],af [52]]]:=by
 show [[af (qtx 0),af (qtx 0)],[af (qtx 6),af (qtx 0)],[af (qtx 0),af (qtx 4)]]=_;rw [LS,Iz,Kw]
theorem O8 (l:List Nat):(xB l).col.map sj=[[af [65],af [48],af []],[af [66],af [48],af []]]:=by
 show [[af [65],af (qtx 0),af []],[af [66],af (qtx 0),af []]]=_;rw [LS]
theorem kP (C:Mem)(b:Value)(l:List Nat)(c:Sl C 10 b ((l.map xO).map rb)):Pur cx.P 55 [b] C fun u D=>BookIn D u (xB l):=by
 obtain ⟨f,c0,rfl,_⟩:=id c;refine Tr func55 20 U3 fun w0=>Tl fun R a=>TB U5 fun p=>Tn [0,2] a Z<|Tl fun R a=>TA [af [48],af [48]] U8<|TA [af [54],af [48]] U8<|TA [af [48],af [52]] U8<|Ug [[af [48],af [48]],[af [54],af [48]],[af [48],af [52]]] U12 fl_ fun d _ _ g=>TA [.int .i64 0,.int .i64 1,.int .i64 2] U8<|Ug [[.int .i64 0,.int .i64 1,.int .i64 2]] U12 fl_ fun e _ _ h=>TA [.slice (some ⟨d,0,none⟩) 3 3,.slice (some ⟨e,0,none⟩) 1 1] U8<|TB U5 fun q=>Ts (j:=0) U12<|Tn [0,2,3] a Z<|Tl fun R a=>TA [af [65],af [48],af []] U8<|TA [af [66],af [48],af []] U8<|Ug [[af [65],af [48],af []],[af [66],af [48],af []]] U12 fl_ fun i _ _ k=>C6 1 [0,2,3,4] a Z<|G.freeze 0 Z fun _ _ m=>Tl fun R a=>Tj (bkT m 2) U8<|Ug [[af [49,48]],[af [49,48]],[af [49,48]]] U12 fl_ fun n _ _ o=>Tm 2 Z<|TA [.slice (some ⟨d,0,none⟩) 3 3,.slice (some ⟨e,0,none⟩) 1 1,.slice (some ⟨n,0,none⟩) 3 3,.slice (some ⟨i,0,none⟩) 2 2,.slice f ((l.map xO).map rb).length c0] U8<|Ts (j:=0) U12<|Tn [2] a Z<|Tu (Uc ag U4 ?_);exact ⟨Z,_,_,_,_,_,Z,by rw [O2];exact g.mono mup,h.mono mup,o.mono mup,by rw [O8];exact k.mono mup,c.mono mup⟩
def xC:List Rat:=gm 3 0 (0,1,2) (wgt (xB []).pts (0,1,2) (3,0)) 3
theorem xC_e:sgL xC 0=[1/2,1/2,0]/\sgL xC 1=[-1/2, -1/2,0]:=by decide +kernel
theorem O6:∀ k,k<2->Lp.Lim (ck 3 (eI (xR 0))) (fun j=>(sgL xC k).getD j 0) 20:=fun k a=>by
 have b:∀ k<2,∀ j<3,wlB 2 ((sgL xC k).getD j 0)=true:=by decide +kernel
 exact ub dc_ (Kf 0 dc_) ⟨2,by decide,by decide,fun j c=>Ee (b k a j c)⟩
theorem K5 (h:Hu (ck 3 (eI (xR 0))) xC u):u=.tuple #[af [54],af [54],.int .i64 0]:=by
 obtain ⟨e,f,g,i,h1,h2,h3⟩:=h;rw [xC_e.1] at h1;rw [xC_e.2] at h2;obtain ⟨a,c⟩:=h1.same O5;obtain ⟨b,d⟩:=(h2 om_).same Nw;rcases h3 with ⟨h3,_⟩ | ⟨_,rfl⟩
 ·omega
 unfold qO lQ;rw [aK a,aK b,c a,d b,show (1:Rat)*6=6 by decide +kernel,show (-1:Rat) * -6=6 by decide +kernel,Iz]
theorem K8 {D:Mem}(h:BuiO (xB [0,1]) (xRO [0,1]) D u):∃ (A:Option Addr)(n c:Nat),u=.tuple #[.slice none 0 0,.agg ⟨[.slice A n c]⟩,.bool false,.int .i64 0]:=by
 cases h with
 | yes pt v h1 h2 h3 h4 =>
  unfold ya at h1;rw [NW] at h1;exact absurd ⟨pt,h1⟩ x_no
 | no du a h1 h2 =>
  obtain ⟨A,c,rfl,_⟩:=id h2;exact ⟨_,_,_,Z⟩
theorem K6 {D:Mem}(b:EdgL (xB [2,3]).tris es)(h:FlatO (xB [2,3]) (xRO [2,3]) es D u):∃ (A:Option Addr)(n c:Nat)(A2:Option Addr)(n2 c2:Nat),u=.tuple #[.agg ⟨[.slice A n c,af [54],.slice A2 n2 c2]⟩,.int .i64 0]:=by
 obtain rfl:=b.same OA;have a:=Ny;rw [<- NV] at a;cases h with
 | opt v pt du f g h1 h2 h3 =>
  obtain ⟨vs,_,_,d⟩:=h2;obtain ⟨A,c,rfl,_⟩:=id d;obtain ⟨A2,c2,rfl,_⟩:=id h3;have e:=(h1.val.same a).2 rfl;exact ⟨_,_,_,_,_,_,by rw [e,Iz]⟩
 | inf h1 =>
  obtain ⟨_,⟨y,hy,_⟩,_⟩ | ⟨h,_⟩ | ⟨h,_⟩:=a
  ·exact absurd ⟨y,hy⟩ h1
  ·cases h
  cases h
theorem kW:rb (xO 0)=[.int .i64 2,af [97],af [51],af [48],af [52],af [66],af [65],af [],af [],af []]/\rb (xO 1)=[.int .i64 2,af [98],af [51],af [48],af [53],af [66],af [65],af [],af [],af []] /\
  rb (xO 2)=[.int .i64 2,af [97],af [48],af [48],af [52],af [66],af [65],af [],af [],af []]/\rb (xO 3)=[.int .i64 2,af [98],af [54],af [48],af [49],af [66],af [65],af [],af [],af []]:=by
 rw [HE,HE,HE,HE];exact ⟨Z,Z,Z,Z⟩
theorem O1:(.agg ⟨[af [51],af [48]]⟩:Value)=ptV (3,0):=by
 show _=Value.agg ⟨[af (qtx 3),af (qtx 0)]⟩;rw [E9,LS]
theorem wM (C:Mem)(b:Tabs C):Gives cx.P 11 [] C (.bool true):=by
 have c:=fun (D:Mem)(d:C.le D)(bv:Value)(e:BookIn D bv (xB [0]))=>wT D (b.mono d) bv (xB [0]) xFs (xRO [0]) 0 (3,0) 0 [] (0,1,2) [49,48] e (xY ok0) dc_ (Kg 0 dc_).2.2.2.2 ⟨bB (Kg 0 dc_).2.1,bB (Kg 0 dc_).2.2.1⟩ (HL 0 dc_) rfl (x_w 0 dc_)
  (by rw [<- Oa];exact Ns 0 dc_) (fun k f=>by
   have:=O6 k f;rw [<- rows0] at this;exact this)
 have g:∀ es,EdgL (xB [2,3]).tris es->bs (xB [2,3])*bp (xB [2,3])+bs (xB [2,3])*es.length<=12:=fun es h=>by
  obtain rfl:=h.same OA;decide
 refine Tr func11 64 U3 fun w0=>Ti 1 Z fun R a=>Ut [] trivial (a _ _ _ Z ?_);refine Tl fun R a=>Tt (gF _ [97] [51] [48] [52]) U7<|Ug [[.int .i64 2,af [97],af [51],af [48],af [52],af [66],af [65],af [],af [],af []]] U12 fl_ fun w _ _ i=>TO (kP _ _ [0] (by show Sl _ 10 _ [rb (xO 0)];rw [kW.1];exact i.mono mup)) U7 fl_ fun x _ _ l=>TA [af [51],af [48]] U8 ?_;rw [O1];refine TT (c _ mup _ l.m_) U7 (fun y _ _ m=>?_);obtain rfl:=K5 (by have:=m;unfold ya at this;rw [rows0] at this;exact this);refine C6 7 [1,2,3] a Z<|Tl fun R a=>Tt (gF _ [97] [51] [48] [52]) U7<|Tt (gF _ [98] [51] [48] [53]) U7<|Ug [[.int .i64 2,af [97],af [51],af [48],af [52],af [66],af [65],af [],af [],af []],[.int .i64 2,af [98],af [51],af [48],af [53],af [66],af [65],af [],af [],af []]] U12 fl_ fun z _ _ n=>TO (kP _ _ [0,1] (by show Sl _ 10 _ [rb (xO 0),rb (xO 1)];rw [kW.1,kW.2.1];exact n.mono mup)) U7 fl_ fun A _ _ o=>TT (Gm _ b.m_ _ (xB [0,1]) xFs (xRO [0,1]) o.m_ (xY ok01)) U7 (fun B _ _ p=>?_);obtain ⟨E,nb,F,rfl⟩:=K8 p;refine Tm 5 Z<|TB U5 fun H=>Tk U6<|Ts (j:=0) U12<|C6 2 [1,2,3,6,7] a Z<|Tl fun R a=>Tt (gF _ [97] [48] [48] [52]) U7<|Tt (gF _ [98] [54] [48] [49]) U7<|Ug [[.int .i64 2,af [97],af [48],af [48],af [52],af [66],af [65],af [],af [],af []],[.int .i64 2,af [98],af [54],af [48],af [49],af [66],af [65],af [],af [],af []]] U12 fl_ fun I _ _ q=>TO (kP _ _ [2,3] (by show Sl _ 10 _ [rb (xO 2),rb (xO 3)];rw [kW.2.2.1,kW.2.2.2];exact q.mono mup)) U7 fl_ fun J _ _ r=>TO (Jj _ b.m_ _ (xB [2,3]) xFs (xRO [2,3]) r.m_ (xY ok23) dc_ dc_ g) U7 fl_ (fun K _ _ s=>?_);obtain ⟨es,t,u⟩:=s;obtain ⟨L,M,N,O,Q,S,rfl⟩:=K6 t u;exact Tm 3 Z<|TB U5 fun T=>Ts (j:=0) U12<|C6 1 [1,2,3,6,7,8,9] a Z<|G.freeze 0 Z fun _ _ v=>Ti 5 Z fun R a=>TJ U8<|Tm 3 Z<|TJ U8<|Tm 3 Z<|TJ U8<|Tm 3 Z<|TJ U8<|Tm 3 Z<|TJ U8<|Tm 2 Z<|TN U6 (fun _=>PtrTo.blockT (Mem.get v mup) _ 1) U3<|Tk U6<|TJ U8<|C6 1 [0] a Z<|Tp U2<|⟨Z,Z⟩
end Go.Proofs.YtfjcldheldflbaaGreatDoor
