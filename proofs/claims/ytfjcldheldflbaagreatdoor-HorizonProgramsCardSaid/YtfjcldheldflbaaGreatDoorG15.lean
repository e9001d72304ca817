/- Laws that the proofs of this seat share, part 15. -/
import Derived.Test.YtfjcldheldflbaaGreatDoorG14
import Derived.Test.YtfjcldheldflbaaGreatDoorShelf
set_option maxHeartbeats 4000000
namespace Go.Proofs.YtfjcldheldflbaaGreatDoor
open Go.Proofs.Tryz
open Go Go.Jog
set_option maxRecDepth 100000
variable {B:Bk}{C:Mem}{es:List (Nat × Nat)}{i k:Nat}{l:List RowQ}{m n p:Nat}{r r':RowQ}{rows:List RowQ}{s:Nat}{u:Value}{us:List Value}{w:Value}
theorem Mt (n:Nat)(q:Rat):List.replicate n (af (qtx q))=((List.replicate n q).map aP).flatten:=by
 rw [RX];induction n with
 | zero=>rfl
 | succ n a=>rw [Qm,Qm,Qq,<- a];rfl
theorem EI (C:Mem)(v:Value)(n:Nat)(q:Rat)(s:Str)(a:qtx q=s)(c:Sl C 1 v [[af s]])(d:n<=1000000):Pur cx.P 64 [v,.int .i64 n] C fun u D=>∃ b,u=.slice (some ⟨b,0,none⟩) n n/\Sl D 1 u ((List.replicate n q).map aP) :=
 UC (jy C v n s c d) fun u e f ⟨b,h1,h2⟩=>.inr ⟨u,32,1,(List.replicate n q).map aP,by rw [h2,<- Mt,a];simp,bH,fun D _ h=>⟨b,h1,h⟩⟩
theorem oc (C:Mem)(n:Nat)(h:n<=100000):Pur cx.P 77 [.int .i64 n] C fun u D=>∃ b,u=.slice (some ⟨b,0,none⟩) n n/\Sl D 1 u ((List.replicate n (0:Rat)).map aP) :=
 UC (lL C n h) fun u a c ⟨b,h1,h2⟩=>.inr ⟨u,32,1,(List.replicate n 0).map aP,by rw [h2,<- gF];simp,bH,fun D _ h=>⟨b,h1,h⟩⟩
def ym (rows:List RowQ)(more i:Nat):List RowQ:=(rows.take i).map (bR more)++rows.drop i
theorem IN (a:List RowQ)(b i:Nat):(ym a b i).length=a.length:=by
 unfold ym;rw [Po,al,<- Po,P9]
theorem Ma {more:Nat}(h:rows[i]?=some r):(ym rows more i)[i]?=some r/\ym rows more (i+1)=(ym rows more i).set i (bR more r):=by
 have c:=(aJ.1 h).1;have a:((rows.take i).map (bR more)).length=i:=by rw [al,Pw];omega
 have b:rows.drop i=r::rows.drop (i+1):=by rw [PI c,(aJ.1 h).2]
 unfold ym;constructor
 ·rw [PJ om_,a,RR,b];rfl
 rw [PN,h,PM,b,List.set_append_right _ _ om_,a,RR];simp
theorem fS (d:us.length=l.length)(c:l[i]?=some r)(e:r'.b=r.b) :
  aE (ay us l).flatten [w] (i*2)=(ay (us.set i w) (l.set i r')).flatten:=by
 have f:=(aJ.1 c).1;obtain ⟨u0,g⟩:∃ u0,us[i]?=some u0:=⟨us[i]'om_,ak om_⟩;have h:us=us.take i++u0::us.drop (i+1):=by
  conv=>lhs;rw [<- P9 i us,PI om_,(aJ.1 g).2]
 have j:l=l.take i++r::l.drop (i+1):=by
  conv=>lhs;rw [<- P9 i l,PI om_,(aJ.1 c).2]
 have a:(us.take i).length=(l.take i).length:=by rw [Pw,Pw,d]
 have k:ay us l=ay (us.take i) (l.take i)++[u0,af (qtx r.b)]::ay (us.drop (i+1)) (l.drop (i+1)):=by
  conv=>lhs;rw [h,j]
  unfold ay;rw [List.zipWith_append a];rfl
 have m:ay (us.set i w) (l.set i r')=ay (us.take i) (l.take i)++[w,af (qtx r.b)]::ay (us.drop (i+1)) (l.drop (i+1)):=by
  rw [List.set_eq_take_append_cons_drop,aL om_,List.set_eq_take_append_cons_drop,aL f];unfold ay;rw [List.zipWith_append a,<- e];rfl
 have n:(ay (us.take i) (l.take i)).flatten.length=i*2:=by
  rw [aO (bP _ _),bA a,Pw,Qn om_]
 rw [k,m,PH,PH,Qq,Qq];exact vz (A:=(ay (us.take i) (l.take i)).flatten) (x:=u0) (B:=af (qtx r.b)::(ay (us.drop (i+1)) (l.drop (i+1))).flatten) n
theorem jv (h:RowsOk C us l)(b:Sl C 1 w (r'.f.map eD)):RowsOk C (us.set i w) (l.set i r'):=by
 refine ⟨by rw [P3,P3];exact h.1,fun j v r a hr=>?_⟩;rw [List.getElem?_set] at a hr;by_cases e:i=j
 ·subst e;rw [aL rfl] at a hr;split at a
  ·split at hr
   ·cases a;cases hr;exact b
   cases hr
  cases a
 rw [aF e] at a hr;exact h.2 j v r a hr
theorem eM (h:RowsOk C us l)(e:Sl C 1 w (r.f.map eD)):RowsOk C (us++[w]) (l++[r]):=by
 refine ⟨by rw [Po,Po,h.1];rfl,fun j v x a b=>?_⟩;have:=h.1;rcases PQ j us.length with c | c
 ·rw [P0 c] at a;rw [P0 om_] at b;exact h.2 j v x a b
 rw [PJ c] at a;rw [PJ om_] at b;cases d:j-us.length with
 | zero =>
  rw [d] at a;rw [show j-l.length=0 by omega] at b;cases a;cases b;exact e
 | succ k=>rw [d] at a;cases a
theorem vS (d:us.length=l.length)(a:l[i]?=some r)(e:us[i]?=some w):((ay us l).flatten.drop (i*2)).take 2=[w,af (qtx r.b)]:=by
 have k:=(aJ.1 a).1;have f:us=us.take i++w::us.drop (i+1):=by
  conv=>lhs;rw [<- P9 i us,PI om_,(aJ.1 e).2]
 have g:l=l.take i++r::l.drop (i+1):=by
  conv=>lhs;rw [<- P9 i l,PI om_,(aJ.1 a).2]
 have c:(us.take i).length=(l.take i).length:=by rw [Pw,Pw,d]
 have h:ay us l=ay (us.take i) (l.take i)++[w,af (qtx r.b)]::ay (us.drop (i+1)) (l.drop (i+1)):=by
  conv=>lhs;rw [f,g]
  unfold ay;rw [List.zipWith_append c];rfl
 have j:(ay (us.take i) (l.take i)).flatten.length=i*2:=by
  rw [aO (bP _ _),bA c,Pw,Qn om_]
 rw [h,PH,Qq,<- j,List.drop_left];rfl
theorem fY (l:List Rat):((l.map aP).all fun r=>r.all na)=true:=by
 rw [PD];intro r hr;obtain ⟨q,_,rfl⟩:=Pn.1 hr;rfl
theorem Av {h:Nat}{q:Nat}(a:q<2):(rgK n h p es k).take (q+1)=(rgK n h p es k).take q++[⟨rgF n h p es.length k (edg es k) (nF q),0⟩]:=by
 rcases (by omega:q=0∨q=1) with rfl | rfl <;> rfl
def Om (D:Mem)(n:Nat)(rows:List RowQ)(ob:List Rat)(u:Value):Prop:=∃ (A1:Option Addr)(n1 c1:Nat)(A2:Option Addr)(n2 c2:Nat),u=.agg ⟨[.int .i64 n,.slice A1 n1 c1,.slice A2 n2 c2]⟩/\RowsT D (.slice A1 n1 c1) ((eG rows).map fo)/\Sl D 1 (.slice A2 n2 c2) (ob.map aP)
abbrev sR7 (A:Option Addr)(n c:Nat):Value:=.slice A n c
abbrev sF7 (A:Option Addr)(n c:Nat):Value:=.slice A n c
theorem Ao (C:Mem)(hT:Tabs C)(bv:Value)(B:Bk)(fs:List Rat)(RO:Nat->List RowQ)(d:BookIn C bv B)(h:Calm B fs RO)(a0:bp B<=6)(a1:bs B<=2) :
  Pur cx.P 22 [bv] C fun u D=>∃ es x,u=.tuple #[x,.int .i64 0]/\EdgL B.tris es/\Om D (bs B*bp B+bs B*es.length) (uR (dp B RO) (bs B*bp B) (bp B) es (bs B*es.length)) (kb (bs B*bp B) (bs B*es.length)) x:=by
 have a2:=d;have hG:=h.rich.good;have a3:=h.n12;have a4:=h.cnt (dm B.obs.length);have ae:=fun (D:Mem)(hD:C.le D)=>kI D (hT.mono hD) bv B fs RO (d.mono hD) h;obtain ⟨v1,v2,tv,cv,ov,rfl,h1,h2,h3,h4,h5⟩:=id d.ex;have hm:MeshIn C (.agg ⟨[v1,v2]⟩) B.pts B.tris:=⟨v1,v2,rfl,h1,h2⟩;obtain ⟨s,t,rfl,a5,_⟩:=id h1;obtain ⟨A4,c4,rfl,a6,_⟩:=id h4;have a7:(B.pts.map fZ).length=bp B:=al _;have a8:(B.col.map uV).length=bs B+1:=by rw [al];have:=h.rich.scol.1;omega
 simp only [a7,a8] at h1 a5 h4 a6 hm a2 ae ⊢;have bL:maxLen<=9223372036854775807:=by simp [maxLen]
 obtain ⟨n,hn⟩:∃ n,bs B*bp B=n:=⟨_,rfl⟩;obtain ⟨rows,ar⟩:∃ rows,dp B RO=rows:=⟨_,rfl⟩;rw [show nv B RO (List.range B.obs.length)=rows from ar] at a4;rw [hn] at ae a3 ⊢;rw [ar] at ae ⊢;have a9:∀ r∈rows,r.f.length<=12:=fun r hr=>by
  have h1:=(h.rowsQ (dm B.obs.length)).l (r.f,r.b) (Pn.2 ⟨r,by rw [<- ar] at hr;exact hr,rfl⟩);have h2:r.f.length=bs B*bp B:=h1;omega
 refine S4 func22 153 U3 fun w0=>?_;refine SX fun R c=>?_;refine Tf U6 (fun b1=>?_);refine Te U5 (fun v=>?_);refine C6 1 [1,2] c Z ?_;clear c R;refine G.freeze 1 Z (fun _ _ ai=>?_);refine Tk [(1,3)] Z (fun R c=>?_);refine SU (bkT ai 5) U8 ?_;refine D.call (ae _ mup) Z (.inr dc_) U6 (Pk _) fl_ (fun bM _ bN _ ba=>?_);obtain ⟨O,E,bo,vs,rfl,bb,rfl⟩:=ba;refine SZ 3 Z ?_;refine Te U5 (fun y=>?_);refine S5 (j:=0) U12 ?_;refine C6 1 [1,2,4,5] c Z ?_;clear c R;refine SR 2 [1,2,4,5,24] Z ?_;refine G.cd (fun aJ=>?_) fun aJ=>?_
 ·exact absurd aJ dc_
 refine SS 1 Z fun R c=>?_;refine SU (bkT ai 2) U8 ?_;refine Tv (Bp _ hT.m_ _ B.pts B.tris hm.m_ hG) U7 (fun bO _ _ bc=>?_);obtain ⟨es,ev,rfl,au,av⟩:=bc;obtain ⟨Ae,ce,rfl,bd,_⟩:=id av;simp only [al] at av bd ⊢;obtain ⟨be,bQ⟩:=au.le hG.ok.ins a0;obtain ⟨a,ad⟩:∃ a,bs B*es.length=a:=⟨_,rfl⟩;have bS:a<=30:=by rw [<- ad];exact Qz a1 be
 refine C6 5 [1,2,4,5,6] c Z ?_;clear c R;refine SR 2 [1,2,4,5,6,34] Z ?_;refine G.cd (fun aK=>?_) fun aK=>?_
 ·exact absurd aK dc_
 refine Tg [0,1,2,3,4,5,6,7] [] Z kr_ (fun R d c=>?_);refine SV U6 ?_;refine S1 ag U9 ?_;refine SZ 2 Z ?_;refine SU (bkT ai 1) U8 ?_;refine SZ 3 Z ?_;refine SY [1,2,4,6,7,8] c Z ?_;clear c d R;refine SS 1 Z fun R c=>?_;refine SU (bkT ai 1) U8 ?_;refine SV U6 ?_;refine Ts (((bs B:Nat):Int)) U4 om_ om_ om_ U2 ?_;refine SZ 2 Z ?_;refine Ts (((a:Nat):Int)) U4 (by rw [<- ad,PL]) om_ om_ U2 ?_;refine C6 1 [2,4,6,7,8,9] c Z ?_;clear c R;refine SS 1 Z fun R c=>?_;refine S1 ag U9 ?_;refine SV U6 ?_;refine Ts (((n+a:Nat):Int)) U4 om_ om_ om_ U2 ?_;refine SV U6 ?_;refine S5 (j:=0) U12 ?_;refine SY [2,4,6,7,8,9] c Z ?_;clear c R;refine SS 1 Z fun R c=>?_;refine S1 ag U9 ?_;refine SZ 3 Z ?_;refine S1 ag U9 ?_;refine SZ 2 Z ?_;refine S2 _ Z U6 ?_;refine S2 _ Z U6 ?_;refine SV U6 ?_;refine Tt U8 ?_;refine SY [2,4,6,7,8,9,66] c Z ?_;clear c R;refine G.cd (fun aL=>?_) fun aL=>?_
 ·exact absurd aL ap
 refine Tg [0,1,3,2,4,5,6,7] [] Z kr_ (fun R d c=>?_);refine SV U6 ?_;refine S1 ag U9 ?_;refine SV U6 ?_;refine Th [[af [49]]] U12 (fun bT _ _ bf=>?_);refine To (EI _ _ a 1 [49] Ik bf.m_ om_) U7 fl_ (fun bU _ _ bg=>?_);obtain ⟨bV,rfl,bh⟩:=bg;refine Tq (j:=2) U11 bh.m_ (fY _) (by simp only [al,PB,maxLen];omega) (by simp only [al,PB];omega) fl_ (fun e o p=>?_);refine SV U6 ?_;refine S5 (j:=1) U12 ?_;refine SY [2,4,6,7,8,9] c Z ?_;clear c d R;refine SS 1 Z fun R c=>?_;refine S1 ag U9 ?_;refine C6 2 [2,4,6,7,8,9,76,77,78] c Z ?_;clear c R;have bi:List.replicate n (af [48])++((List.replicate a (1:Rat)).map aP).flatten=((kb n a).map aP).flatten:=by
  rw [gF];unfold kb;rw [PM,PH]
 have bj:n+((List.replicate a (1:Rat)).map aP).length=n+a:=by simp
 refine G.perm (L':=[.arr (sR7 O rows.length E) 140 2 (rows.length) (ay vs (ym rows a 0)).flatten,.arr (sF7 e o p) 32 1 (n+a) ((kb n a).map aP).flatten,.obj y (.cells ⟨[.int .i64 (n+a:Nat),.slice O rows.length E,.slice e o p]⟩ 74 (0,0)),.obj v (.cells ⟨[.int .i64 0,.slice none 0 0,.slice none 0 0]⟩ 74 (0,0))]) (by rw [show ym rows a 0=rows from Z,<- bi,<- bj];(exact pkL [2,1,0,0] Z)) ?_;refine G.loop (fun fr K z F=>∃ (i:Nat)(us:List Value),(i<=rows.length/\RowsOk K us (ym rows a i))/\fr=[(2,[],.pointer (some ⟨v,0,none⟩)),(4,[],.pointer (some ⟨y,0,none⟩)),(6,[],.slice Ae es.length ce),(7,[],.int .i64 n),(8,[],.int .i64 (bp B:Nat)),(9,[],.int .i64 a),(76,[],.slice O rows.length E),(77,[],.int .i64 rows.length),(78,[],.int .i64 i)]/\z=[.arr (sR7 O rows.length E) 140 2 rows.length (ay us (ym rows a i)).flatten,.arr (sF7 e o p) 32 1 (n+a) ((kb n a).map aP).flatten,.obj y (.cells ⟨[.int .i64 (n+a:Nat),.slice O rows.length E,.slice e o p]⟩ 74 (0,0)),.obj v (.cells ⟨[.int .i64 0,.slice none 0 0,.slice none 0 0]⟩ 74 (0,0))]/\F=rows.length-i) (hn_ [2,4,6,7,8,9,76,77,78] Z) ⟨0,vs,⟨Pm _,by rw [show ym rows a 0=rows from rfl];exact RowsOk.mono bb mup⟩,Z,Z,Z⟩ (fun fr bW bX m _ H=>?_);obtain ⟨i,us,⟨hi,L⟩,rfl,rfl,rfl⟩:=H;refine UY ag (fun A0 c0 bk bl=>?_);refine SR 1 [2,4,6,7,8,9,76,77,78,79] Z ?_;refine G.cd (fun az=>?_) fun az=>?_
 ·have aA:i<rows.length:=by
   have:=OD az;omega
  obtain ⟨rfl,rfl⟩:O=A0/\E=c0:=by cases bk;exact ⟨rfl,rfl⟩
  obtain ⟨g,rfl⟩:=bl om_;obtain ⟨r,aM⟩:∃ r,rows[i]?=some r:=⟨rows[i],ak aA⟩;obtain ⟨V,M⟩:=Ma (more:=a) aM;have bZ:=IN rows a i;have I:=L.1;obtain ⟨w,aN⟩:∃ w,us[i]?=some w:=⟨us[i]'om_,ak om_⟩;have aB:=L.2 i w r aN V;obtain ⟨Aw,cw,rfl,_⟩:=id aB;have b0:r.f.length<=12:=a9 r (Pe aM);refine SS 1 Z fun R c=>?_;refine Tm ((i*2)) U10 aj U2 ?_;refine TF ag U6 (fun _=>(by rw [show ((TI.size _:Nat))=2 from Z,vS I V aN];rfl)) U2 ?_;refine Te U5 (fun b3=>?_);refine SV U6 ?_;refine S5 (j:=0) U12 ?_;refine SY [2,4,6,7,8,9,10,11,76,77,78] c Z ?_;clear c R;refine G.freeze 0 Z (fun _ _ bm=>?_);refine G.cut (fun fr K z F=>∃ (an:List Value),(RowsOk K an (ym rows a (i+1)))/\fr=[(2,[],.pointer (some ⟨v,0,none⟩)),(4,[],.pointer (some ⟨y,0,none⟩)),(6,[],.slice Ae es.length ce),(7,[],.int .i64 n),(8,[],.int .i64 (bp B:Nat)),(9,[],.int .i64 a),(76,[],.slice (some ⟨g,0,none⟩) rows.length E),(77,[],.int .i64 rows.length),(78,[],.int .i64 i)]/\z=[.arr (sR7 (some ⟨g,0,none⟩) rows.length E) 140 2 (rows.length) (ay an (ym rows a (i+1))).flatten,.arr (sF7 e o p) 32 1 (n+a) ((kb n a).map aP).flatten,.obj y (.cells ⟨[.int .i64 (n+a:Nat),.slice (some ⟨g,0,none⟩) rows.length E,.slice e o p]⟩ 74 (0,0)),.obj v (.cells ⟨[.int .i64 0,.slice none 0 0,.slice none 0 0]⟩ 74 (0,0))]) ?_ (fun fr b5 b6 F b7 H=>?_)
  ·refine TG (.cut [0,2,3,4,6] (.alt 1 (.fin [5,7,8,9,10,11]) (.alt 5 (.cut [] (.alt 1 (.fin [7,8,9,10,11]) (.alt 7 (.cut [] (.alt 1 (.fin [8,9,10,11]) (.alt 8 (.fin [1,9,10,11]) .stop))) .stop))) .stop))) [(5,3),(4,0)] Z Z kr_ (fun R d c A=>?_);refine SZ 3 Z ?_;refine TS (fun _=>((bkT bm 1).mono d)) U9 ?_;refine SV U6 ?_;refine Tw A Z ⟨?_, ?_,trivial⟩
   ·try obtain ⟨W,X,cc,rfl,rfl⟩:=N
    first | refine Ty ac U9 ?_ | refine Ty aa U9 ?_
    refine D.call (xd _ _ r.f aB.m_ om_) Z (.inr dc_) U6 (Pk _) fl_ (fun bn bq br _ N=>?_)
    try obtain ⟨W,X,cc,rfl,rfl⟩:=N
    refine To (oc _ a om_) U7 fl_ (fun aQ aR _ Y=>?_);obtain ⟨bz,rfl,Q⟩:=Y;refine Tq (j:=0) U11 Q.m_ (fY _) (by simp only [al,PB,maxLen];omega) (by simp only [al,PB];omega) fl_ (fun S T U=>?_);refine Tm ((i*2)) U10 aj U2 ?_;refine SV U6 ?_;refine Tr (j:=1) U11 (by rw [aO (bP _ _),bA I];simp;omega) ?_;refine SY [2,4,6,7,8,9,76,77,78] c Z ?_;clear c d A R;rw [<- PH,<- PM,fS I V (r':=bR a r) rfl,<- M];refine G.freezeArr 1 ((r.f++List.replicate a (0:Rat)).map aP) U2 bH am (fun Cf ao J=>?_);exact S9 0 mup (hn_ [2,4,6,7,8,9,76,77,78] Z) ⟨us.set i (.slice S T U),by rw [M];exact jv (RowsOk.m_ L) J,Z,Z⟩
   refine D.call (xd _ _ r.f aB.m_ om_) Z (.inr dc_) U6 (Pk _) fl_ (fun bn bq br _ N=>?_);refine Tw A Z ⟨?_, ?_,trivial⟩
   ·try obtain ⟨W,X,cc,rfl,rfl⟩:=N
    first | refine Ty ac U9 ?_ | refine Ty aa U9 ?_
    try obtain ⟨W,X,cc,rfl,rfl⟩:=N
    refine To (oc _ a om_) U7 fl_ (fun aQ aR _ Y=>?_);obtain ⟨bz,rfl,Q⟩:=Y;refine Tq (j:=0) U11 Q.m_ (fY _) (by simp only [al,PB,maxLen];omega) (by simp only [al,PB];omega) fl_ (fun S T U=>?_);refine Tm ((i*2)) U10 aj U2 ?_;refine SV U6 ?_;refine Tr (j:=1) U11 (by rw [aO (bP _ _),bA I];simp;omega) ?_;refine SY [2,4,6,7,8,9,76,77,78] c Z ?_;clear c d A R;rw [<- PH,<- PM,fS I V (r':=bR a r) rfl,<- M];refine G.freezeArr 1 ((r.f++List.replicate a (0:Rat)).map aP) U2 bH am (fun Cf ao J=>?_);exact S9 0 mup (hn_ [2,4,6,7,8,9,76,77,78] Z) ⟨us.set i (.slice S T U),by rw [M];exact jv (RowsOk.m_ L) J,Z,Z⟩
   try obtain ⟨W,X,cc,rfl,rfl⟩:=N
   refine To (oc _ a om_) U7 fl_ (fun aQ aR _ Y=>?_);refine Tw A Z ⟨?_, ?_,trivial⟩
   ·try obtain ⟨W,X,cc,rfl,rfl⟩:=N
    first | refine Ty ac U9 ?_ | refine Ty aa U9 ?_
    obtain ⟨bz,rfl,Q⟩:=Y;refine Tq (j:=0) U11 Q.m_ (fY _) (by simp only [al,PB,maxLen];omega) (by simp only [al,PB];omega) fl_ (fun S T U=>?_);refine Tm ((i*2)) U10 aj U2 ?_;refine SV U6 ?_;refine Tr (j:=1) U11 (by rw [aO (bP _ _),bA I];simp;omega) ?_;refine SY [2,4,6,7,8,9,76,77,78] c Z ?_;clear c d A R;rw [<- PH,<- PM,fS I V (r':=bR a r) rfl,<- M];refine G.freezeArr 1 ((r.f++List.replicate a (0:Rat)).map aP) U2 bH am (fun Cf ao J=>?_);exact S9 0 mup (hn_ [2,4,6,7,8,9,76,77,78] Z) ⟨us.set i (.slice S T U),by rw [M];exact jv (RowsOk.m_ L) J,Z,Z⟩
   obtain ⟨bz,rfl,Q⟩:=Y;refine Tq (j:=0) U11 Q.m_ (fY _) (by simp only [al,PB,maxLen];omega) (by simp only [al,PB];omega) fl_ (fun S T U=>?_)
   try obtain ⟨W,X,cc,rfl,rfl⟩:=N
   first | refine Ty ac U9 ?_ | refine Ty aa U9 ?_
   refine Tm ((i*2)) U10 aj U2 ?_;refine SV U6 ?_;refine Tr (j:=1) U11 (by rw [aO (bP _ _),bA I];simp;omega) ?_;refine SY [2,4,6,7,8,9,76,77,78] c Z ?_;clear c d A R;rw [<- PH,<- PM,fS I V (r':=bR a r) rfl,<- M];refine G.freezeArr 1 ((r.f++List.replicate a (0:Rat)).map aP) U2 bH am (fun Cf ao J=>?_);exact S9 0 mup (hn_ [2,4,6,7,8,9,76,77,78] Z) ⟨us.set i (.slice S T U),by rw [M];exact jv (RowsOk.m_ L) J,Z,Z⟩
  obtain ⟨an,ab,rfl,rfl⟩:=H;refine SX fun R c=>?_;refine S2 _ Z U6 ?_;refine C6 1 [2,4,6,7,8,9,76,77,78] c Z ?_;clear c R;refine S6 (m':=rows.length-(i+1)) om_ mup (hn_ [2,4,6,7,8,9,76,77,78] Z) ⟨i+1,an,⟨by omega,ab⟩,Z,Z,Z⟩
 have aA:i=rows.length:=by
  have:=Pj az;omega
 subst aA;refine SR 2 [2,4,6,7,8,95,96] Z ?_;rw [show ym rows a rows.length=rows.map (bR a)++rgL (n+a) n (bp B) es 0 by unfold ym;rw [Pv,Qk];rfl] at L ⊢;refine G.loop (fun fr K z F=>∃ (k:Nat)(s:Option Addr)(n1 t:Nat)(us:List Value),(k<=a/\RowsOk K us (rows.map (bR a)++rgL (n+a) n (bp B) es k))/\fr=[(2,[],.pointer (some ⟨v,0,none⟩)),(4,[],.pointer (some ⟨y,0,none⟩)),(6,[],.slice Ae es.length ce),(7,[],.int .i64 n),(8,[],.int .i64 (bp B:Nat)),(95,[],.int .i64 a),(96,[],.int .i64 k)]/\z=[.arr (sR7 s n1 t) 140 2 (rows.length+2*k) (ay us (rows.map (bR a)++rgL (n+a) n (bp B) es k)).flatten,.arr (sF7 e o p) 32 1 (n+a) ((kb n a).map aP).flatten,.obj y (.cells ⟨[.int .i64 (n+a:Nat),.slice s n1 t,.slice e o p]⟩ 74 (0,0)),.obj v (.cells ⟨[.int .i64 0,.slice none 0 0,.slice none 0 0]⟩ 74 (0,0))]/\F=a-k) (hn_ [2,4,6,7,8,95,96] Z) ⟨0,O,rows.length,E,us,⟨Pm _,RowsOk.mono L mup⟩,Z,Z,Z⟩ (fun fr b8 b9 m _ H=>?_);obtain ⟨k,s,n1,t,us,⟨hk,aC⟩,rfl,rfl,rfl⟩:=H;refine SR 1 [2,4,6,7,8,95,96,97] Z ?_;refine G.cd (fun aD=>?_) fun aD=>?_
 ·have ca:k<a:=by
   have:=OD aD;omega
  have aS:k<bs B*es.length:=by omega
  obtain ⟨bt,cb⟩:=yK aS;obtain ⟨bu,bw,cf⟩:=Gs (au.ok (n:=bp B) hG.ok.ins (bs B)) aS;rw [hn] at bu bw;have bB:0<es.length:=List.length_pos_of_mem bt;have aT:=PY k bB;have bC:(es.map uj)[k % es.length]?=some (uj (edg es k)):=by
   rw [Pi,ak aT];unfold edg;rw [ax,ak aT];rfl
  refine SR 2 [2,4,6,7,8,12,95,96] Z ?_;refine Tg [0,1,2,3,4,5,6,7,8,9,10,11,12,13] [] Z kr_ (fun R d c=>?_);refine SZ 3 Z ?_;refine TV (k) (es.length) U6 om_ (.inl ⟨Z,by omega⟩) U2 ?_;refine SZ 4 Z ?_;refine TM (k) (es.length) U6 om_ U2 ?_;refine Ta av.m_ U10 om_ bC fl_ (fun cg bD=>?_);refine SU bD U8 ?_;refine Te U5 (fun aU=>?_);refine SV U6 ?_;refine S5 (j:=0) U12 ?_;refine SY [2,4,6,7,8,12,13,14,95,96] c Z ?_;clear c d R;refine G.freeze 0 Z (fun _ _ aE=>?_);refine SX fun R c=>?_;refine TH [[af [49]],[af [45,49]]] U12 fl_ (fun aV _ _ aW=>?_);refine C6 2 [2,4,6,7,8,12,13,14,95,96,110,111,112] c Z ?_;clear c R;rw [OR] at aW;refine Tc (L':=[.arr (sR7 s n1 t) 140 2 (rows.length+2*k+0) (ay us (rows.map (bR a)++(rgL (n+a) n (bp B) es k++(rgK (n+a) n (bp B) es k).take 0))).flatten,.arr (sF7 e o p) 32 1 (n+a) ((kb n a).map aP).flatten,.obj y (.cells ⟨[.int .i64 (n+a:Nat),.slice s n1 t,.slice e o p]⟩ 74 (0,0)),.obj v (.cells ⟨[.int .i64 0,.slice none 0 0,.slice none 0 0]⟩ 74 (0,0))]) (by rw [List.take_zero,PF];rfl) ?_;refine G.loop (fun fr K z F=>∃ (q:Nat)(s:Option Addr)(n1 t:Nat)(us:List Value),(q<=2/\RowsOk K us (rows.map (bR a)++(rgL (n+a) n (bp B) es k++(rgK (n+a) n (bp B) es k).take q)))/\fr=[(2,[],.pointer (some ⟨v,0,none⟩)),(4,[],.pointer (some ⟨y,0,none⟩)),(6,[],.slice Ae es.length ce),(7,[],.int .i64 n),(8,[],.int .i64 (bp B:Nat)),(12,[],.int .i64 k),(13,[],.int .i64 (k / es.length:Nat)),(14,[],.pointer (some ⟨aU,0,none⟩)),(95,[],.int .i64 a),(96,[],.int .i64 k),(110,[],.slice (some ⟨aV,0,none⟩) 2 2),(111,[],.int .i64 2),(112,[],.int .i64 q)]/\z=[.arr (sR7 s n1 t) 140 2 (rows.length+2*k+q) (ay us (rows.map (bR a)++(rgL (n+a) n (bp B) es k++(rgK (n+a) n (bp B) es k).take q))).flatten,.arr (sF7 e o p) 32 1 (n+a) ((kb n a).map aP).flatten,.obj y (.cells ⟨[.int .i64 (n+a:Nat),.slice s n1 t,.slice e o p]⟩ 74 (0,0)),.obj v (.cells ⟨[.int .i64 0,.slice none 0 0,.slice none 0 0]⟩ 74 (0,0))]/\F=2-q) (hn_ [2,4,6,7,8,12,13,14,95,96,110,111,112] Z) ⟨0,s,n1,t,us,⟨Pm _,by rw [List.take_zero,PF];exact RowsOk.mono aC mup⟩,Z,Z,Z⟩ (fun fr ch ci m _ H=>?_);obtain ⟨q,s,n1,t,us,⟨cj,ab⟩,rfl,rfl,rfl⟩:=H;refine SR 1 [2,4,6,7,8,12,13,14,95,96,110,111,112,113] Z ?_;refine G.cd (fun aF=>?_) fun aF=>?_
  ·have aq:q<2:=by
    have:=OD aF;omega
   refine SX fun R c=>?_;refine Ta aW.m_ U10 om_ (by rw [Pi,Er aq];rfl:(([1, -1]:List Rat).map aP)[q]?=some (aP (nF q))) fl_ (fun ck bE=>?_);refine SU bE U8 ?_;refine C6 1 [2,4,6,7,8,12,13,14,16,95,96,110,111,112] c Z ?_;clear c R;refine Tk [(2,3)] Z (fun R c=>?_);refine SV U6 ?_;refine S1 ac U9 ?_;refine D.call (lL _ (n+a) om_) Z (.inr dc_) U6 (Pk _) fl_ (fun cl _ cm _ bF=>?_);obtain ⟨bz,rfl,rfl⟩:=bF;rw [EG];have aX:(Value.string ⟨#[45,49]⟩)=tq (-1):=by show af [45,49]=af (qtx (-1));rw [yh]
   refine C6 1 [2,4,6,7,8,12,13,14,16,17,95,96,110,111,112] c Z ?_;clear c R;refine G.cut (fun fr K z F=>(True)/\fr=[(2,[],.pointer (some ⟨v,0,none⟩)),(4,[],.pointer (some ⟨y,0,none⟩)),(6,[],.slice Ae es.length ce),(7,[],.int .i64 n),(8,[],.int .i64 (bp B:Nat)),(12,[],.int .i64 k),(13,[],.int .i64 (k / es.length:Nat)),(14,[],.pointer (some ⟨aU,0,none⟩)),(17,[],.slice (some ⟨bz,0,none⟩) (n+a) (n+a)),(95,[],.int .i64 a),(96,[],.int .i64 k),(110,[],.slice (some ⟨aV,0,none⟩) 2 2),(111,[],.int .i64 2),(112,[],.int .i64 q)]/\z=[.arr (.slice (some ⟨bz,0,none⟩) (n+a) (n+a)) 32 1 (n+a) ((rgF (n+a) n (bp B) es.length k (edg es k) (nF q)).map tq),.arr (sR7 s n1 t) 140 2 (rows.length+2*k+q) (ay us (rows.map (bR a)++(rgL (n+a) n (bp B) es k++(rgK (n+a) n (bp B) es k).take q))).flatten,.arr (sF7 e o p) 32 1 (n+a) ((kb n a).map aP).flatten,.obj y (.cells ⟨[.int .i64 (n+a:Nat),.slice s n1 t,.slice e o p]⟩ 74 (0,0)),.obj v (.cells ⟨[.int .i64 0,.slice none 0 0,.slice none 0 0]⟩ 74 (0,0))]) ?_ (fun fr cn co F cp H=>?_)
   ·refine TG (.cut [0,1,2,3,4,5,6,7,8,9,10,11,14,15,16,17,18,19,20,21] (.alt 12 (.fin [13,22,23,24,25,26]) (.alt 22 (.fin [12,13,23,24,25,26]) .stop))) [(20,1)] Z Z kr_ (fun R d c A=>?_);refine SZ 3 Z ?_;refine S2 (((k / es.length*bp B:Nat):Int)) (PL _ _) U6 ?_;refine Ti (0) U9 ah U2 ?_;refine SU (bkT aE 1) U8 ?_;refine Ts (((k / es.length*bp B+(edg es k).1:Nat):Int)) U4 om_ om_ om_ U2 ?_;refine SZ 3 Z ?_;refine S2 (((k / es.length*bp B:Nat):Int)) (PL _ _) U6 ?_;refine Ti (1) U9 ah U2 ?_;refine SZ 3 Z ?_;refine Ts (((n+k:Nat):Int)) U4 om_ om_ om_ U2 ?_;refine SZ 2 Z ?_;refine Tj (fun _=>(eA _ (nF q) (Py (bx (vI q) dc_) dc_))) U9 ?_;refine Tm ((k / es.length*bp B+(edg es k).1)) U10 (fun _=>⟨by omega,by omega,(Ql _).symm⟩) U2 ?_;refine Tw A Z ⟨?_, ?_,trivial⟩
    ·refine SU (bkT aE 1) U8 ?_;refine Ts (((k / es.length*bp B+(edg es k).2:Nat):Int)) U4 om_ om_ om_ U2 ?_;refine Tr (j:=0) U11 ap ?_;rw [dW ap];refine Tm ((k / es.length*bp B+(edg es k).2)) U10 (fun _=>⟨by omega,by omega,(Ql _).symm⟩) U2 ?_;refine Tr (j:=0) U11 ap ?_;rw [dW ap];refine Tm ((n+k)) U10 (fun _=>⟨by omega,by omega,(Ql _).symm⟩) U2 ?_;refine Tr (j:=0) U11 ap ?_;refine SY [2,4,6,7,8,12,13,14,17,95,96,110,111,112] c Z ?_;clear c d A R;rw [aX,dW ap];exact S9 0 mup (hn_ [2,4,6,7,8,12,13,14,17,95,96,110,111,112] Z) ⟨trivial,Z,Z⟩
    refine Tr (j:=0) U11 ap ?_;refine SU (bkT aE 1) U8 ?_;refine Ts (((k / es.length*bp B+(edg es k).2:Nat):Int)) U4 om_ om_ om_ U2 ?_;rw [dW ap];refine Tm ((k / es.length*bp B+(edg es k).2)) U10 (fun _=>⟨by omega,by omega,(Ql _).symm⟩) U2 ?_;refine Tr (j:=0) U11 ap ?_;rw [dW ap];refine Tm ((n+k)) U10 (fun _=>⟨by omega,by omega,(Ql _).symm⟩) U2 ?_;refine Tr (j:=0) U11 ap ?_;refine SY [2,4,6,7,8,12,13,14,17,95,96,110,111,112] c Z ?_;clear c d A R;rw [aX,dW ap];exact S9 0 mup (hn_ [2,4,6,7,8,12,13,14,17,95,96,110,111,112] Z) ⟨trivial,Z,Z⟩
   obtain ⟨_,rfl,rfl⟩:=H;rw [<- oy];refine G.freezeArr 0 ((rgF (n+a) n (bp B) es.length k (edg es k) (nF q)).map aP) U2 bH (by rw [al,tr]) (fun _ _ bG=>?_);refine SS 1 Z fun R c=>?_;refine S1 ac U9 ?_;refine SV U6 ?_;refine Td [.slice (some ⟨bz,0,none⟩) (n+a) (n+a),af [48]] U8 ?_;refine Th [[.slice (some ⟨bz,0,none⟩) (n+a) (n+a),af [48]]] U12 (fun cq _ _ bI=>?_);refine Tq (j:=0) U11 bI.m_ Z aw (by simp only [aY];omega) fl_ (fun aG aH aI=>?_);refine SV U6 ?_;refine S5 (j:=2) U12 ?_;refine SY [2,4,6,7,8,12,13,14,95,96,110,111,112] c Z ?_;clear c R;refine SX fun R c=>?_;refine S2 _ Z U6 ?_;refine C6 1 [2,4,6,7,8,12,13,14,95,96,110,111,112] c Z ?_;clear c R;have aZ:rows.map (bR a)++(rgL (n+a) n (bp B) es k++(rgK (n+a) n (bp B) es k).take (q+1))=(rows.map (bR a)++(rgL (n+a) n (bp B) es k++(rgK (n+a) n (bp B) es k).take q))++[⟨rgF (n+a) n (bp B) es.length k (edg es k) (nF q),0⟩]:=by rw [Av aq];simp only [PR]
   have bJ:(ay us (rows.map (bR a)++(rgL (n+a) n (bp B) es k++(rgK (n+a) n (bp B) es k).take q))).flatten++[[Value.slice (some ⟨bz,0,none⟩) (n+a) (n+a),af [48]]].flatten=(ay (us++[.slice (some ⟨bz,0,none⟩) (n+a) (n+a)]) (rows.map (bR a)++(rgL (n+a) n (bp B) es k++(rgK (n+a) n (bp B) es k).take (q+1)))).flatten:=by
    rw [aZ,bY ab.1,PH,Kf]
   refine G.perm (L':=[.arr (sR7 aG aH aI) 140 2 (rows.length+2*k+(q+1)) (ay (us++[.slice (some ⟨bz,0,none⟩) (n+a) (n+a)]) (rows.map (bR a)++(rgL (n+a) n (bp B) es k++(rgK (n+a) n (bp B) es k).take (q+1)))).flatten,.arr (sF7 e o p) 32 1 (n+a) ((kb n a).map aP).flatten,.obj y (.cells ⟨[.int .i64 (n+a:Nat),.slice aG aH aI,.slice e o p]⟩ 74 (0,0)),.obj v (.cells ⟨[.int .i64 0,.slice none 0 0,.slice none 0 0]⟩ 74 (0,0))]) (by rw [<- bJ];(exact pkL [1,1,0,0] Z)) ?_;refine S6 (m':=2-(q+1)) om_ mup (hn_ [2,4,6,7,8,12,13,14,95,96,110,111,112] Z) ⟨q+1,aG,aH,aI,us++[.slice (some ⟨bz,0,none⟩) (n+a) (n+a)],⟨by omega,by rw [aZ];exact eM (RowsOk.m_ ab) bG.m_⟩,Z,Z,Z⟩
  have aq:q=2:=by
   have:=Pj aF;omega
  subst aq;refine SX fun R c=>?_;refine S2 _ Z U6 ?_;refine C6 1 [2,4,6,7,8,95,96] c Z ?_;clear c R;rw [show (rgK (n+a) n (bp B) es k).take 2=rgK (n+a) n (bp B) es k from rfl,<- tk] at ab ⊢;refine S6 (m':=a-(k+1)) om_ mup (hn_ [2,4,6,7,8,95,96] Z) ⟨k+1,s,n1,t,us,⟨by omega,RowsOk.mono ab mup⟩,Z,Z,Z⟩
 obtain rfl:a=k:=by
  have:=Pj aD;omega
 refine SX fun R c=>?_;refine S1 ac U9 ?_;refine S5 (j:=3) U12 ?_;refine C6 1 [2,3] c Z ?_;clear c R;refine G.freezeArr 1 (ay us (rows.map (bR a)++rgL (n+a) n (bp B) es a)) U2 (bP _ _) (by rw [bA aC.1,Po,al,tm]) (fun Cf ao J=>?_);refine G.freezeArr 1 ((kb n a).map aP) U2 bH (by rw [al,nK]) (fun Cg cs bK=>?_);refine S7 (UF ag Z Z Z Z Z ?_);refine ⟨Z,es,_,Z,au,_,_,_,_,_,_,by rw [ad];rfl, ?_, ?_⟩
 ·rw [ad];exact nJ (RowsOk.m_ aC) J.m_
 rw [ad];exact bK
theorem Cj {p:Lp.Sys}{c:Nat->Rat}{D:Mem}(h:SolO p c D u):∃ (kd:Int)(val:Str)(a:Option Addr)(n1 b:Nat)(A2:Option Addr)(n2 c2:Nat)(d:Option Addr)(e f:Nat),u=.agg ⟨[.int .i64 kd,af val,.slice a n1 b,.slice A2 n2 c2,.slice d e f]⟩ /\
  ((kd=1/\∃ v pt du,val=qtx v/\Lp.OptR p c 20 v pt du/\n1=p.n/\Sl D 1 (.slice a n1 b) (((List.range p.n).map pt).map aP)/\Sl D 1 (.slice A2 n2 c2) (((List.range p.m).map du).map aP))∨(kd≠1/\(¬ p.Hold∨∃ pt ra,Lp.UnbR p c 20 pt ra))):=by
 cases h with
 | opt v pt du g i j h1 h2 =>
  obtain ⟨a,b,rfl,_⟩:=id h1;obtain ⟨A2,c2,rfl,_⟩:=id h2;exact ⟨_,_,_,_,_,_,_,_,_,_,_,Z,.inl ⟨Z,v,pt,du,Z,j,by simp,h1,h2⟩⟩
 | inf du i k h1 =>
  obtain ⟨A2,c2,rfl,_⟩:=id h1;exact ⟨_,_,_,_,_,_,_,_,_,_,_,Z,.inr ⟨by decide,.inl k.not⟩⟩
 | unb pt ra g o l h1 h2 =>
  obtain ⟨a,b,rfl,_⟩:=id h1;obtain ⟨A2,c2,rfl,_⟩:=id h2;exact ⟨_,_,_,_,_,_,_,_,_,_,_,Z,.inr ⟨by decide,.inr ⟨pt,ra,l⟩⟩⟩
abbrev M1 (B:Bk)(RO:Nat->List RowQ)(es:List (Nat × Nat)):Lp.Sys:=ck (bs B*bp B+bs B*es.length) (eG (uR (dp B RO) (bs B*bp B) (bp B) es (bs B*es.length)))
abbrev objR (B:Bk)(es:List (Nat × Nat))(j:Nat):Rat:=(kb (bs B*bp B) (bs B*es.length)).getD j 0
inductive FlatO (B:Bk) (RO:Nat->List RowQ) (es:List (Nat × Nat)) (D:Mem):Value->Prop where
 | opt (v:Rat) (pt du:Nat->Rat) (fv dv:Value):Lp.OptR (M1 B RO es) (objR B es) 20 v pt du->FieldsIn D fv (Nq (bs B) (bp B) pt)->Sl D 1 dv (((List.range (M1 B RO es).m).map du).map aP)->FlatO B RO es D (.tuple #[.agg ⟨[fv,af (qtx v),dv]⟩,.int .i64 0])
 | inf:¬ (M1 B RO es).Hold->FlatO B RO es D (.tuple #[.agg ⟨[.slice none 0 0,af [],.slice none 0 0]⟩,.int .i64 22])
theorem Calm.rl {c:List Rat}{a:Nat->List RowQ}(h:Calm B c a):∀ r∈dp B a,r.f.length=bs B*bp B:=fun r hr=>(h.rowsQ (dm B.obs.length)).l (r.f,r.b) (Pn.2 ⟨r,hr,rfl⟩)
theorem Ka (h:∀ r∈rows,r.f.length=s*p):∀ r∈uR rows (s*p) p es (s*es.length),r.f.length=s*p+s*es.length:=by
 intro r hr;rcases Px.1 hr with hr | hr
 ·obtain ⟨x,a,rfl⟩:=Pn.1 hr;show (x.f++List.replicate _ 0).length=_;rw [Po,PB,h x a]
 obtain ⟨k,_,hr⟩:=List.mem_flatMap.1 hr;rcases Ps.1 hr with rfl | hr
 ·exact tr _ _ _ _ _ _ _
 rw [PE.1 hr];exact tr _ _ _ _ _ _ _
theorem ta (h:∀ r∈rows,RowI r):∀ r∈eG rows,(∀ x∈r.1,QB 22 x)/\QB 22 r.2 :=
 nH (P:=fun r=>(∀ x∈r.1,QB 22 x)/\QB 22 r.2) fun r hr=>⟨fun x a=>((h r hr).q.1 x a).le dc_,(h r hr).q.2.le dc_⟩
theorem ND (h:∀ r∈rows,RowI r)(a:∀ r∈rows,r.f.length=n)(b:rows.length<=150):RowsQ n (eG rows) :=
 ⟨nH (P:=fun r=>r.1.length=n) a,fun r hr=>⟨fun x c=>((ta h r hr).1 x c).le dc_,(ta h r hr).2.le dc_⟩,by rw [eG,al];exact b⟩
theorem Lo (h b:Nat):∀ x∈kb h b,QB 22 x:=fun x a=>by
 rcases Px.1 a with a | a
 ·rw [(List.mem_replicate.1 a).2];exact QB_zero.le dc_
 rw [(List.mem_replicate.1 a).2];decide +kernel
theorem CC {a:Nat->Rat}(h:n<=m):(((List.range m).map a).map qtx).take n=((List.range n).map a).map qtx:=by
 rw [<- Rw,<- Rw,List.take_range,Qn h]
theorem I6 (C:Mem)(e:Tabs C)(f:Value)(B:Bk)(y:List Rat)(b:Nat->List RowQ)(c:BookIn C f B)(h:Calm B y b)(z:bp B<=6)(A:bs B<=2)(V:∀ es,EdgL B.tris es->bs B*bp B+bs B*es.length<=12) :
  Pur cx.P 42 [f] C fun u D=>∃ es,EdgL B.tris es/\FlatO B b es D u:=by
 have E:=c;have F:=h.rich.good;have H:=h.rich.bookz e c;have W:=h.cnt (dm B.obs.length);have az:=h.n12;have X:∀ D:Mem,C.le D->Gives cx.P 92 [f] D (.tuple #[.int .i64 (bs B*bp B:Nat),.int .i64 0]):=fun D Y=>by
  have h:=yO D f B 0 (H.mono Y) om_;rw [aL rfl] at h;exact h
 obtain ⟨v1,v2,tv,cv,ov,rfl,h1,h2,h3,h4,h5⟩:=id c.ex;have aA:maxLen<=9223372036854775807:=by simp [maxLen]
 refine S4 func42 59 U3 fun w0=>SX fun R a=>Tf U6 fun b1=>Te U5 fun b2=>C6 1 [1,2] a Z<|G.freeze 1 Z fun _ _ o=>SX fun R a=>SU (bkT o 5) U8<|Tv (Ao _ e.m_ _ B y b E.m_ h z A) U7 (fun aB _ _ aa=>?_);obtain ⟨es,x,rfl,d,A1,n1,c1,A2,n2,c2,rfl,ab,ac⟩:=aa;have ad:=V es d;have ae:=Ka (es:=es) h.rl;have I:=NI (s:=bs B) (p:=bp B) (es:=es) (h.rowI (dm B.obs.length));obtain ⟨ah,_⟩:=d.le F.ok.ins z;have aC:bs B*es.length<=30:=Qz A ah;have ai:(uR (dp B b) (bs B*bp B) (bp B) es (bs B*es.length)).length<=150:=by
  rw [Aq];have:(dp B b).length<=120:=W;omega
 have aj:=d.ok (n:=bp B) F.ok.ins (bs B);refine SZ 3 Z<|Te U5 fun b4=>S5 (j:=0) U12<|C6 1 [1,2,4,5] a Z<|SR 2 [1,2,4,5,15] Z<|G.cd (fun J=>?_) fun J=>?_
 ·exact absurd J dc_
 refine G.freeze 0 Z fun _ _ ak=>SX fun R a=>SU (bkT ak 3) U8<|To (E0 _ e.m_ (bs B*bp B+bs B*es.length) _ _ (eG (uR (dp B b) (bs B*bp B) (bp B) es (bs B*es.length))) (kb (bs B*bp B) (bs B*es.length)) ab.m_ ac.m_ (ND I ae ai) (Lo _ _) (ta I) om_ (nK _ _) (Lm ad (h.rowI (dm B.obs.length)))) U7 fl_ (fun aD _ _ an=>?_);obtain ⟨rr,rfl,ao⟩:=an;obtain ⟨kd,val,Ap,K,g,L,nd,cd,Ar,nr,cr,rfl,M⟩:=Cj ao;refine SZ 3 Z<|Te U5 fun b6=>S5 (j:=0) U12<|C6 1 [1,2,5,6] a Z<|G.freeze 0 Z fun _ _ i=>SR 2 [1,2,5,6,24] Z<|G.cd (fun N=>?_) fun N=>?_
 ·exact absurd N dc_
 refine SS 1 Z fun R a=>SU (bkT i 1) U8<|C6 1 [1,2,6,29] a Z<|G.cd (fun q=>?_) fun q=>?_
 ·have r:kd≠1:=by simpa using q
  have aq:¬ (M1 B b es).Hold:=by
   rcases M with ⟨h,_⟩ | ⟨_,h | ⟨pt,ra,hu⟩⟩
   ·exact absurd h r
   ·exact h
   exact (Ll aj h.rl hu).elim
  refine SX fun R a=>Td ([.slice none 0 0,af [],.slice none 0 0]) U8<|S5 (j:=0) U12<|C6 1 [2,3] a Z<|S7 (UF ag Z Z Z Z Z ?_);exact ⟨Z,es,d,.inf aq⟩
 have r:kd=1:=by simpa using q
 obtain ⟨v,pt,du,rfl,t,rfl,w,ar⟩:∃ v pt du,val=qtx v/\Lp.OptR (M1 B b es) (objR B es) 20 v pt du/\K=bs B*bp B+bs B*es.length/\Sl _ 1 (.slice Ap K g) (((List.range (bs B*bp B+bs B*es.length)).map pt).map aP)/\Sl _ 1 (.slice L nd cd) (((List.range (M1 B b es).m).map du).map aP):=by
  rcases M with ⟨_,h⟩ | ⟨h,_⟩
  ·exact h
  exact absurd r h
 have O:=wM (s:=bs B) (p:=bp B) t.qp;have au:bs B*bp B<=bs B*bp B+bs B*es.length:=Nat.le_add_right _ _;rw [Gq] at w;have aE:bs B*bp B+bs B*es.length<=g:=by
  obtain ⟨A',c',Q,av,_⟩:=id w;simp only [Value.slice.injEq] at Q;obtain ⟨_,aF,aG⟩:=Q;simp only [al,Qr] at av;omega
 have S:=w.sub (l:=0) (h:=bs B*bp B) (m:=g) (Pm _) am om_ (Pf _);rw [Qv,<- Rw,CC au] at S;refine SX fun R a=>SU (bkT o 5) U8<|S8 (X _ mup) U7<|C6 5 [1,2,5,6,7] a Z<|SR 2 [1,2,5,6,7,37] Z<|G.cd (fun T=>?_) fun T=>?_
 ·exact absurd T dc_
 refine Tg [0,1,2,3,4,5,6,7,8,9,10] [] Z kr_ fun R c a=>SU (bkT o 5) U8<|SV U6<|SU (bkT i 1) U8<|SV U6<|TO 0 (bs B*bp B) g U12 (fun _=>⟨.inl ⟨Z,Z⟩,.inr ⟨_,Z⟩,.inl ⟨Z,Z⟩,by omega,by omega,Pf _⟩) U2<|To (wQ _ e.m_ _ _ B (((List.range (bs B*bp B)).map pt).map qtx) E.m_ H.m_ om_ S.m_ (wa t.qp) ap) U7 fl_ (fun aH _ _ aw=>?_);obtain ⟨fv,rfl,k⟩:=aw;rw [O,aL rfl] at k;rw [O];obtain ⟨ax,aI,aJ,ay⟩:=id k;obtain ⟨Af,cf,rfl,_⟩:=id ay;rw [al] at k ⊢;refine SZ 5 Z<|SY [2,5,6,8] a Z ?_;clear a c R;refine SR 2 [2,5,6,8,50] Z<|G.cd (fun U=>?_) fun U=>?_
 ·exact absurd U dc_
 refine SS 2 Z fun R a=>SU (bkT i 1) U8<|SV U6<|SU (bkT i 1) U8<|Td [.slice Af ax.length cf,af (qtx v),.slice L nd cd] U8<|S5 (j:=0) U12<|C6 1 [2,3] a Z<|S7 (UF ag Z Z Z Z Z ?_);exact ⟨Z,es,d,.opt v pt du _ _ t k.m_ ar.m_⟩
def RowsIn6 (D:Mem)(v:Value)(rows:List RowQ):Prop:=∃ vs,RowsOk D vs rows/\Sl D 2 v (ay vs rows)
theorem RowsIn6.mono {C D:Mem}{v:Value}{a:List RowQ}(h:RowsIn6 C v a)(b:C.le D):RowsIn6 D v a:=by
 obtain ⟨vs,h1,h2⟩:=h;exact ⟨vs,RowsOk.mono h1 b,h2.mono b⟩
theorem RowsIn6.m_ {D:Mem}{v:Value}(h:RowsIn6 C v rows)(a:C.le D:=by exact mup):RowsIn6 D v rows:=RowsIn6.mono h a
abbrev sL6 (A:Option Addr)(n c:Nat):Value:=.slice A n c
theorem FJ (C:Mem)(M:Tabs C)(d:Value)(B:Bk)(A:List Rat)(c:Nat->List RowQ)(e:BookIn C d B)(h:Calm B A c) :
  Pur cx.P 13 [d] C fun u D=>∃ v,u=.tuple #[v,.bool true]/\RowsIn6 D v (dp B c):=by
 have ai:=e;have N:=h.cnt (dm B.obs.length);have aj:=h.ob;obtain ⟨l,g⟩:∃ l,bQ (bI B) c (List.range B.obs.length)=l:=⟨_,rfl⟩;have F:dp B c=l.map SrcQ.r:=by rw [<- EC,g]
 have am:l.length<=120:=by
  have:=N;rw [show nv B c (List.range B.obs.length)=dp B c from rfl,F,al] at this;exact this
 have O:∀ D:Mem,C.le D->Pur cx.P 54 [d] D fun u E=>∃ v,u=.tuple #[v,.int .i64 0]/\BO E v l:=fun D H=>by
  have:=KK D (M.mono H) d B A c (e.mono H) h.rich om_ (by rw [g];omega);rw [g] at this;exact this
 rw [F];obtain ⟨v1,v2,tv,cv,ov,rfl,h1,h2,h3,h4,h5⟩:=id e.ex;have an:maxLen<=9223372036854775807:=by simp [maxLen]
 refine S4 func13 29 U3 fun w0=>SX fun R a=>Tf U6 fun b1=>C6 2 [1] a Z<|G.freeze 0 Z fun _ _ Q=>SX fun R a=>SU (bkT Q 5) U8<|Tv (O _ mup) U7 (fun ao _ _ S=>?_);obtain ⟨wv,rfl,T⟩:=S;obtain ⟨vs,k,n⟩:=T;have o:=jr k;obtain ⟨U,V,rfl,W,ap,_⟩:=id n;have X:(bT vs l).length=l.length:=by unfold bT;simp [o]
 rw [X] at n W ⊢;refine C6 5 [4,5] a Z<|SR 1 [4,5,6] Z<|SR 3 [5,6,14,15,16] Z<|G.nilArr 140 2<|G.loop (fun fr C' I Y=>∃ (i:Nat)(p:Option Addr)(n1 q:Nat),(i<=l.length)/\fr=[(5,[],.int .i64 0),(6,[],.slice p n1 q),(14,[],.slice U l.length V),(15,[],.int .i64 l.length),(16,[],.int .i64 i)]/\I=[.arr (sL6 p n1 q) 140 2 i (prC (vs.take i) (l.take i)).flatten]/\Y=l.length-i) (hn_ [5,6,14,15,16] Z) ⟨0,none,0,0,Pm _,Z,Z,Z⟩ (fun fr aq ar m _ hI=>?_);obtain ⟨i,p,n1,q,hi,rfl,rfl,rfl⟩:=hI;refine SR 1 [5,6,14,15,16,17] Z<|G.cd (fun t=>?_) fun t=>?_
 ·have x:i<l.length:=by
   have:=OD t;omega
  obtain ⟨s,y⟩:∃ s,l[i]?=some s:=⟨l[i],ak x⟩;obtain ⟨w,z⟩:∃ w,vs[i]?=some w:=⟨vs[i]'om_,ak om_⟩;have aa:=k.2 i w s.r z (by rw [Pi,y];rfl);obtain ⟨Ax,ab,rfl,_⟩:=id aa;have ac:=AM o z y;refine SX fun R a=>Ta n.m_ U10 om_ (J5 z y) fl_ fun au ad=>SU ad U8<|Te U5 fun b8=>S5 (j:=0) U12<|SY [5,6,8,14,15,16] a Z<|G.freeze 0 Z fun _ _ ae=>SS 2 Z fun R a=>SU (bkT ae 2) U8<|Th [[.slice Ax (s.r.f.map eD).length ab,af (qtx s.r.b)]] U12 fun av _ _ ag=>Tq (j:=0) U11 ag.m_ Z aw (by show (i+1)*40<=_;omega) fl_ fun J K L=>C6 1 [5,6,14,15,16] a Z<|SX fun R a=>S2 _ Z U6<|C6 1 [5,6,14,15,16] a Z<|Tc (L':=[.arr (sL6 J K L) 140 2 (i+1) (prC (vs.take (i+1)) (l.take (i+1))).flatten]) (by rw [ac,PH];rfl)<|S6 (m':=l.length-(i+1)) om_ mup (hn_ [5,6,14,15,16] Z) ⟨i+1,J,K,L,om_,Z,Z,Z⟩
 have x:i=l.length:=by
  have:=Pj t;omega
 subst x;refine SR 5 [2,3] Z ?_;rw [PZ (show vs.length<=l.length by omega),Pv];refine G.freezeArr 0 (prC vs l) U2 (LI _ _) (by rw [prC,bA (by simp [o]),al]) fun Cf ax ah=>S7 (G.dropAll (Tp U3 ?_));exact ⟨Z,_,Z,vs,RowsOk.mono k mup,ah⟩
theorem wR (C:Mem)(v w:Value)(l:List Str)(a:Sl C 1 v (l.map mL))(b:Sl C 1 w (l.map mL))(x:l.length<=1000000):Gives cx.P 25 [v,w] C (.bool true):=by
 obtain ⟨h,c0,rfl,_⟩:=id a;obtain ⟨j,k,rfl,_⟩:=id b;simp only [al] at a b ⊢;refine S4 func25 26 U3 fun w0=>SR 1 [0,1] Z<|SR 5 [0,1,10] Z<|G.cd (fun d=>?_) fun d=>?_
 ·exact absurd d am
 refine SR 3 [0,1,12,13] Z<|G.loop (fun fr y n o=>∃ (i:Nat),(i<=l.length)/\fr=[(0,[],.slice h l.length c0),(1,[],.slice j l.length k),(12,[],.int .i64 l.length),(13,[],.int .i64 i)]/\n=[]/\o=l.length-i) (hn_ [0,1,12,13] Z) ⟨0,Pm _,Z,Z,Z⟩ (fun fr z A m _ p=>?_);obtain ⟨i,B,rfl,rfl,rfl⟩:=p;refine SR 1 [0,1,12,13,14] Z<|G.cd (fun e=>?_) fun e=>?_
 ·have q:i<l.length:=by
   have:=OD e;omega
  obtain ⟨s,r⟩:∃ s,l[i]?=some s:=⟨l[i],ak q⟩;have f:(l.map mL)[i]?=some (mL s):=by rw [Pi,r];rfl
  refine SR 2 [0,1,5,12,13] Z<|Tg [0,1,2,3,4,5,6,7,8] [] Z kr_ fun R D c=>SZ 2 Z<|Ta a.m_ U10 om_ f fl_ fun E t=>SU t U8<|SZ 2 Z<|Ta b.m_ U10 om_ f fl_ fun F u=>SU u U8<|C6 1 [0,1,12,13,24] c Z<|G.cd (fun g=>?_) fun g=>?_
  ·exact absurd g am
  refine SX fun R c=>S2 _ Z U6<|C6 1 [0,1,12,13] c Z<|S6 (m':=l.length-(i+1)) om_ mup (hn_ [0,1,12,13] Z) ⟨i+1,om_,Z,Z,Z⟩
 exact SR 1 [4] Z<|S3 U2<|⟨Z,Z⟩
theorem yf (C:Mem)(a b:Value)(r:List Str × Str)(d:Sl C 1 a (r.1.map mL))(e:Sl C 1 b (r.1.map mL))(h:r.1.length<=1000000):Gives cx.P 80 [.agg ⟨[a,af r.2]⟩,.agg ⟨[b,af r.2]⟩] C (.bool true):=by
 obtain ⟨i,c0,rfl,_⟩:=id d;obtain ⟨j,k,rfl,_⟩:=id e;exact S4 func80 17 U3 fun w0=>SX fun R c=>Tf U6 fun l=>Tf U6 fun m=>C6 1 [2,3] c Z<|G.freeze 1 Z fun _ _ f=>G.freeze 0 Z fun _ _ g=>SS 1 Z fun R c=>SU (bkT f 1) U8<|SV U6<|SU (bkT g 1) U8<|SZ 3 Z<|Tn U6 (fun _=>PtrTo.blockT (Mem.get f mup) _ 1) U3<|SV U6<|Tn U6 (fun _=>PtrTo.blockT (Mem.get g mup) _ 1) U3<|Tu (fun _=>(wR _ _ _ r.1 d.m_ e.m_ h)) U9<|Tl U8<|C6 1 [4] c Z<|S3 U2<|⟨by simp,Z⟩
theorem Gp (C:Mem)(v w:Value)(c:List (List Str × Str))(s:RowsT C v c)(t:RowsT C w c)(O:c.length<=1000)(u:∀ r∈c,r.1.length<=1000) :
  Gives cx.P 79 [v,w,.func (.func 80) #[] #[]] C (.bool true):=by
 obtain ⟨vs,x,y,f⟩:=s;obtain ⟨ws,z,A,g⟩:=t;obtain ⟨B,c0,rfl,_⟩:=id f;obtain ⟨D,E,rfl,_⟩:=id g;simp only [jl x,jl z] at f g ⊢;refine S4 func79 32 U3 fun w0=>SR 1 [0,1,2] Z<|SR 5 [0,1,2,14] Z<|G.cd (fun h=>?_) fun h=>?_
 ·exact absurd h am
 refine SR 3 [1,2,15,16,17] Z<|G.loop (fun fr Q F H=>∃ (i:Nat),(i<=c.length)/\fr=[(1,[],.slice D c.length E),(2,[],.func (.func 80) #[] #[]),(15,[],.slice B c.length c0),(16,[],.int .i64 c.length),(17,[],.int .i64 i)]/\F=[]/\H=c.length-i) (hn_ [1,2,15,16,17] Z) ⟨0,Pm _,Z,Z,Z⟩ (fun fr S T m _ I=>?_);obtain ⟨i,U,rfl,rfl,rfl⟩:=I;refine SR 1 [1,2,15,16,17,18] Z<|G.cd (fun k=>?_) fun k=>?_
 ·have J:i<c.length:=by
   have:=OD k;omega
  obtain ⟨r,e⟩:∃ r,c[i]?=some r:=⟨c[i],ak J⟩;obtain ⟨a,l⟩:∃ a,vs[i]?=some a:=⟨vs[i]'om_,ak om_⟩;obtain ⟨b,n⟩:∃ b,ws[i]?=some b:=⟨ws[i]'om_,ak om_⟩;have o:=y i a r l e;have p:=A i b r n e;obtain ⟨A2,c2,rfl,_⟩:=id o;obtain ⟨V,W,rfl,_⟩:=id p;refine SS 1 Z fun R d=>Ta f.m_ U10 om_ (sL l e) fl_ fun X K=>SU K U8<|Te U5 fun Y=>SV U6<|S5 (j:=0) U12<|SY [1,2,7,8,15,16,17] d Z<|SS 2 Z fun R d=>Ta g.m_ U10 om_ (sL n e) fl_ fun aa L=>SU L U8<|Te U5 fun b9=>S5 (j:=0) U12<|SY [1,2,8,9,15,16,17] d Z<|G.freeze 1 Z fun _ _ M=>G.freeze 0 Z fun _ _ N=>SS 1 Z fun R d=>SU (bkT M 2) U8<|SU (bkT N 2) U8<|Tb (yf _ _ _ r o.m_ p.m_ (Py (u r (Pe e)) dc_)) U7 fl_<|C6 1 [1,2,15,16,17,30] d Z<|G.cd (fun q=>?_) fun q=>?_
  ·exact absurd q dc_
  refine SX fun R d=>S2 _ Z U6<|C6 1 [1,2,15,16,17] d Z<|S6 (m':=c.length-(i+1)) om_ mup (hn_ [1,2,15,16,17] Z) ⟨i+1,om_,Z,Z,Z⟩
 exact SR 1 [6] Z<|S3 U2<|⟨Z,Z⟩
theorem vK (C:Mem)(v w:Value)(a:List (List Str × Str))(b:RowsT C v a)(c:RowsT C w a)(d:a.length<=1000)(e:∀ r∈a,r.1.length<=1000):Gives cx.P 24 [v,w] C (.bool true):=by
 exact S4 func24 8 U3 fun w0=>SR 1 [0,1] Z<|SS 2 Z fun R f=>S8 (Gp _ _ _ a b.m_ c.m_ d e) U7<|C6 1 [4] f Z<|S3 U2<|⟨Z,Z⟩
theorem GQ (C:Mem)(b:Value)(B:Bk)(d:BookIn C b B)(g:bs B+1=B.col.length)(h:bs B*bp B<=1000):Gives cx.P 17 [b] C (.int .i64 (bs B*bp B:Nat)):=by
 obtain ⟨i,j,k,l,m,rfl,h1,h2,h3,h4,h5⟩:=id d.ex;obtain ⟨n,o,rfl,e,_⟩:=id h1;obtain ⟨p,q,rfl,f,_⟩:=id h4;have r:maxLen<=9223372036854775807:=by simp [maxLen]
 simp only [al] at e f ⊢;exact S4 func17 12 U3 fun w0=>SX fun R a=>Tf U6 fun s=>C6 1 [1] a Z<|G.freeze 0 Z fun _ _ c=>SS 1 Z fun R a=>SU (bkT c 1) U8<|SV U6<|Ts (((bs B:Nat):Int)) U4 om_ om_ om_ U2<|SZ 2 Z<|SU (bkT c 1) U8<|SV U6<|S2 (((bs B*bp B:Nat):Int)) (PL _ _) U6<|C6 1 [2] a Z<|S3 U2<|⟨Z,Z⟩
theorem mG (C:Mem)(n:Nat)(h:n<=100000):Jog.Fn cx.P 16 [.int .i64 n] C [] fun u _f a=>∃ b,u=.slice (some ⟨b,0,none⟩) n n/\a=[.arr u 32 1 n (List.replicate n (af [48]))]:=by
 refine S4 func16 6 U3 fun w0=>SR 1 [0] Z<|Tk [(2,3)] Z fun R c=>Th [[af [48]]] U12 fun g _ _ d=>SV U6<|D.call (jy _ _ n [48] d.m_ om_) Z (.inr dc_) U6 (Pk _) fl_ fun i _ j _ e=>C6 1 [2] c Z ?_;obtain ⟨bz,rfl,rfl⟩:=e;refine S7 (Tx Z Z ?_);exact ⟨bz,Z,Z⟩
theorem kE (C:Mem)(n:Nat)(h:n<=100000):Pur cx.P 16 [.int .i64 n] C fun u D=>∃ b,u=.slice (some ⟨b,0,none⟩) n n/\Sl D 1 u ((List.replicate n (0:Rat)).map aP) :=
 UC (mG C n h) fun u a c ⟨b,h1,h2⟩=>.inr ⟨u,32,1,(List.replicate n 0).map aP,by rw [h2,<- gF];simp,bH,fun D _ h=>⟨b,h1,h⟩⟩
theorem Mh (h:k<m):(i*m+k) / m=i/\(i*m+k) % m=k:=by
 rw [P1,Nat.mul_add_div om_,Rp h,Nat.mul_add_mod,RQ h];exact ⟨Z,Z⟩
abbrev sG7 (A:Option Addr)(n c:Nat):Value:=.slice A n c
theorem FK (C:Mem)(hT:Tabs C)(bv lv:Value)(B:Bk)(fs:List Rat)(Y:Nat->List RowQ)(v:BookIn C bv B)(h:Calm B fs Y)(a0:bp B<=6)(a1:bs B<=2)(aO:RowsIn6 C lv (dp B Y)) :
  Pur cx.P 23 [bv,lv] C fun u D=>∃ es,EdgL B.tris es/\Om D (bs B*bp B+bs B*es.length) (uR (dp B Y) (bs B*bp B) (bp B) es (bs B*es.length)) (kb (bs B*bp B) (bs B*es.length)) u:=by
 have a2:=v;have hG:=h.rich.good;have a3:=h.n12;have a4:=h.rich.scol.1;have a5:=h.cnt (dm B.obs.length);have au:=fun (D:Mem)(hD:C.le D)=>GQ D bv B (v.mono hD) a4 om_;obtain ⟨v1,v2,tv,cv,ov,rfl,h1,h2,h3,h4,h5⟩:=id v.ex;have hm:MeshIn C (.agg ⟨[v1,v2]⟩) B.pts B.tris:=⟨v1,v2,rfl,h1,h2⟩;obtain ⟨A1,c1,rfl,a6,_⟩:=id h1;obtain ⟨A4,c4,rfl,a7,_⟩:=id h4;have a8:(B.pts.map fZ).length=bp B:=al _;have a9:(B.col.map uV).length=bs B+1:=by rw [al];omega
 simp only [a8,a9] at h1 a6 h4 a7 hm a2 au ⊢;have bJ:maxLen<=9223372036854775807:=by simp [maxLen]
 obtain ⟨n,hn⟩:∃ n,bs B*bp B=n:=⟨_,rfl⟩;obtain ⟨rows,av⟩:∃ rows,dp B Y=rows:=⟨_,rfl⟩;rw [show nv B Y (List.range B.obs.length)=rows from av] at a5;rw [hn] at au a3 ⊢;rw [av] at aO ⊢;have ba:∀ r∈rows,r.f.length<=12:=fun r hr=>by
  have h1:=h.rl r (by rw [<- av] at hr;exact hr);omega
 obtain ⟨vs,aQ,az⟩:=aO;obtain ⟨Al,cl,rfl,bb,_⟩:=id az;have bc:=aQ.1;rw [bA bc] at az bb ⊢;refine S4 func23 137 U3 fun w0=>?_;refine SX fun R c=>?_;refine Tf U6 (fun b2=>?_);refine Te U5 (fun o=>?_);refine SY [1,2,4] c Z ?_;clear c R;refine G.freeze 1 Z (fun _ _ aa=>?_);refine SS 1 Z fun R c=>?_;refine SU (bkT aa 2) U8 ?_;refine Tv (Bp _ hT.m_ _ B.pts B.tris hm.m_ hG) U7 (fun bK _ _ bd=>?_);obtain ⟨es,ev,rfl,aA,aB⟩:=bd;obtain ⟨N,O,rfl,be,_⟩:=id aB;simp only [al] at aB be ⊢;obtain ⟨bf,bL⟩:=aA.le hG.ok.ins a0;obtain ⟨a,K⟩:∃ a,bs B*es.length=a:=⟨_,rfl⟩;have bM:a<=30:=by rw [<- K];exact Qz a1 bf
 refine C6 5 [1,2,4,5] c Z ?_;clear c R;refine Tg [0,1,2,3,4,5,6,7] [(1,1)] Z kr_ (fun R v c=>?_);refine SU (bkT aa 5) U8 ?_;refine Tu (fun _=>(au _ mup)) U9 ?_;refine SV U6 ?_;refine SU (bkT aa 1) U8 ?_;refine SV U6 ?_;refine Ts (((bs B:Nat):Int)) U4 om_ om_ om_ U2 ?_;refine SZ 2 Z ?_;refine SY [1,2,4,5,7,8] c Z ?_;clear c v R;refine SS 4 Z fun R c=>?_;refine Ts (((a:Nat):Int)) U4 (by rw [<- K,PL]) om_ om_ U2 ?_;refine Ts (((n+a:Nat):Int)) U4 om_ om_ om_ U2 ?_;refine Td [.int .i64 (n+a:Nat),.slice none 0 0,.slice none 0 0] U8 ?_;refine Te U5 (fun p=>?_);refine S5 (j:=0) U12 ?_;refine SY [1,2,4,5,7,8,9] c Z ?_;clear c R;refine SR 3 [2,4,5,7,8,9,37,38,39] Z ?_;refine G.nilArr 140 2 ?_;refine G.loop (fun fr E s F=>∃ (i:Nat)(d:Option Addr)(n0 c0:Nat)(us:List Value),(i<=rows.length/\RowsOk E us ((rows.take i).map (bR a)))/\fr=[(2,[],.pointer (some ⟨b2,0,none⟩)),(4,[],.pointer (some ⟨o,0,none⟩)),(5,[],.slice N es.length O),(7,[],.int .i64 n),(8,[],.int .i64 (bs B:Nat)),(9,[],.pointer (some ⟨p,0,none⟩)),(37,[],.slice Al rows.length cl),(38,[],.int .i64 rows.length),(39,[],.int .i64 i)]/\s=[.arr (sG7 d n0 c0) 140 2 i (ay us ((rows.take i).map (bR a))).flatten,.obj p (.cells ⟨[.int .i64 (n+a:Nat),.slice d n0 c0,.slice none 0 0]⟩ 74 (0,0)),.obj o (.cells ⟨[.int .i64 0,.slice none 0 0,.slice none 0 0]⟩ 74 (0,0))]/\F=rows.length-i) (hn_ [2,4,5,7,8,9,37,38,39] Z) ⟨0,none,0,0,[],⟨Pm _,Z,fun i w r h=>by cases h⟩,Z,Z,Z⟩ (fun fr bN bO m _ H=>?_);obtain ⟨i,d,n0,c0,us,⟨hi,A⟩,rfl,rfl,rfl⟩:=H;refine SR 1 [2,4,5,7,8,9,37,38,39,40] Z ?_;refine G.cd (fun aC=>?_) fun aC=>?_
 ·have ab:i<rows.length:=by
   have:=OD aC;omega
  obtain ⟨r,ad⟩:∃ r,rows[i]?=some r:=⟨rows[i],ak ab⟩;obtain ⟨w,aR⟩:∃ w,vs[i]?=some w:=⟨vs[i]'om_,ak om_⟩;have aD:=aQ.2 i w r aR ad;obtain ⟨Aw,cw,rfl,_⟩:=id aD;have bQ:r.f.length<=12:=ba r (Pe ad);have L:(rows.take (i+1)).map (bR a)=(rows.take i).map (bR a)++[bR a r]:=by rw [PN,ad,PM];rfl
  refine SX fun R c=>?_;refine Ta az.m_ U10 om_ (by unfold ay;rw [List.getElem?_zipWith,aR,ad]:(ay vs rows)[i]?=some [.slice Aw (r.f.map eD).length cw,af (qtx r.b)]) fl_ (fun bS bg=>?_);refine SU bg U8 ?_;refine Te U5 (fun bT=>?_);refine S5 (j:=0) U12 ?_;refine SY [2,4,5,7,8,9,11,37,38,39] c Z ?_;clear c R;refine G.freeze 0 Z (fun _ _ aS=>?_);refine G.cut (fun fr E s F=>∃ (d:Option Addr)(n0 c0:Nat)(ai:List Value),(RowsOk E ai ((rows.take (i+1)).map (bR a)))/\fr=[(2,[],.pointer (some ⟨b2,0,none⟩)),(4,[],.pointer (some ⟨o,0,none⟩)),(5,[],.slice N es.length O),(7,[],.int .i64 n),(8,[],.int .i64 (bs B:Nat)),(9,[],.pointer (some ⟨p,0,none⟩)),(37,[],.slice Al rows.length cl),(38,[],.int .i64 rows.length),(39,[],.int .i64 i)]/\s=[.arr (sG7 d n0 c0) 140 2 (i+1) (ay ai ((rows.take (i+1)).map (bR a))).flatten,.obj p (.cells ⟨[.int .i64 (n+a:Nat),.slice d n0 c0,.slice none 0 0]⟩ 74 (0,0)),.obj o (.cells ⟨[.int .i64 0,.slice none 0 0,.slice none 0 0]⟩ 74 (0,0))]) ?_ (fun fr bU bV F bW H=>?_)
  ·refine TG (.cut [0,2,3,5,6,7,8,11,12] (.alt 1 (.fin [4,9,10,13,14,15,16,17]) (.alt 4 (.cut [] (.alt 1 (.fin [9,10,13,14,15,16,17]) (.alt 9 (.cut [] (.alt 1 (.fin [10,13,14,15,16,17]) (.alt 10 (.fin [1,13,14,15,16,17]) .stop))) .stop))) .stop))) [(4,3),(3,0),(12,0)] Z Z kr_ (fun R v c Q=>?_);refine SZ 2 Z ?_;refine TS (fun _=>((bkT aS 1).mono v)) U9 ?_;refine SZ 3 Z ?_;refine Ts (((a:Nat):Int)) U4 (by rw [<- K,PL]) om_ om_ U2 ?_;refine SV U6 ?_;refine TS (fun _=>((bkT aS 1).mono v)) U9 ?_;refine Tw Q Z ⟨?_, ?_,trivial⟩
   ·try obtain ⟨U,V,cc,rfl,rfl⟩:=M
    first | refine Ty ae U9 ?_ | refine Ty ac U9 ?_
    refine D.call (xd _ _ r.f aD.m_ om_) Z (.inr dc_) U6 (Pk _) fl_ (fun bh bi bj _ M=>?_)
    try obtain ⟨U,V,cc,rfl,rfl⟩:=M
    refine To (kE _ a om_) U7 fl_ (fun aT aU _ W=>?_);obtain ⟨bz,rfl,S⟩:=W;refine Tq (j:=0) U11 S.m_ (fY _) (by simp only [al,PB,maxLen];omega) (by simp only [al,PB];omega) fl_ (fun e g l=>?_);refine Td [.slice e g l,af (qtx r.b)] U8 ?_;refine Th [[.slice e g l,af (qtx r.b)]] U12 (fun aE aF _ T=>?_);refine Tq (j:=1) U11 T.m_ Z aw (by simp only [aY];omega) fl_ (fun x y z=>?_);refine SV U6 ?_;refine S5 (j:=2) U12 ?_;refine SY [2,4,5,7,8,9,37,38,39] c Z ?_;clear c v Q R;have I:(ay us ((rows.take i).map (bR a))).flatten++[[Value.slice e g l,af (qtx r.b)]].flatten=(ay (us++[.slice e g l]) ((rows.take (i+1)).map (bR a))).flatten:=by
     rw [L,bY A.1,PH];rfl
    rw [I,<- PH,<- PM];refine G.freezeArr 2 ((r.f++List.replicate a (0:Rat)).map aP) U2 bH am (fun Cf aj J=>?_);refine G.perm (L':=[.arr (sG7 x y z) 140 2 (i+1) (ay (us++[.slice e g l]) ((rows.take (i+1)).map (bR a))).flatten,.obj p (.cells ⟨[.int .i64 (n+a:Nat),.slice x y z,.slice none 0 0]⟩ 74 (0,0)),.obj o (.cells ⟨[.int .i64 0,.slice none 0 0,.slice none 0 0]⟩ 74 (0,0))]) (pkL [1,0,0] Z) ?_;exact S9 0 mup (hn_ [2,4,5,7,8,9,37,38,39] Z) ⟨x,y,z,us++[.slice e g l],by rw [L];exact eM (RowsOk.m_ A) J,Z,Z⟩
   refine D.call (xd _ _ r.f aD.m_ om_) Z (.inr dc_) U6 (Pk _) fl_ (fun bh bi bj _ M=>?_);refine Tw Q Z ⟨?_, ?_,trivial⟩
   ·try obtain ⟨U,V,cc,rfl,rfl⟩:=M
    first | refine Ty ae U9 ?_ | refine Ty ac U9 ?_
    try obtain ⟨U,V,cc,rfl,rfl⟩:=M
    refine To (kE _ a om_) U7 fl_ (fun aT aU _ W=>?_);obtain ⟨bz,rfl,S⟩:=W;refine Tq (j:=0) U11 S.m_ (fY _) (by simp only [al,PB,maxLen];omega) (by simp only [al,PB];omega) fl_ (fun e g l=>?_);refine Td [.slice e g l,af (qtx r.b)] U8 ?_;refine Th [[.slice e g l,af (qtx r.b)]] U12 (fun aE aF _ T=>?_);refine Tq (j:=1) U11 T.m_ Z aw (by simp only [aY];omega) fl_ (fun x y z=>?_);refine SV U6 ?_;refine S5 (j:=2) U12 ?_;refine SY [2,4,5,7,8,9,37,38,39] c Z ?_;clear c v Q R;have I:(ay us ((rows.take i).map (bR a))).flatten++[[Value.slice e g l,af (qtx r.b)]].flatten=(ay (us++[.slice e g l]) ((rows.take (i+1)).map (bR a))).flatten:=by
     rw [L,bY A.1,PH];rfl
    rw [I,<- PH,<- PM];refine G.freezeArr 2 ((r.f++List.replicate a (0:Rat)).map aP) U2 bH am (fun Cf aj J=>?_);refine G.perm (L':=[.arr (sG7 x y z) 140 2 (i+1) (ay (us++[.slice e g l]) ((rows.take (i+1)).map (bR a))).flatten,.obj p (.cells ⟨[.int .i64 (n+a:Nat),.slice x y z,.slice none 0 0]⟩ 74 (0,0)),.obj o (.cells ⟨[.int .i64 0,.slice none 0 0,.slice none 0 0]⟩ 74 (0,0))]) (pkL [1,0,0] Z) ?_;exact S9 0 mup (hn_ [2,4,5,7,8,9,37,38,39] Z) ⟨x,y,z,us++[.slice e g l],by rw [L];exact eM (RowsOk.m_ A) J,Z,Z⟩
   try obtain ⟨U,V,cc,rfl,rfl⟩:=M
   refine To (kE _ a om_) U7 fl_ (fun aT aU _ W=>?_);refine Tw Q Z ⟨?_, ?_,trivial⟩
   ·try obtain ⟨U,V,cc,rfl,rfl⟩:=M
    first | refine Ty ae U9 ?_ | refine Ty ac U9 ?_
    obtain ⟨bz,rfl,S⟩:=W;refine Tq (j:=0) U11 S.m_ (fY _) (by simp only [al,PB,maxLen];omega) (by simp only [al,PB];omega) fl_ (fun e g l=>?_);refine Td [.slice e g l,af (qtx r.b)] U8 ?_;refine Th [[.slice e g l,af (qtx r.b)]] U12 (fun aE aF _ T=>?_);refine Tq (j:=1) U11 T.m_ Z aw (by simp only [aY];omega) fl_ (fun x y z=>?_);refine SV U6 ?_;refine S5 (j:=2) U12 ?_;refine SY [2,4,5,7,8,9,37,38,39] c Z ?_;clear c v Q R;have I:(ay us ((rows.take i).map (bR a))).flatten++[[Value.slice e g l,af (qtx r.b)]].flatten=(ay (us++[.slice e g l]) ((rows.take (i+1)).map (bR a))).flatten:=by
     rw [L,bY A.1,PH];rfl
    rw [I,<- PH,<- PM];refine G.freezeArr 2 ((r.f++List.replicate a (0:Rat)).map aP) U2 bH am (fun Cf aj J=>?_);refine G.perm (L':=[.arr (sG7 x y z) 140 2 (i+1) (ay (us++[.slice e g l]) ((rows.take (i+1)).map (bR a))).flatten,.obj p (.cells ⟨[.int .i64 (n+a:Nat),.slice x y z,.slice none 0 0]⟩ 74 (0,0)),.obj o (.cells ⟨[.int .i64 0,.slice none 0 0,.slice none 0 0]⟩ 74 (0,0))]) (pkL [1,0,0] Z) ?_;exact S9 0 mup (hn_ [2,4,5,7,8,9,37,38,39] Z) ⟨x,y,z,us++[.slice e g l],by rw [L];exact eM (RowsOk.m_ A) J,Z,Z⟩
   obtain ⟨bz,rfl,S⟩:=W;refine Tq (j:=0) U11 S.m_ (fY _) (by simp only [al,PB,maxLen];omega) (by simp only [al,PB];omega) fl_ (fun e g l=>?_)
   try obtain ⟨U,V,cc,rfl,rfl⟩:=M
   first | refine Ty ae U9 ?_ | refine Ty ac U9 ?_
   refine Td [.slice e g l,af (qtx r.b)] U8 ?_;refine Th [[.slice e g l,af (qtx r.b)]] U12 (fun aE aF _ T=>?_);refine Tq (j:=1) U11 T.m_ Z aw (by simp only [aY];omega) fl_ (fun x y z=>?_);refine SV U6 ?_;refine S5 (j:=2) U12 ?_;refine SY [2,4,5,7,8,9,37,38,39] c Z ?_;clear c v Q R;have I:(ay us ((rows.take i).map (bR a))).flatten++[[Value.slice e g l,af (qtx r.b)]].flatten=(ay (us++[.slice e g l]) ((rows.take (i+1)).map (bR a))).flatten:=by
    rw [L,bY A.1,PH];rfl
   rw [I,<- PH,<- PM];refine G.freezeArr 2 ((r.f++List.replicate a (0:Rat)).map aP) U2 bH am (fun Cf aj J=>?_);refine G.perm (L':=[.arr (sG7 x y z) 140 2 (i+1) (ay (us++[.slice e g l]) ((rows.take (i+1)).map (bR a))).flatten,.obj p (.cells ⟨[.int .i64 (n+a:Nat),.slice x y z,.slice none 0 0]⟩ 74 (0,0)),.obj o (.cells ⟨[.int .i64 0,.slice none 0 0,.slice none 0 0]⟩ 74 (0,0))]) (pkL [1,0,0] Z) ?_;exact S9 0 mup (hn_ [2,4,5,7,8,9,37,38,39] Z) ⟨x,y,z,us++[.slice e g l],by rw [L];exact eM (RowsOk.m_ A) J,Z,Z⟩
  obtain ⟨d,n0,c0,ai,X,rfl,rfl⟩:=H;refine SX fun R c=>?_;refine S2 _ Z U6 ?_;refine C6 1 [2,4,5,7,8,9,37,38,39] c Z ?_;clear c R;refine S6 (m':=rows.length-(i+1)) om_ mup (hn_ [2,4,5,7,8,9,37,38,39] Z) ⟨i+1,d,n0,c0,ai,⟨by omega,X⟩,Z,Z,Z⟩
 have ab:i=rows.length:=by
  have:=Pj aC;omega
 subst ab;refine SR 2 [2,4,5,7,8,9,61,62] Z ?_;rw [Pv] at A ⊢;refine Tc (L':=[.arr (sG7 d n0 c0) 140 2 (rows.length+2*(0*es.length)) (ay us (rows.map (bR a)++rgL (n+a) n (bp B) es (0*es.length))).flatten,.obj p (.cells ⟨[.int .i64 (n+a:Nat),.slice d n0 c0,.slice none 0 0]⟩ 74 (0,0)),.obj o (.cells ⟨[.int .i64 0,.slice none 0 0,.slice none 0 0]⟩ 74 (0,0))]) (by rw [Nat.zero_mul,show rgL (n+a) n (bp B) es 0=[] from Z,PF];rfl) ?_;refine G.loop (fun fr E s F=>∃ (i:Nat)(d:Option Addr)(n0 c0:Nat)(us:List Value),(i<=bs B/\RowsOk E us (rows.map (bR a)++rgL (n+a) n (bp B) es (i*es.length)))/\fr=[(2,[],.pointer (some ⟨b2,0,none⟩)),(4,[],.pointer (some ⟨o,0,none⟩)),(5,[],.slice N es.length O),(7,[],.int .i64 n),(8,[],.int .i64 (bs B:Nat)),(9,[],.pointer (some ⟨p,0,none⟩)),(61,[],.int .i64 (bs B:Nat)),(62,[],.int .i64 i)]/\s=[.arr (sG7 d n0 c0) 140 2 (rows.length+2*(i*es.length)) (ay us (rows.map (bR a)++rgL (n+a) n (bp B) es (i*es.length))).flatten,.obj p (.cells ⟨[.int .i64 (n+a:Nat),.slice d n0 c0,.slice none 0 0]⟩ 74 (0,0)),.obj o (.cells ⟨[.int .i64 0,.slice none 0 0,.slice none 0 0]⟩ 74 (0,0))]/\F=bs B-i) (hn_ [2,4,5,7,8,9,61,62] Z) ⟨0,d,n0,c0,us,⟨Pm _,by rw [Nat.zero_mul,show rgL (n+a) n (bp B) es 0=[] from Z,PF];exact RowsOk.mono A mup⟩,Z,Z,Z⟩ (fun fr bX bZ m _ H=>?_);obtain ⟨i,d,n0,c0,us,⟨hi,an⟩,rfl,rfl,rfl⟩:=H;refine SR 1 [2,4,5,7,8,9,61,62,63] Z ?_;refine G.cd (fun aG=>?_) fun aG=>?_
 ·have ab:i<bs B:=by
   have:=OD aG;omega
  refine SR 2 [2,4,5,7,8,9,12,61,62] Z ?_;refine SR 3 [2,4,5,7,8,9,12,61,62,65,66,67] Z ?_
  skip
  refine G.loop (fun fr E s F=>∃ (k:Nat)(d:Option Addr)(n0 c0:Nat)(us:List Value),(k<=es.length/\RowsOk E us (rows.map (bR a)++rgL (n+a) n (bp B) es (i*es.length+k)))/\fr=[(2,[],.pointer (some ⟨b2,0,none⟩)),(4,[],.pointer (some ⟨o,0,none⟩)),(5,[],.slice N es.length O),(7,[],.int .i64 n),(8,[],.int .i64 (bs B:Nat)),(9,[],.pointer (some ⟨p,0,none⟩)),(12,[],.int .i64 i),(61,[],.int .i64 (bs B:Nat)),(62,[],.int .i64 i),(65,[],.slice N es.length O),(66,[],.int .i64 es.length),(67,[],.int .i64 k)]/\s=[.arr (sG7 d n0 c0) 140 2 (rows.length+2*(i*es.length+k)) (ay us (rows.map (bR a)++rgL (n+a) n (bp B) es (i*es.length+k))).flatten,.obj p (.cells ⟨[.int .i64 (n+a:Nat),.slice d n0 c0,.slice none 0 0]⟩ 74 (0,0)),.obj o (.cells ⟨[.int .i64 0,.slice none 0 0,.slice none 0 0]⟩ 74 (0,0))]/\F=es.length-k) (hn_ [2,4,5,7,8,9,12,61,62,65,66,67] Z) ⟨0,d,n0,c0,us,⟨Pm _,RowsOk.mono an mup⟩,Z,Z,Z⟩ (fun fr b0 b1 m _ H=>?_);obtain ⟨k,d,n0,c0,us,⟨hk,X⟩,rfl,rfl,rfl⟩:=H;refine SR 1 [2,4,5,7,8,9,12,61,62,65,66,67,68] Z ?_;refine G.cd (fun aH=>?_) fun aH=>?_
  ·have ao:k<es.length:=by
    have:=OD aH;omega
   have aI:i*es.length+k<bs B*es.length:=Bc ab ao;obtain ⟨t,ht⟩:∃ t,i*es.length+k=t:=⟨_,rfl⟩;obtain ⟨aJ,aV⟩:=Mh (i:=i) ao;rw [ht] at aJ aV aI X ⊢;obtain ⟨b3,b5⟩:=yK aI;obtain ⟨bk,bl,b6⟩:=Gs (aA.ok (n:=bp B) hG.ok.ins (bs B)) aI;rw [hn,aJ] at bk bl;have bm:(es.map uj)[k]?=some (uj (edg es t)):=by
    rw [Pi,ak ao];unfold edg;rw [aV,ax,ak ao];rfl
   refine SS 1 Z fun R c=>?_;refine Ta aB.m_ U10 om_ bm fl_ (fun b7 bn=>?_);refine SU bn U8 ?_;refine Te U5 (fun bo=>?_);refine SV U6 ?_;refine S5 (j:=0) U12 ?_;refine SY [2,4,5,7,8,9,12,13,14,61,62,65,66,67] c Z ?_;clear c R;refine G.freeze 0 Z (fun _ _ aW=>?_);refine SX fun R c=>?_;refine TH [[af [49]],[af [45,49]]] U12 fl_ (fun bq _ _ aX=>?_);refine C6 2 [2,4,5,7,8,9,12,13,14,61,62,65,66,67,72,73,74] c Z ?_;clear c R;rw [OR] at aX;refine Tc (L':=[.arr (sG7 d n0 c0) 140 2 (rows.length+2*t+0) (ay us (rows.map (bR a)++(rgL (n+a) n (bp B) es t++(rgK (n+a) n (bp B) es t).take 0))).flatten,.obj p (.cells ⟨[.int .i64 (n+a:Nat),.slice d n0 c0,.slice none 0 0]⟩ 74 (0,0)),.obj o (.cells ⟨[.int .i64 0,.slice none 0 0,.slice none 0 0]⟩ 74 (0,0))]) (by rw [List.take_zero,PF];rfl) ?_;refine G.loop (fun fr E s F=>∃ (q:Nat)(d:Option Addr)(n0 c0:Nat)(us:List Value),(q<=2/\RowsOk E us (rows.map (bR a)++(rgL (n+a) n (bp B) es t++(rgK (n+a) n (bp B) es t).take q)))/\fr=[(2,[],.pointer (some ⟨b2,0,none⟩)),(4,[],.pointer (some ⟨o,0,none⟩)),(5,[],.slice N es.length O),(7,[],.int .i64 n),(8,[],.int .i64 (bs B:Nat)),(9,[],.pointer (some ⟨p,0,none⟩)),(12,[],.int .i64 i),(13,[],.int .i64 k),(14,[],.pointer (some ⟨bo,0,none⟩)),(61,[],.int .i64 (bs B:Nat)),(62,[],.int .i64 i),(65,[],.slice N es.length O),(66,[],.int .i64 es.length),(67,[],.int .i64 k),(72,[],.slice (some ⟨bq,0,none⟩) 2 2),(73,[],.int .i64 2),(74,[],.int .i64 q)]/\s=[.arr (sG7 d n0 c0) 140 2 (rows.length+2*t+q) (ay us (rows.map (bR a)++(rgL (n+a) n (bp B) es t++(rgK (n+a) n (bp B) es t).take q))).flatten,.obj p (.cells ⟨[.int .i64 (n+a:Nat),.slice d n0 c0,.slice none 0 0]⟩ 74 (0,0)),.obj o (.cells ⟨[.int .i64 0,.slice none 0 0,.slice none 0 0]⟩ 74 (0,0))]/\F=2-q) (hn_ [2,4,5,7,8,9,12,13,14,61,62,65,66,67,72,73,74] Z) ⟨0,d,n0,c0,us,⟨Pm _,by rw [List.take_zero,PF];exact RowsOk.mono X mup⟩,Z,Z,Z⟩ (fun fr b8 ca m _ H=>?_);obtain ⟨q,d,n0,c0,us,⟨cb,aq⟩,rfl,rfl,rfl⟩:=H;refine SR 1 [2,4,5,7,8,9,12,13,14,61,62,65,66,67,72,73,74,75] Z ?_;refine G.cd (fun aK=>?_) fun aK=>?_
   ·have ar:q<2:=by
     have:=OD aK;omega
    refine SX fun R c=>?_;refine Ta aX.m_ U10 om_ (by rw [Pi,Er ar];rfl:(([1, -1]:List Rat).map aP)[q]?=some (aP (nF q))) fl_ (fun cf br=>?_);refine SU br U8 ?_;refine C6 1 [2,4,5,7,8,9,12,13,14,16,61,62,65,66,67,72,73,74] c Z ?_;clear c R;refine Tk [(2,3)] Z (fun R c=>?_);refine SV U6 ?_;refine S1 ae U9 ?_;refine D.call (mG _ (n+a) om_) Z (.inr dc_) U6 (Pk _) fl_ (fun cg _ ch _ bt=>?_);obtain ⟨bz,rfl,rfl⟩:=bt;rw [EG];have bu:(Value.string ⟨#[45,49]⟩)=tq (-1):=by show af [45,49]=af (qtx (-1));rw [yh]
    refine C6 1 [2,4,5,7,8,9,12,13,14,16,17,61,62,65,66,67,72,73,74] c Z ?_;clear c R;refine SS 4 Z fun R c=>?_;refine SU (bkT aa 1) U8 ?_;refine SV U6 ?_;refine S2 (((i*bp B:Nat):Int)) (PL _ _) U6 ?_;refine Ti (0) U9 ah U2 ?_;refine SU (bkT aW 1) U8 ?_;refine Ts (((i*bp B+(edg es t).1:Nat):Int)) U4 om_ om_ om_ U2 ?_;refine SV U6 ?_;refine Tm ((i*bp B+(edg es t).1)) U10 (fun _=>⟨by omega,by omega,(Ql _).symm⟩) U2 ?_;refine Tr (j:=0) U11 ap ?_;refine SY [2,4,5,7,8,9,12,13,14,16,17,61,62,65,66,67,72,73,74] c Z ?_;clear c R;rw [dW ap];refine Tg [0,1,2,3,4,5,6,7,8,9,10,11,12,13] [(11,1),(4,0),(8,0)] Z kr_ (fun R v c=>?_);refine SZ 4 Z ?_;refine TS (fun _=>((bkT aa 1).mono v)) U9 ?_;refine SV U6 ?_;refine S2 (((i*bp B:Nat):Int)) (PL _ _) U6 ?_;refine Ti (1) U9 ah U2 ?_;refine TS (fun _=>((bkT aW 1).mono v)) U9 ?_;refine Ts (((i*bp B+(edg es t).2:Nat):Int)) U4 om_ om_ om_ U2 ?_;refine SV U6 ?_;refine Tj (fun _=>(L4 _ (nF q) (Py (bx (vI q) dc_) dc_))) U9 ?_;refine Tm ((i*bp B+(edg es t).2)) U10 (fun _=>⟨by omega,by omega,(Ql _).symm⟩) U2 ?_;refine Tr (j:=0) U11 ap ?_;refine SY [2,4,5,7,8,9,12,13,14,17,61,62,65,66,67,72,73,74] c Z ?_;clear c v R;rw [dW ap];refine SS 5 Z fun R c=>?_;refine S2 (((i*es.length:Nat):Int)) (PL _ _) U6 ?_;refine Ts (((n+i*es.length:Nat):Int)) U4 om_ om_ om_ U2 ?_;refine SV U6 ?_;refine Ts (((n+t:Nat):Int)) U4 om_ om_ om_ U2 ?_;refine Tm ((n+t)) U10 (fun _=>⟨by omega,by omega,(Ql _).symm⟩) U2 ?_;refine Tr (j:=0) U11 ap ?_;refine SY [2,4,5,7,8,9,12,13,14,17,61,62,65,66,67,72,73,74] c Z ?_;clear c R;rw [bu,dW ap,<- oy];refine G.freezeArr 0 ((rgF (n+a) n (bp B) es.length t (edg es t) (nF q)).map aP) ⟨(by unfold rgF;rw [aJ];rfl),Z⟩ bH (by rw [al,tr]) (fun _ _ bw=>?_);refine SS 1 Z fun R c=>?_;refine S1 ae U9 ?_;refine SV U6 ?_;refine Td [.slice (some ⟨bz,0,none⟩) (n+a) (n+a),af [48]] U8 ?_;refine Th [[.slice (some ⟨bz,0,none⟩) (n+a) (n+a),af [48]]] U12 (fun ci _ _ bB=>?_);refine Tq (j:=0) U11 bB.m_ Z aw (by simp only [aY];omega) fl_ (fun aL aM aN=>?_);refine SV U6 ?_;refine S5 (j:=1) U12 ?_;refine SY [2,4,5,7,8,9,12,13,14,61,62,65,66,67,72,73,74] c Z ?_;clear c R;refine SX fun R c=>?_;refine S2 _ Z U6 ?_;refine C6 1 [2,4,5,7,8,9,12,13,14,61,62,65,66,67,72,73,74] c Z ?_;clear c R;have aZ:rows.map (bR a)++(rgL (n+a) n (bp B) es t++(rgK (n+a) n (bp B) es t).take (q+1))=(rows.map (bR a)++(rgL (n+a) n (bp B) es t++(rgK (n+a) n (bp B) es t).take q))++[⟨rgF (n+a) n (bp B) es.length t (edg es t) (nF q),0⟩]:=by rw [Av ar];simp only [PR]
    have I:(ay us (rows.map (bR a)++(rgL (n+a) n (bp B) es t++(rgK (n+a) n (bp B) es t).take q))).flatten++[[Value.slice (some ⟨bz,0,none⟩) (n+a) (n+a),af [48]]].flatten=(ay (us++[.slice (some ⟨bz,0,none⟩) (n+a) (n+a)]) (rows.map (bR a)++(rgL (n+a) n (bp B) es t++(rgK (n+a) n (bp B) es t).take (q+1)))).flatten:=by
     rw [aZ,bY aq.1,PH,Kf]
    refine G.perm (L':=[.arr (sG7 aL aM aN) 140 2 (rows.length+2*t+(q+1)) (ay (us++[.slice (some ⟨bz,0,none⟩) (n+a) (n+a)]) (rows.map (bR a)++(rgL (n+a) n (bp B) es t++(rgK (n+a) n (bp B) es t).take (q+1)))).flatten,.obj p (.cells ⟨[.int .i64 (n+a:Nat),.slice aL aM aN,.slice none 0 0]⟩ 74 (0,0)),.obj o (.cells ⟨[.int .i64 0,.slice none 0 0,.slice none 0 0]⟩ 74 (0,0))]) (by rw [<- I];(exact pkL [1,0,0] Z)) ?_;refine S6 (m':=2-(q+1)) om_ mup (hn_ [2,4,5,7,8,9,12,13,14,61,62,65,66,67,72,73,74] Z) ⟨q+1,aL,aM,aN,us++[.slice (some ⟨bz,0,none⟩) (n+a) (n+a)],⟨by omega,by rw [aZ];exact eM (RowsOk.m_ aq) bw.m_⟩,Z,Z,Z⟩
   have ar:q=2:=by
    have:=Pj aK;omega
   subst ar;refine SX fun R c=>?_;refine S2 _ Z U6 ?_;refine C6 1 [2,4,5,7,8,9,12,61,62,65,66,67] c Z ?_;clear c R;rw [show (rgK (n+a) n (bp B) es t).take 2=rgK (n+a) n (bp B) es t from rfl,<- tk] at aq ⊢;refine Tc (L':=[.arr (sG7 d n0 c0) 140 2 (rows.length+2*(i*es.length+(k+1))) (ay us (rows.map (bR a)++rgL (n+a) n (bp B) es (i*es.length+(k+1)))).flatten,.obj p (.cells ⟨[.int .i64 (n+a:Nat),.slice d n0 c0,.slice none 0 0]⟩ 74 (0,0)),.obj o (.cells ⟨[.int .i64 0,.slice none 0 0,.slice none 0 0]⟩ 74 (0,0))]) (by rw [show i*es.length+(k+1)=t+1 by omega,show rows.length+2*(t+1)=rows.length+2*t+2 by omega]) ?_;refine S6 (m':=es.length-(k+1)) om_ mup (hn_ [2,4,5,7,8,9,12,61,62,65,66,67] Z) ⟨k+1,d,n0,c0,us,⟨by omega,by rw [<- RT,ht];exact RowsOk.mono aq mup⟩,Z,Z,Z⟩
  obtain rfl:es.length=k:=by
   have:=Pj aH;omega
  refine SX fun R c=>?_;refine S2 _ Z U6 ?_;refine C6 1 [2,4,5,7,8,9,61,62] c Z ?_;clear c R;rw [<- Nat.succ_mul] at X ⊢;refine S6 (m':=bs B-(i+1)) om_ mup (hn_ [2,4,5,7,8,9,61,62] Z) ⟨i+1,d,n0,c0,us,⟨by omega,RowsOk.mono X mup⟩,Z,Z,Z⟩
 obtain rfl:bs B=i:=by
  have:=Pj aG;omega
 refine Tk [(1,3)] Z (fun R c=>?_);refine SV U6 ?_;refine D.call (mG _ n om_) Z (.inr dc_) U6 (Pk _) fl_ (fun cj _ ck _ bC=>?_);obtain ⟨bz,rfl,rfl⟩:=bC;refine Th [[af [49]]] U12 (fun cm _ _ bD=>?_);refine SZ 3 Z ?_;refine Ts (((a:Nat):Int)) U4 (by rw [<- K,PL]) om_ om_ U2 ?_;refine To (EI _ _ a 1 [49] Ik bD.m_ om_) U7 fl_ (fun cn _ _ bE=>?_);obtain ⟨co,rfl,bF⟩:=bE;refine Tq (j:=0) U11 bF.m_ (fY _) (by simp only [al,PB,maxLen];omega) (by simp only [al,PB];omega) fl_ (fun cp cq cr=>?_);refine SV U6 ?_;refine S5 (j:=2) U12 ?_;refine SY [4,9] c Z ?_;clear c R;refine SX fun R c=>?_;refine S1 ag U9 ?_;refine S5 (j:=3) U12 ?_;refine SY [4] c Z ?_;clear c R;have bG:List.replicate n (af [48])++((List.replicate a (1:Rat)).map aP).flatten=((kb n a).map aP).flatten:=by
  rw [gF];unfold kb;rw [PM,PH]
 rw [bG];refine G.freezeArr 2 ((kb n a).map aP) U2 bH (by rw [al,nK];simp) (fun Cf aj J=>?_);rw [K] at an ⊢;refine G.freezeArr 2 (ay us (rows.map (bR a)++rgL (n+a) n (bp B) es a)) U2 (bP _ _) (by rw [bA an.1,Po,al,tm]) (fun Cg cs bI=>?_);refine S7 (TE ag U4 ?_);refine ⟨Z,es,aA,_,_,_,_,_,_,by rw [K];rfl, ?_, ?_⟩
 ·rw [K];exact nJ (RowsOk.m_ an) bI.m_
 rw [K];exact J.mono mup
theorem gx (C:Mem)(a x y d:Str):Gives cx.P 56 [af a,af x,af y,af d] C (.agg ⟨[.int .i64 2,af a,af x,af y,af d,af [66],af [65],af [],af [],af []]⟩):=by
 refine S4 func56 15 U3 fun w0=>SX fun R b=>Te U5 fun c=>SY [0,1,2,3,8] b Z<|SS 3 Z fun R b=>Td [af x,af y] U8<|SV U6<|Td [.int .i64 2,af a,af x,af y,af d,af [66],af [65],af [],af [],af []] U8<|S5 (j:=0) U12<|SY [8] b Z<|S7 (TE ag U4 ?_);exact ⟨Z,Z⟩
theorem OF (l:List Nat):(xB l).pts.map fZ=[[af [48],af [48]],[af [54],af [48]],[af [48],af [52]]]:=by
 show [[af (qtx 0),af (qtx 0)],[af (qtx 6),af (qtx 0)],[af (qtx 0),af (qtx 4)]]=_;rw [Kf,Ij,Kh]
theorem OL (l:List Nat):(xB l).col.map uV=[[af [65],af [48],af []],[af [66],af [48],af []]]:=by
 show [[af [65],af (qtx 0),af []],[af [66],af (qtx 0),af []]]=_;rw [Kf]
theorem kL (C:Mem)(b:Value)(l:List Nat)(c:Sl C 10 b ((l.map xO).map qS)):Pur cx.P 55 [b] C fun u D=>BookIn D u (xB l):=by
 obtain ⟨f,c0,rfl,_⟩:=id c;refine S4 func55 20 U3 fun w0=>SX fun R a=>Te U5 fun p=>SY [0,2] a Z<|SX fun R a=>Td [af [48],af [48]] U8<|Td [af [54],af [48]] U8<|Td [af [48],af [52]] U8<|TH [[af [48],af [48]],[af [54],af [48]],[af [48],af [52]]] U12 fl_ fun d _ _ g=>Td [.int .i64 0,.int .i64 1,.int .i64 2] U8<|TH [[.int .i64 0,.int .i64 1,.int .i64 2]] U12 fl_ fun e _ _ h=>Td [.slice (some ⟨d,0,none⟩) 3 3,.slice (some ⟨e,0,none⟩) 1 1] U8<|Te U5 fun q=>S5 (j:=0) U12<|SY [0,2,3] a Z<|SX fun R a=>Td [af [65],af [48],af []] U8<|Td [af [66],af [48],af []] U8<|TH [[af [65],af [48],af []],[af [66],af [48],af []]] U12 fl_ fun i _ _ k=>C6 1 [0,2,3,4] a Z<|G.freeze 0 Z fun _ _ m=>SX fun R a=>SU (bkT m 2) U8<|TH [[af [49,48]],[af [49,48]],[af [49,48]]] U12 fl_ fun n _ _ o=>SZ 2 Z<|Td [.slice (some ⟨d,0,none⟩) 3 3,.slice (some ⟨e,0,none⟩) 1 1,.slice (some ⟨n,0,none⟩) 3 3,.slice (some ⟨i,0,none⟩) 2 2,.slice f ((l.map xO).map qS).length c0] U8<|S5 (j:=0) U12<|SY [2] a Z<|S7 (TE ag U4 ?_);exact ⟨Z,_,_,_,_,_,Z,by rw [OF];exact g.mono mup,h.mono mup,o.mono mup,by rw [OL];exact k.mono mup,c.mono mup⟩
def xC:List Rat:=xI 3 0 (0,1,2) (wgt (xB []).pts (0,1,2) (3,0)) 3
theorem xC_e:sgL xC 0=[1/2,1/2,0]/\sgL xC 1=[-1/2, -1/2,0]:=by decide +kernel
theorem OJ:∀ k,k<2->Lp.Lim (ck 3 (eG (xR 0))) (fun j=>(sgL xC k).getD j 0) 20:=fun k a=>by
 have b:∀ k<2,∀ j<3,wlB 2 ((sgL xC k).getD j 0)=true:=by decide +kernel
 exact tR dc_ (JY 0 dc_) ⟨2,by decide,by decide,fun j c=>DZ (b k a j c)⟩
theorem KR (h:KL (ck 3 (eG (xR 0))) xC u):u=.tuple #[af [54],af [54],.int .i64 0]:=by
 obtain ⟨e,f,g,i,h1,h2,h3⟩:=h;rw [xC_e.1] at h1;rw [xC_e.2] at h2;obtain ⟨a,c⟩:=h1.same OI;obtain ⟨b,d⟩:=(h2 om_).same Ng;rcases h3 with ⟨h3,_⟩ | ⟨_,rfl⟩
 ·omega
 unfold DM nA;rw [aL a,aL b,c a,d b,show (1:Rat)*6=6 by decide +kernel,show (-1:Rat) * -6=6 by decide +kernel,Ij]
theorem KU {D:Mem}(h:BuiO (xB [0,1]) (xRO [0,1]) D u):∃ (A:Option Addr)(n c:Nat),u=.tuple #[.slice none 0 0,.agg ⟨[.slice A n c]⟩,.bool false,.int .i64 0]:=by
 cases h with
 | yes pt v h1 h2 h3 h4 =>
  unfold Ea at h1;rw [NG] at h1;exact absurd ⟨pt,h1⟩ x_no
 | no du a h1 h2 =>
  obtain ⟨A,c,rfl,_⟩:=id h2;exact ⟨_,_,_,Z⟩
theorem KS {D:Mem}(b:EdgL (xB [2,3]).tris es)(h:FlatO (xB [2,3]) (xRO [2,3]) es D u):∃ (A:Option Addr)(n c:Nat)(A2:Option Addr)(n2 c2:Nat),u=.tuple #[.agg ⟨[.slice A n c,af [54],.slice A2 n2 c2]⟩,.int .i64 0]:=by
 obtain rfl:=b.same Ob;have a:=Ni;rw [<- NF] at a;cases h with
 | opt v pt du f g h1 h2 h3 =>
  obtain ⟨vs,_,_,d⟩:=h2;obtain ⟨A,c,rfl,_⟩:=id d;obtain ⟨A2,c2,rfl,_⟩:=id h3;have e:=(h1.val.same a).2 rfl;exact ⟨_,_,_,_,_,_,by rw [e,Ij]⟩
 | inf h1 =>
  obtain ⟨_,⟨y,hy,_⟩,_⟩ | ⟨h,_⟩ | ⟨h,_⟩:=a
  ·exact absurd ⟨y,hy⟩ h1
  ·cases h
  cases h
theorem kS:qS (xO 0)=[.int .i64 2,af [97],af [51],af [48],af [52],af [66],af [65],af [],af [],af []]/\qS (xO 1)=[.int .i64 2,af [98],af [51],af [48],af [53],af [66],af [65],af [],af [],af []] /\
  qS (xO 2)=[.int .i64 2,af [97],af [48],af [48],af [52],af [66],af [65],af [],af [],af []]/\qS (xO 3)=[.int .i64 2,af [98],af [54],af [48],af [49],af [66],af [65],af [],af [],af []]:=by
 rw [Hs,Hs,Hs,Hs];exact ⟨Z,Z,Z,Z⟩
theorem OE:(.agg ⟨[af [51],af [48]]⟩:Value)=ptV (3,0):=by
 show _=Value.agg ⟨[af (qtx 3),af (qtx 0)]⟩;rw [EQ,Kf]
theorem FX (C:Mem)(b:Tabs C):Gives cx.P 11 [] C (.bool true):=by
 have c:=fun (D:Mem)(d:C.le D)(bv:Value)(e:BookIn D bv (xB [0]))=>F6 D (b.mono d) bv (xB [0]) xFs (xRO [0]) 0 (3,0) 0 [] (0,1,2) [49,48] e (xH ok0) dc_ (JZ 0 dc_).2.2.2.2 ⟨bC (JZ 0 dc_).2.1,bC (JZ 0 dc_).2.2.1⟩ (HA 0 dc_) rfl (x_w 0 dc_)
  (by rw [<- NP];exact Nb 0 dc_) (fun k f=>by
   have:=OJ k f;rw [<- rows0] at this;exact this)
 have g:∀ es,EdgL (xB [2,3]).tris es->bs (xB [2,3])*bp (xB [2,3])+bs (xB [2,3])*es.length<=12:=fun es h=>by
  obtain rfl:=h.same Ob;decide
 refine S4 func11 64 U3 fun w0=>SS 1 Z fun R a=>TX [] trivial (a _ _ _ Z ?_);refine SX fun R a=>S8 (gx _ [97] [51] [48] [52]) U7<|TH [[.int .i64 2,af [97],af [51],af [48],af [52],af [66],af [65],af [],af [],af []]] U12 fl_ fun w _ _ i=>To (kL _ _ [0] (by show Sl _ 10 _ [qS (xO 0)];rw [kS.1];exact i.mono mup)) U7 fl_ fun x _ _ l=>Td [af [51],af [48]] U8 ?_;rw [OE];refine Tv (c _ mup _ l.m_) U7 (fun y _ _ m=>?_);obtain rfl:=KR (by have:=m;unfold Ea at this;rw [rows0] at this;exact this);refine C6 7 [1,2,3] a Z<|SX fun R a=>S8 (gx _ [97] [51] [48] [52]) U7<|S8 (gx _ [98] [51] [48] [53]) U7<|TH [[.int .i64 2,af [97],af [51],af [48],af [52],af [66],af [65],af [],af [],af []],[.int .i64 2,af [98],af [51],af [48],af [53],af [66],af [65],af [],af [],af []]] U12 fl_ fun z _ _ n=>To (kL _ _ [0,1] (by show Sl _ 10 _ [qS (xO 0),qS (xO 1)];rw [kS.1,kS.2.1];exact n.mono mup)) U7 fl_ fun A _ _ o=>Tv (Ga _ b.m_ _ (xB [0,1]) xFs (xRO [0,1]) o.m_ (xH ok01)) U7 (fun B _ _ p=>?_);obtain ⟨E,nb,F,rfl⟩:=KU p;refine SZ 5 Z<|Te U5 fun H=>SV U6<|S5 (j:=0) U12<|C6 2 [1,2,3,6,7] a Z<|SX fun R a=>S8 (gx _ [97] [48] [48] [52]) U7<|S8 (gx _ [98] [54] [48] [49]) U7<|TH [[.int .i64 2,af [97],af [48],af [48],af [52],af [66],af [65],af [],af [],af []],[.int .i64 2,af [98],af [54],af [48],af [49],af [66],af [65],af [],af [],af []]] U12 fl_ fun I _ _ q=>To (kL _ _ [2,3] (by show Sl _ 10 _ [qS (xO 2),qS (xO 3)];rw [kS.2.2.1,kS.2.2.2];exact q.mono mup)) U7 fl_ fun J _ _ r=>To (I6 _ b.m_ _ (xB [2,3]) xFs (xRO [2,3]) r.m_ (xH ok23) dc_ dc_ g) U7 fl_ (fun K _ _ s=>?_);obtain ⟨es,t,u⟩:=s;obtain ⟨L,M,N,O,Q,S,rfl⟩:=KS t u;exact SZ 3 Z<|Te U5 fun T=>S5 (j:=0) U12<|C6 1 [1,2,3,6,7,8,9] a Z<|G.freeze 0 Z fun _ _ v=>SS 5 Z fun R a=>Tl U8<|SZ 3 Z<|Tl U8<|SZ 3 Z<|Tl U8<|SZ 3 Z<|Tl U8<|SZ 3 Z<|Tl U8<|SZ 2 Z<|Tn U6 (fun _=>PtrTo.blockT (Mem.get v mup) _ 1) U3<|SV U6<|Tl U8<|C6 1 [0] a Z<|S3 U2<|⟨Z,Z⟩
theorem CA {o:Obs}{p:Pt}{t:Tri}{z:Rat}(h:(cD B.col o).length<=2):(rowsO B o p t z).length<=8:=by
 unfold rowsO;split
 ·rw [Po];split <;> split <;> simp
 split
 ·have:=Je (c:=2) (f:=fun k=>[1, -1].map (gE (bs B) (bp B) k (atT t (wgt B.pts t p)) (kQ o z))) (l:=cD B.col o) (fun k _=>by simp);omega
 have:=Je (c:=4) (f:=fun k=>[1, -1].map (gE (bs B) (bp B) k (atT t fun j=>(slf B.pts t j).1) (pV o))++[1, -1].map (gE (bs B) (bp B) k (atT t fun j=>(slf B.pts t j).2) (iR o))) (l:=cD B.col o) (fun k _=>by simp);omega
theorem zc (S:Sht)(H:Hts)(l:List Sgt)(c:∀ s∈l,SgtR s):Calm (dT S H l) (fsK (cE (S.kd % 8) S.a S.b S.h).length H) (roK S H l):=by
 have e:=gM (S.kd % 8) S.a S.b S.h;have f:(dT S H l).obs.length=min l.length 6:=lm S l;refine ⟨Dv S H l c, ?_,zO O8 _,fun i g=>?_, ?_,fun i _=>?_,by omega⟩
 ·show 2*(cE (S.kd % 8) S.a S.b S.h).length<=12;omega
 ·have d:i<l.length:=by omega
  refine NE S H l _ i ?_;rw [ax,ak d];exact c _ (Qa d)
 ·have h1:=jp (bs (dT S H l)) (bp (dT S H l)) colK 1;have h2:bp (dT S H l)<=6:=e;show (ba (bs (dT S H l)) (bp (dT S H l)) colK 1).length<=24;omega
 refine CA ?_;unfold cD vx;refine Py (QQ _ _) ?_;rw [Qr];exact Pf 2
theorem LG (a:∀ r∈rows,r.f.length=s*p):∀ r∈(eG (uR rows (s*p) p es (s*es.length))).map fo,r.1.length=s*p+s*es.length:=fun r hr=>by
 obtain ⟨x,b,rfl⟩:=Pn.1 hr;obtain ⟨y,hy,rfl⟩:=Pn.1 b;show (y.f.map qtx).length=_;rw [al];exact Ka a y hy
theorem EB {A:Option Addr}{c:Nat}{R:List (List Str × Str)}(h:RowsT C (.slice A n c) R):n=R.length:=by
 obtain ⟨ws,b,_,d⟩:=h;obtain ⟨e,f,a,_⟩:=id d;simp only [Value.slice.injEq] at a;rw [a.2.1,jl b]
theorem Hb (S:Sht)(H:Hts)(l:List Sgt):bs (dT S H l)=2/\bp (dT S H l)<=6:=⟨BM S H l,gM (S.kd % 8) S.a S.b S.h⟩
theorem yi (C:Mem)(f:Tabs C)(p:Value)(S:Sht)(H:Hts)(l:List Sgt)(F:Hj C p S H l)(i:PlanR S H l):Gives cx.P 4 [p] C (.bool true):=by
 obtain ⟨A,c,rfl,I⟩:=F;have J:=(gj (S.kd % 8) (PY _ dc_) S.a S.b S.h).1;obtain ⟨B,K⟩:∃ B,dT S H l=B:=⟨_,rfl⟩;have e:=zc S H l i.s;obtain ⟨L,k⟩:=Hb S H l;have q:=fun (D:Mem)(t:C.le D)=>FC D (f.mono t) S H _ l i.kd i.h (I.mono t) i.s J;rw [K] at e L k q;generalize fsK (cE (S.kd % 8) S.a S.b S.h).length H=fs at e;generalize roK S H l=RO at e;have M:=e.cnt (dm B.obs.length);have ai:=e.n12;refine S4 func4 71 U3 fun w0=>SX fun R d=>Tf U6 fun b1=>C6 1 [1] d Z<|SX fun R d=>S8 (FX _ f.m_) U7<|C6 1 [1,10] d Z<|G.cd (fun u=>?_) fun u=>?_
 ·exact absurd u dc_
 refine G.freeze 0 Z fun _ _ N=>SX fun R d=>SU (bkT N 12) U8<|Tv (q _ mup) U7 (fun aj _ _ m=>?_);obtain ⟨v1,v2,tv,cv,ov,rfl,O,Q,T,U,V⟩:=id m;obtain ⟨B1,d1,rfl,_⟩:=id O;obtain ⟨B2,d2,rfl,_⟩:=id Q;obtain ⟨B3,d3,rfl,_⟩:=id T;obtain ⟨B4,d4,rfl,_⟩:=id U;obtain ⟨B5,d5,rfl,_⟩:=id V;refine Te U5 fun b3=>S5 (j:=0) U12<|SY [3] d Z<|G.freeze 0 Z fun _ _ n=>SX fun R d=>SU (bkT n 5) U8<|Tv (FJ _ f.m_ _ B fs RO m.m_ e) U7 (fun ak _ _ W=>?_);obtain ⟨lv,rfl,v⟩:=W;obtain ⟨am,an,X⟩:=id v;obtain ⟨Al,cl,rfl,_⟩:=id X;refine C6 5 [3,4,5] d Z<|SR 2 [3,4,19] Z<|G.cd (fun w=>?_) fun w=>?_
 ·exact absurd w dc_
 refine SX fun R d=>SU (bkT n 5) U8<|To (Ao _ f.m_ _ B fs RO m.m_ e k om_) U7 fl_ (fun ao _ _ Y=>?_);obtain ⟨es,x,rfl,y,E1,m1,e1,E2,m2,e2,rfl,aa,ab⟩:=Y;have ac:=LG (es:=es) e.rl;obtain ⟨ad,_⟩:=y.le e.rich.good.ok.ins k;have aq:bs B*es.length<=2*15:=Qz om_ ad;have ar:((eG (uR (dp B RO) (bs B*bp B) (bp B) es (bs B*es.length))).map fo).length<=300:=by
  rw [al,eG,al,Aq];have:(dp B RO).length<=120:=M;omega
 refine SZ 3 Z<|Te U5 fun b6=>S5 (j:=0) U12<|C6 1 [3,4,6,7] d Z<|SX fun R d=>SU (bkT n 5) U8<|SV U6<|To (FK _ f.m_ _ _ B fs RO m.m_ e k om_ v.m_) U7 fl_ (fun au _ _ ae=>?_);obtain ⟨af,ag,F1,k1,f1,F2,k2,f2,rfl,z,ah⟩:=ae;obtain rfl:=ag.same y;have av:=EB z;refine Te U5 fun b8=>S5 (j:=0) U12<|SY [6,7,8] d Z<|G.freeze 0 Z fun _ _ g=>G.freeze 0 Z fun _ _ o=>SS 1 Z fun R d=>SU (bkT g 1) U8<|SZ 3 Z<|Tn U6 (fun _=>PtrTo.blockT (Mem.get g mup) _ 1) U3<|SZ 2 Z<|Tt U8<|SY [6,7,8,36] d Z<|G.cd (fun E=>?_) fun E=>?_
 ·exact absurd E ap
 exact SS 4 Z fun R d=>Tn U6 (fun _=>PtrTo.blockT (Mem.get o mup) _ 1) U3<|SV U6<|Tn U6 (fun _=>PtrTo.blockT (Mem.get g mup) _ 1) U3<|SV U6<|Tl U8<|SZ 2 Z<|Tn U6 (fun _=>PtrTo.blockT (Mem.get o mup) _ 1) U3<|SV U6<|Tn U6 (fun _=>PtrTo.blockT (Mem.get g mup) _ 1) U3<|Tj (fun _=>(vK _ _ _ _ aa.m_ z.m_ om_ (fun r hr=>by rw [ac r hr];omega))) U9<|Tl U8<|SZ 2 Z<|Tn U6 (fun _=>PtrTo.blockT (Mem.get o mup) _ 1) U3<|SV U6<|Tn U6 (fun _=>PtrTo.blockT (Mem.get g mup) _ 1) U3<|Tj (fun _=>(wR _ _ _ ((kb (bs B*bp B) (bs B*af.length)).map qtx) (by rw [<- pS];exact ab.mono mup) (by rw [<- pS];exact ah.mono mup) (by rw [al,nK];omega))) U9<|Tl U8<|C6 1 [2] d Z<|S3 U2<|⟨by simp,Z⟩
end Go.Proofs.YtfjcldheldflbaaGreatDoor
