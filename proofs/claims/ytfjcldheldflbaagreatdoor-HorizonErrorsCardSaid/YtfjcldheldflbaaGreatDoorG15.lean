/- Laws that the proofs of this seat share, part 15. -/
import Derived.Test.YtfjcldheldflbaaGreatDoorG14
import Derived.Test.YtfjcldheldflbaaGreatDoorShelf
set_option maxHeartbeats 4000000
namespace Go.Proofs.YtfjcldheldflbaaGreatDoor
open Go.Proofs.Tryz
open Go Go.Jog
set_option maxRecDepth 100000
variable {C:Mem}{es:List (Nat × Nat)}{i:Nat}{l:List RowQ}{n p:Nat}{r r':RowQ}{rows:List RowQ}{u:Value}{us:List Value}{w:Value}
theorem Mx (n:Nat)(q:Rat):List.replicate n (ah (qtx q))=((List.replicate n q).map aQ).flatten:=by
 rw [Sd];induction n with
 | zero=>rfl
 | succ n a=>rw [QC,QC,QI,<- a];rfl
theorem LC (C:Mem)(v:Value)(n:Nat)(q:Rat)(s:Str)(a:qtx q=s)(c:Sl C 1 v [[ah s]])(d:n<=1000000):Pur cx.P 64 [v,.int .i64 n] C fun u D=>∃ b,u=.slice (some ⟨b,0,none⟩) n n/\Sl D 1 u ((List.replicate n q).map aQ) :=
 Vk (mD C v n s c d) fun u e f ⟨b,h1,h2⟩=>.inr ⟨u,32,1,(List.replicate n q).map aQ,by rw [h2,<- Mx,a];simp,bS,fun D _ h=>⟨b,h1,h⟩⟩
theorem oh (C:Mem)(n:Nat)(h:n<=100000):Pur cx.P 77 [.int .i64 n] C fun u D=>∃ b,u=.slice (some ⟨b,0,none⟩) n n/\Sl D 1 u ((List.replicate n (0:Rat)).map aQ) :=
 Vk (lK C n h) fun u a c ⟨b,h1,h2⟩=>.inr ⟨u,32,1,(List.replicate n 0).map aQ,by rw [h2,<- ld];simp,bS,fun D _ h=>⟨b,h1,h⟩⟩
def yj (rows:List RowQ)(more i:Nat):List RowQ:=(rows.take i).map (fc more)++rows.drop i
theorem IK (a:List RowQ)(b i:Nat):(yj a b i).length=a.length:=by
 unfold yj;rw [PH,am,<- PH,Qs]
theorem Mh {more:Nat}(h:rows[i]?=some r):(yj rows more i)[i]?=some r/\yj rows more (i+1)=(yj rows more i).set i (fc more r):=by
 have c:=(aJ.1 h).1;have a:((rows.take i).map (fc more)).length=i:=by rw [am,PM];omega
 have b:rows.drop i=r::rows.drop (i+1):=by rw [PW c,(aJ.1 h).2]
 unfold yj;constructor
 ·rw [PX om_,a,RW,b];rfl
 rw [P0,h,Qb,b,List.set_append_right _ _ om_,a,RW];simp
theorem fV (d:us.length=l.length)(c:l[i]?=some r)(e:r'.b=r.b) :
  aD (aE us l).flatten [w] (i*2)=(aE (us.set i w) (l.set i r')).flatten:=by
 have f:=(aJ.1 c).1;obtain ⟨u0,g⟩:∃ u0,us[i]?=some u0:=⟨us[i]'om_,al om_⟩;have h:us=us.take i++u0::us.drop (i+1):=by
  conv=>lhs;rw [<- Qs i us,PW om_,(aJ.1 g).2]
 have j:l=l.take i++r::l.drop (i+1):=by
  conv=>lhs;rw [<- Qs i l,PW om_,(aJ.1 c).2]
 have a:(us.take i).length=(l.take i).length:=by rw [PM,PM,d]
 have k:aE us l=aE (us.take i) (l.take i)++[u0,ah (qtx r.b)]::aE (us.drop (i+1)) (l.drop (i+1)):=by
  conv=>lhs;rw [h,j]
  unfold aE;rw [List.zipWith_append a];rfl
 have m:aE (us.set i w) (l.set i r')=aE (us.take i) (l.take i)++[w,ah (qtx r.b)]::aE (us.drop (i+1)) (l.drop (i+1)):=by
  rw [List.set_eq_take_append_cons_drop,aL om_,List.set_eq_take_append_cons_drop,aL f];unfold aE;rw [List.zipWith_append a,<- e];rfl
 have n:(aE (us.take i) (l.take i)).flatten.length=i*2:=by
  rw [aO (bX _ _),bN a,PM,QD om_]
 rw [k,m,Qj,Qj,QI,QI];exact vo (A:=(aE (us.take i) (l.take i)).flatten) (x:=u0) (B:=ah (qtx r.b)::(aE (us.drop (i+1)) (l.drop (i+1))).flatten) n
theorem jt (h:RowsOk C us l)(b:Sl C 1 w (r'.f.map eh)):RowsOk C (us.set i w) (l.set i r'):=by
 refine ⟨by rw [Qf,Qf];exact h.1,fun j v r a hr=>?_⟩;rw [List.getElem?_set] at a hr;by_cases e:i=j
 ·subst e;rw [aL rfl] at a hr;split at a
  ·split at hr
   ·cases a;cases hr;exact b
   cases hr
  cases a
 rw [aF e] at a hr;exact h.2 j v r a hr
theorem xZ (h:RowsOk C us l)(e:Sl C 1 w (r.f.map eh)):RowsOk C (us++[w]) (l++[r]):=by
 refine ⟨by rw [PH,PH,h.1];rfl,fun j v x a b=>?_⟩;have:=h.1;rcases P4 j us.length with c | c
 ·rw [Qh c] at a;rw [Qh om_] at b;exact h.2 j v x a b
 rw [PX c] at a;rw [PX om_] at b;cases d:j-us.length with
 | zero =>
  rw [d] at a;rw [show j-l.length=0 by omega] at b;cases a;cases b;exact e
 | succ k=>rw [d] at a;cases a
theorem vK (d:us.length=l.length)(a:l[i]?=some r)(e:us[i]?=some w):((aE us l).flatten.drop (i*2)).take 2=[w,ah (qtx r.b)]:=by
 have k:=(aJ.1 a).1;have f:us=us.take i++w::us.drop (i+1):=by
  conv=>lhs;rw [<- Qs i us,PW om_,(aJ.1 e).2]
 have g:l=l.take i++r::l.drop (i+1):=by
  conv=>lhs;rw [<- Qs i l,PW om_,(aJ.1 a).2]
 have c:(us.take i).length=(l.take i).length:=by rw [PM,PM,d]
 have h:aE us l=aE (us.take i) (l.take i)++[w,ah (qtx r.b)]::aE (us.drop (i+1)) (l.drop (i+1)):=by
  conv=>lhs;rw [f,g]
  unfold aE;rw [List.zipWith_append c];rfl
 have j:(aE (us.take i) (l.take i)).flatten.length=i*2:=by
  rw [aO (bX _ _),bN c,PM,QD om_]
 rw [h,Qj,QI,<- j,List.drop_left];rfl
theorem pQ (l:List Rat):((l.map aQ).all fun r=>r.all me)=true:=by
 rw [PT];intro r hr;obtain ⟨q,_,rfl⟩:=PF.1 hr;rfl
theorem Ib {h:Nat}{k q:Nat}(a:q<2):(rgK n h p es k).take (q+1)=(rgK n h p es k).take q++[⟨rgF n h p es.length k (edg es k) (rx q),0⟩]:=by
 rcases (by omega:q=0∨q=1) with rfl | rfl <;> rfl
def Pw (D:Mem)(n:Nat)(rows:List RowQ)(ob:List Rat)(u:Value):Prop:=∃ (A1:Option Addr)(n1 c1:Nat)(A2:Option Addr)(n2 c2:Nat),u=.agg ⟨[.int .i64 n,.slice A1 n1 c1,.slice A2 n2 c2]⟩/\RowsT D (.slice A1 n1 c1) ((eQ rows).map fP)/\Sl D 1 (.slice A2 n2 c2) (ob.map aQ)
abbrev sR7 (A:Option Addr)(n c:Nat):Value:=.slice A n c
abbrev sF7 (A:Option Addr)(n c:Nat):Value:=.slice A n c
theorem H9 (C:Mem)(hT:Tabs C)(bv:Value)(B:Bk)(fs:List Rat)(RO:Nat->List RowQ)(d:BookIn C bv B)(h:Calm B fs RO)(aY:bp B<=6)(aZ:bs B<=2) :
  Pur cx.P 22 [bv] C fun u D=>∃ es x,u=.tuple #[x,.int .i64 0]/\EdgL B.tris es/\Pw D (bs B*bp B+bs B*es.length) (ya (eg B RO) (bs B*bp B) (bp B) es (bs B*es.length)) (mC (bs B*bp B) (bs B*es.length)) x:=by
 have a0:=d;have hG:=h.rich.good;have a1:=h.n12;have a2:=h.cnt (eo B.obs.length);have ab:=fun (D:Mem)(hD:C.le D)=>kC D (hT.mono hD) bv B fs RO (d.mono hD) h;obtain ⟨v1,v2,tv,cv,ov,rfl,h1,h2,h3,h4,h5⟩:=id d.ex;have hm:MeshIn C (.agg ⟨[v1,v2]⟩) B.pts B.tris:=⟨v1,v2,rfl,h1,h2⟩;obtain ⟨s,t,rfl,a3,_⟩:=id h1;obtain ⟨A4,c4,rfl,a4,_⟩:=id h4;have a5:(B.pts.map cY).length=bp B:=am _;have a6:(B.col.map lQ).length=bs B+1:=by rw [am];have:=h.rich.scol.1;omega
 simp only [a5,a6] at h1 a3 h4 a4 hm a0 ab ⊢;have bI:maxLen<=9223372036854775807:=by simp [maxLen]
 obtain ⟨n,hn⟩:∃ n,bs B*bp B=n:=⟨_,rfl⟩;obtain ⟨rows,ao⟩:∃ rows,eg B RO=rows:=⟨_,rfl⟩;rw [show qO B RO (List.range B.obs.length)=rows from ao] at a2;rw [hn] at ab a1 ⊢;rw [ao] at ab ⊢;have a7:∀ r∈rows,r.f.length<=12:=fun r hr=>by
  have h1:=(h.rowsQ (eo B.obs.length)).l (r.f,r.b) (PF.2 ⟨r,by rw [<- ao] at hr;exact hr,rfl⟩);have h2:r.f.length=bs B*bp B:=h1;omega
 refine Tk func22 153 U3 fun w0=>?_;refine Tf fun R c=>?_;refine Tv U6 (fun b1=>?_);refine Tq U5 (fun b2=>?_);refine C6 1 [1,2] c Z ?_;clear c R;refine G.freeze 1 Z (fun _ _ ad=>?_);refine TC [(1,3)] Z (fun R c=>?_);refine Td (bkT ad 5) U8 ?_;refine D.call (ab _ mup) Z (.inr dc_) U6 (PC _) fl_ (fun bJ _ bK _ a8=>?_);obtain ⟨N,A,bo,vs,rfl,a9,rfl⟩:=a8;refine Tg 3 Z ?_;refine Tq U5 (fun v=>?_);refine Tj (j:=0) U12 ?_;refine C6 1 [1,2,4,5] c Z ?_;clear c R;refine Tb 2 [1,2,4,5,24] Z ?_;refine G.cd (fun aI=>?_) fun aI=>?_
 ·exact absurd aI dc_
 refine Tc 1 Z fun R c=>?_;refine Td (bkT ad 2) U8 ?_;refine TM (Ji _ hT.m_ _ B.pts B.tris hm.m_ hG) U7 (fun bL _ _ bb=>?_);obtain ⟨es,ev,rfl,ar,au⟩:=bb;obtain ⟨Ae,ce,rfl,bc,_⟩:=id au;simp only [am] at au bc ⊢;obtain ⟨bd,bM⟩:=ar.le hG.ok.ins aY;obtain ⟨a,aa⟩:∃ a,bs B*es.length=a:=⟨_,rfl⟩;have bO:a<=30:=by rw [<- aa];exact Q1 aZ bd
 refine C6 5 [1,2,4,5,6] c Z ?_;clear c R;refine Tb 2 [1,2,4,5,6,34] Z ?_;refine G.cd (fun aJ=>?_) fun aJ=>?_
 ·exact absurd aJ dc_
 refine Tx [0,1,2,3,4,5,6,7] [] Z kr_ (fun R d c=>?_);refine Te U6 ?_;refine Ti ag U9 ?_;refine Tg 2 Z ?_;refine Td (bkT ad 1) U8 ?_;refine Tg 3 Z ?_;refine Th [1,2,4,6,7,8] c Z ?_;clear c d R;refine Tc 1 Z fun R c=>?_;refine Td (bkT ad 1) U8 ?_;refine Te U6 ?_;refine TL (((bs B:Nat):Int)) U4 om_ om_ om_ U2 ?_;refine Tg 2 Z ?_;refine TL (((a:Nat):Int)) U4 (by rw [<- aa,Qe]) om_ om_ U2 ?_;refine C6 1 [2,4,6,7,8,9] c Z ?_;clear c R;refine Tc 1 Z fun R c=>?_;refine Ti ag U9 ?_;refine Te U6 ?_;refine TL (((n+a:Nat):Int)) U4 om_ om_ om_ U2 ?_;refine Te U6 ?_;refine Tj (j:=0) U12 ?_;refine Th [2,4,6,7,8,9] c Z ?_;clear c R;refine Tc 1 Z fun R c=>?_;refine Ti ag U9 ?_;refine Tg 3 Z ?_;refine Ti ag U9 ?_;refine Tg 2 Z ?_;refine Tm _ U7 ?_;refine Tm _ U7 ?_;refine Te U6 ?_;refine TN U8 ?_;refine Th [2,4,6,7,8,9,66] c Z ?_;clear c R;refine G.cd (fun aK=>?_) fun aK=>?_
 ·exact absurd aK aq
 refine Tx [0,1,3,2,4,5,6,7] [] Z kr_ (fun R d c=>?_);refine Te U6 ?_;refine Ti ag U9 ?_;refine Te U6 ?_;refine Tz [[ah [49]]] U12 (fun bP _ _ be=>?_);refine TG (LC _ _ a 1 [49] LM be.m_ om_) U7 fl_ (fun bQ _ _ bf=>?_);obtain ⟨bR,rfl,bg⟩:=bf;refine TH (j:=2) U11 bg.m_ (pQ _) (by simp only [am,P9,maxLen];omega) (by simp only [am,P9];omega) fl_ (fun e o p=>?_);refine Te U6 ?_;refine Tj (j:=1) U12 ?_;refine Th [2,4,6,7,8,9] c Z ?_;clear c d R;refine Tc 1 Z fun R c=>?_;refine Ti ag U9 ?_;refine C6 2 [2,4,6,7,8,9,76,77,78] c Z ?_;clear c R;have bh:List.replicate n (ah [48])++((List.replicate a (1:Rat)).map aQ).flatten=((mC n a).map aQ).flatten:=by
  rw [ld];unfold mC;rw [Qb,Qj]
 have bi:n+((List.replicate a (1:Rat)).map aQ).length=n+a:=by simp
 refine G.perm (L':=[.arr (sR7 N rows.length A) 140 2 (rows.length) (aE vs (yj rows a 0)).flatten,.arr (sF7 e o p) 32 1 (n+a) ((mC n a).map aQ).flatten,.obj v (.cells ⟨[.int .i64 (n+a:Nat),.slice N rows.length A,.slice e o p]⟩ 74 (0,0)),.obj b2 (.cells ⟨[.int .i64 0,.slice none 0 0,.slice none 0 0]⟩ 74 (0,0))]) (by rw [show yj rows a 0=rows from Z,<- bh,<- bi];(exact pkL [2,1,0,0] Z)) ?_;refine G.loop (fun fr J y E=>∃ (i:Nat)(us:List Value),(i<=rows.length/\RowsOk J us (yj rows a i))/\fr=[(2,[],.pointer (some ⟨b2,0,none⟩)),(4,[],.pointer (some ⟨v,0,none⟩)),(6,[],.slice Ae es.length ce),(7,[],.int .i64 n),(8,[],.int .i64 (bp B:Nat)),(9,[],.int .i64 a),(76,[],.slice N rows.length A),(77,[],.int .i64 rows.length),(78,[],.int .i64 i)]/\y=[.arr (sR7 N rows.length A) 140 2 rows.length (aE us (yj rows a i)).flatten,.arr (sF7 e o p) 32 1 (n+a) ((mC n a).map aQ).flatten,.obj v (.cells ⟨[.int .i64 (n+a:Nat),.slice N rows.length A,.slice e o p]⟩ 74 (0,0)),.obj b2 (.cells ⟨[.int .i64 0,.slice none 0 0,.slice none 0 0]⟩ 74 (0,0))]/\E=rows.length-i) (hn_ [2,4,6,7,8,9,76,77,78] Z) ⟨0,vs,⟨PG _,by rw [show yj rows a 0=rows from rfl];exact RowsOk.mono a9 mup⟩,Z,Z,Z⟩ (fun fr bT bU m _ F=>?_);obtain ⟨i,us,⟨hi,K⟩,rfl,rfl,rfl⟩:=F;refine Vo ag (fun A0 c0 bj bk=>?_);refine Tb 1 [2,4,6,7,8,9,76,77,78,79] Z ?_;refine G.cd (fun av=>?_) fun av=>?_
 ·have aw:i<rows.length:=by
   have:=OQ av;omega
  obtain ⟨rfl,rfl⟩:N=A0/\A=c0:=by cases bj;exact ⟨rfl,rfl⟩
  obtain ⟨g,rfl⟩:=bk om_;obtain ⟨r,aL⟩:∃ r,rows[i]?=some r:=⟨rows[i],al aw⟩;obtain ⟨U,L⟩:=Mh (more:=a) aL;have bV:=IK rows a i;have H:=K.1;obtain ⟨w,aM⟩:∃ w,us[i]?=some w:=⟨us[i]'om_,al om_⟩;have az:=K.2 i w r aM U;obtain ⟨Aw,cw,rfl,_⟩:=id az;have bW:r.f.length<=12:=a7 r (Px aL);refine Tc 1 Z fun R c=>?_;refine TE ((i*2)) U10 aj U2 ?_;refine TZ ag U6 (fun _=>(by rw [show ((TI.size _:Nat))=2 from Z,vK H U aM];rfl)) U2 ?_;refine Tq U5 (fun bY=>?_);refine Te U6 ?_;refine Tj (j:=0) U12 ?_;refine Th [2,4,6,7,8,9,10,11,76,77,78] c Z ?_;clear c R;refine G.freeze 0 Z (fun _ _ bm=>?_);refine G.cut (fun fr J y E=>∃ (af:List Value),(RowsOk J af (yj rows a (i+1)))/\fr=[(2,[],.pointer (some ⟨b2,0,none⟩)),(4,[],.pointer (some ⟨v,0,none⟩)),(6,[],.slice Ae es.length ce),(7,[],.int .i64 n),(8,[],.int .i64 (bp B:Nat)),(9,[],.int .i64 a),(76,[],.slice (some ⟨g,0,none⟩) rows.length A),(77,[],.int .i64 rows.length),(78,[],.int .i64 i)]/\y=[.arr (sR7 (some ⟨g,0,none⟩) rows.length A) 140 2 (rows.length) (aE af (yj rows a (i+1))).flatten,.arr (sF7 e o p) 32 1 (n+a) ((mC n a).map aQ).flatten,.obj v (.cells ⟨[.int .i64 (n+a:Nat),.slice (some ⟨g,0,none⟩) rows.length A,.slice e o p]⟩ 74 (0,0)),.obj b2 (.cells ⟨[.int .i64 0,.slice none 0 0,.slice none 0 0]⟩ 74 (0,0))]) ?_ (fun fr bZ b0 E b3 F=>?_)
  ·refine TX (.cut [0,2,3,4,6] (.alt 1 (.fin [5,7,8,9,10,11]) (.alt 5 (.cut [] (.alt 1 (.fin [7,8,9,10,11]) (.alt 7 (.cut [] (.alt 1 (.fin [8,9,10,11]) (.alt 8 (.fin [1,9,10,11]) .stop))) .stop))) .stop))) [(5,3),(4,0)] U2 kr_ (fun R d c z=>?_);refine Tg 3 Z ?_;refine Uk (fun _=>((bkT bm 1).mono d)) U9 ?_;refine Te U6 ?_;refine TP z Z ⟨?_, ?_,trivial⟩
   ·try obtain ⟨V,W,cc,rfl,rfl⟩:=M
    first | refine Ua ae U9 ?_ | refine Ua ac U9 ?_
    refine D.call (GK _ _ r.f az.m_ om_) Z (.inr dc_) U6 (PC _) fl_ (fun bn bq br _ M=>?_)
    try obtain ⟨V,W,cc,rfl,rfl⟩:=M
    refine TG (oh _ a om_) U7 fl_ (fun aN aP _ X=>?_);obtain ⟨bz,rfl,O⟩:=X;refine TH (j:=0) U11 O.m_ (pQ _) (by simp only [am,P9,maxLen];omega) (by simp only [am,P9];omega) fl_ (fun Q S T=>?_);refine TE ((i*2)) U10 aj U2 ?_;refine Te U6 ?_;refine TJ (j:=1) U11 (by rw [aO (bX _ _),bN H];simp;omega) ?_;refine Th [2,4,6,7,8,9,76,77,78] c Z ?_;clear c d z R;rw [<- Qj,<- Qb,fV H U (r':=fc a r) rfl,<- L];refine G.freezeArr 1 ((r.f++List.replicate a (0:Rat)).map aQ) Z Z bS ap (fun Cf ak I=>?_);exact Tr 0 mup (hn_ [2,4,6,7,8,9,76,77,78] Z) ⟨us.set i (.slice Q S T),by rw [L];exact jt (RowsOk.m_ K) I,Z,Z⟩
   refine D.call (GK _ _ r.f az.m_ om_) Z (.inr dc_) U6 (PC _) fl_ (fun bn bq br _ M=>?_);refine TP z Z ⟨?_, ?_,trivial⟩
   ·try obtain ⟨V,W,cc,rfl,rfl⟩:=M
    first | refine Ua ae U9 ?_ | refine Ua ac U9 ?_
    try obtain ⟨V,W,cc,rfl,rfl⟩:=M
    refine TG (oh _ a om_) U7 fl_ (fun aN aP _ X=>?_);obtain ⟨bz,rfl,O⟩:=X;refine TH (j:=0) U11 O.m_ (pQ _) (by simp only [am,P9,maxLen];omega) (by simp only [am,P9];omega) fl_ (fun Q S T=>?_);refine TE ((i*2)) U10 aj U2 ?_;refine Te U6 ?_;refine TJ (j:=1) U11 (by rw [aO (bX _ _),bN H];simp;omega) ?_;refine Th [2,4,6,7,8,9,76,77,78] c Z ?_;clear c d z R;rw [<- Qj,<- Qb,fV H U (r':=fc a r) rfl,<- L];refine G.freezeArr 1 ((r.f++List.replicate a (0:Rat)).map aQ) Z Z bS ap (fun Cf ak I=>?_);exact Tr 0 mup (hn_ [2,4,6,7,8,9,76,77,78] Z) ⟨us.set i (.slice Q S T),by rw [L];exact jt (RowsOk.m_ K) I,Z,Z⟩
   try obtain ⟨V,W,cc,rfl,rfl⟩:=M
   refine TG (oh _ a om_) U7 fl_ (fun aN aP _ X=>?_);refine TP z Z ⟨?_, ?_,trivial⟩
   ·try obtain ⟨V,W,cc,rfl,rfl⟩:=M
    first | refine Ua ae U9 ?_ | refine Ua ac U9 ?_
    obtain ⟨bz,rfl,O⟩:=X;refine TH (j:=0) U11 O.m_ (pQ _) (by simp only [am,P9,maxLen];omega) (by simp only [am,P9];omega) fl_ (fun Q S T=>?_);refine TE ((i*2)) U10 aj U2 ?_;refine Te U6 ?_;refine TJ (j:=1) U11 (by rw [aO (bX _ _),bN H];simp;omega) ?_;refine Th [2,4,6,7,8,9,76,77,78] c Z ?_;clear c d z R;rw [<- Qj,<- Qb,fV H U (r':=fc a r) rfl,<- L];refine G.freezeArr 1 ((r.f++List.replicate a (0:Rat)).map aQ) Z Z bS ap (fun Cf ak I=>?_);exact Tr 0 mup (hn_ [2,4,6,7,8,9,76,77,78] Z) ⟨us.set i (.slice Q S T),by rw [L];exact jt (RowsOk.m_ K) I,Z,Z⟩
   obtain ⟨bz,rfl,O⟩:=X;refine TH (j:=0) U11 O.m_ (pQ _) (by simp only [am,P9,maxLen];omega) (by simp only [am,P9];omega) fl_ (fun Q S T=>?_)
   try obtain ⟨V,W,cc,rfl,rfl⟩:=M
   first | refine Ua ae U9 ?_ | refine Ua ac U9 ?_
   refine TE ((i*2)) U10 aj U2 ?_;refine Te U6 ?_;refine TJ (j:=1) U11 (by rw [aO (bX _ _),bN H];simp;omega) ?_;refine Th [2,4,6,7,8,9,76,77,78] c Z ?_;clear c d z R;rw [<- Qj,<- Qb,fV H U (r':=fc a r) rfl,<- L];refine G.freezeArr 1 ((r.f++List.replicate a (0:Rat)).map aQ) Z Z bS ap (fun Cf ak I=>?_);exact Tr 0 mup (hn_ [2,4,6,7,8,9,76,77,78] Z) ⟨us.set i (.slice Q S T),by rw [L];exact jt (RowsOk.m_ K) I,Z,Z⟩
  obtain ⟨af,Y,rfl,rfl⟩:=F;refine Tf fun R c=>?_;refine Tm _ U7 ?_;refine C6 1 [2,4,6,7,8,9,76,77,78] c Z ?_;clear c R;refine Tp (m':=rows.length-(i+1)) om_ mup (hn_ [2,4,6,7,8,9,76,77,78] Z) ⟨i+1,af,⟨by omega,Y⟩,Z,Z,Z⟩
 have aw:i=rows.length:=by
  have:=PE av;omega
 subst aw;refine Tb 2 [2,4,6,7,8,95,96] Z ?_;rw [show yj rows a rows.length=rows.map (fc a)++rgL (n+a) n (bp B) es 0 by unfold yj;rw [PO,QA];rfl] at K ⊢;refine G.loop (fun fr J y E=>∃ (k:Nat)(s:Option Addr)(n1 t:Nat)(us:List Value),(k<=a/\RowsOk J us (rows.map (fc a)++rgL (n+a) n (bp B) es k))/\fr=[(2,[],.pointer (some ⟨b2,0,none⟩)),(4,[],.pointer (some ⟨v,0,none⟩)),(6,[],.slice Ae es.length ce),(7,[],.int .i64 n),(8,[],.int .i64 (bp B:Nat)),(95,[],.int .i64 a),(96,[],.int .i64 k)]/\y=[.arr (sR7 s n1 t) 140 2 (rows.length+2*k) (aE us (rows.map (fc a)++rgL (n+a) n (bp B) es k)).flatten,.arr (sF7 e o p) 32 1 (n+a) ((mC n a).map aQ).flatten,.obj v (.cells ⟨[.int .i64 (n+a:Nat),.slice s n1 t,.slice e o p]⟩ 74 (0,0)),.obj b2 (.cells ⟨[.int .i64 0,.slice none 0 0,.slice none 0 0]⟩ 74 (0,0))]/\E=a-k) (hn_ [2,4,6,7,8,95,96] Z) ⟨0,N,rows.length,A,us,⟨PG _,RowsOk.mono K mup⟩,Z,Z,Z⟩ (fun fr b5 b6 m _ F=>?_);obtain ⟨k,s,n1,t,us,⟨hk,aA⟩,rfl,rfl,rfl⟩:=F;refine Tb 1 [2,4,6,7,8,95,96,97] Z ?_;refine G.cd (fun aB=>?_) fun aB=>?_
 ·have b7:k<a:=by
   have:=OQ aB;omega
  have aR:k<bs B*es.length:=by omega
  obtain ⟨bt,b8⟩:=Gg aR;obtain ⟨bu,bw,b9⟩:=KD (ar.ok (n:=bp B) hG.ok.ins (bs B)) aR;rw [hn] at bu bw;have bx:0<es.length:=List.length_pos_of_mem bt;have aS:=P2 k bx;have bA:(es.map wH)[k % es.length]?=some (wH (edg es k)):=by
   rw [PD,al aS];unfold edg;rw [ay,al aS];rfl
  refine Tb 2 [2,4,6,7,8,12,95,96] Z ?_;refine Tx [0,1,2,3,4,5,6,7,8,9,10,11,12,13] [] Z kr_ (fun R d c=>?_);refine Tg 3 Z ?_;refine Up (k) (es.length) U6 om_ (.inl ⟨Z,by omega⟩) U2 ?_;refine Tg 4 Z ?_;refine TS (k) (es.length) U6 om_ U2 ?_;refine Tt au.m_ U10 om_ bA fl_ (fun ca bB=>?_);refine Td bB U8 ?_;refine Tq U5 (fun aT=>?_);refine Te U6 ?_;refine Tj (j:=0) U12 ?_;refine Th [2,4,6,7,8,12,13,14,95,96] c Z ?_;clear c d R;refine G.freeze 0 Z (fun _ _ aC=>?_);refine Tf fun R c=>?_;refine Ub [[ah [49]],[ah [45,49]]] U12 fl_ (fun aU _ _ aV=>?_);refine C6 2 [2,4,6,7,8,12,13,14,95,96,110,111,112] c Z ?_;clear c R;rw [sgns] at aV;refine Tu (L':=[.arr (sR7 s n1 t) 140 2 (rows.length+2*k+0) (aE us (rows.map (fc a)++(rgL (n+a) n (bp B) es k++(rgK (n+a) n (bp B) es k).take 0))).flatten,.arr (sF7 e o p) 32 1 (n+a) ((mC n a).map aQ).flatten,.obj v (.cells ⟨[.int .i64 (n+a:Nat),.slice s n1 t,.slice e o p]⟩ 74 (0,0)),.obj b2 (.cells ⟨[.int .i64 0,.slice none 0 0,.slice none 0 0]⟩ 74 (0,0))]) (by rw [List.take_zero,PY];rfl) ?_;refine G.loop (fun fr J y E=>∃ (q:Nat)(s:Option Addr)(n1 t:Nat)(us:List Value),(q<=2/\RowsOk J us (rows.map (fc a)++(rgL (n+a) n (bp B) es k++(rgK (n+a) n (bp B) es k).take q)))/\fr=[(2,[],.pointer (some ⟨b2,0,none⟩)),(4,[],.pointer (some ⟨v,0,none⟩)),(6,[],.slice Ae es.length ce),(7,[],.int .i64 n),(8,[],.int .i64 (bp B:Nat)),(12,[],.int .i64 k),(13,[],.int .i64 (k / es.length:Nat)),(14,[],.pointer (some ⟨aT,0,none⟩)),(95,[],.int .i64 a),(96,[],.int .i64 k),(110,[],.slice (some ⟨aU,0,none⟩) 2 2),(111,[],.int .i64 2),(112,[],.int .i64 q)]/\y=[.arr (sR7 s n1 t) 140 2 (rows.length+2*k+q) (aE us (rows.map (fc a)++(rgL (n+a) n (bp B) es k++(rgK (n+a) n (bp B) es k).take q))).flatten,.arr (sF7 e o p) 32 1 (n+a) ((mC n a).map aQ).flatten,.obj v (.cells ⟨[.int .i64 (n+a:Nat),.slice s n1 t,.slice e o p]⟩ 74 (0,0)),.obj b2 (.cells ⟨[.int .i64 0,.slice none 0 0,.slice none 0 0]⟩ 74 (0,0))]/\E=2-q) (hn_ [2,4,6,7,8,12,13,14,95,96,110,111,112] Z) ⟨0,s,n1,t,us,⟨PG _,by rw [List.take_zero,PY];exact RowsOk.mono aA mup⟩,Z,Z,Z⟩ (fun fr cb cf m _ F=>?_);obtain ⟨q,s,n1,t,us,⟨cg,Y⟩,rfl,rfl,rfl⟩:=F;refine Tb 1 [2,4,6,7,8,12,13,14,95,96,110,111,112,113] Z ?_;refine G.cd (fun aD=>?_) fun aD=>?_
  ·have an:q<2:=by
    have:=OQ aD;omega
   refine Tf fun R c=>?_;refine Tt aV.m_ U10 om_ (by rw [PD,J9 an];rfl:(([1, -1]:List Rat).map aQ)[q]?=some (aQ (rx q))) fl_ (fun ch bC=>?_);refine Td bC U8 ?_;refine C6 1 [2,4,6,7,8,12,13,14,16,95,96,110,111,112] c Z ?_;clear c R;refine TC [(2,3)] Z (fun R c=>?_);refine Te U6 ?_;refine Ti ae U9 ?_;refine D.call (lK _ (n+a) om_) Z (.inr dc_) U6 (PC _) fl_ (fun ci _ cj _ bD=>?_);obtain ⟨bz,rfl,rfl⟩:=bD;rw [Kd];have aW:(Value.string ⟨#[45,49]⟩)=tq (-1):=by show ah [45,49]=ah (qtx (-1));rw [EL]
   refine C6 1 [2,4,6,7,8,12,13,14,16,17,95,96,110,111,112] c Z ?_;clear c R;refine G.cut (fun fr J y E=>(True)/\fr=[(2,[],.pointer (some ⟨b2,0,none⟩)),(4,[],.pointer (some ⟨v,0,none⟩)),(6,[],.slice Ae es.length ce),(7,[],.int .i64 n),(8,[],.int .i64 (bp B:Nat)),(12,[],.int .i64 k),(13,[],.int .i64 (k / es.length:Nat)),(14,[],.pointer (some ⟨aT,0,none⟩)),(17,[],.slice (some ⟨bz,0,none⟩) (n+a) (n+a)),(95,[],.int .i64 a),(96,[],.int .i64 k),(110,[],.slice (some ⟨aU,0,none⟩) 2 2),(111,[],.int .i64 2),(112,[],.int .i64 q)]/\y=[.arr (.slice (some ⟨bz,0,none⟩) (n+a) (n+a)) 32 1 (n+a) ((rgF (n+a) n (bp B) es.length k (edg es k) (rx q)).map tq),.arr (sR7 s n1 t) 140 2 (rows.length+2*k+q) (aE us (rows.map (fc a)++(rgL (n+a) n (bp B) es k++(rgK (n+a) n (bp B) es k).take q))).flatten,.arr (sF7 e o p) 32 1 (n+a) ((mC n a).map aQ).flatten,.obj v (.cells ⟨[.int .i64 (n+a:Nat),.slice s n1 t,.slice e o p]⟩ 74 (0,0)),.obj b2 (.cells ⟨[.int .i64 0,.slice none 0 0,.slice none 0 0]⟩ 74 (0,0))]) ?_ (fun fr ck cl E cm F=>?_)
   ·refine TX (.cut [0,1,2,3,4,5,6,7,8,9,10,11,14,15,16,17,18,19,20,21] (.alt 12 (.fin [13,22,23,24,25,26]) (.alt 22 (.fin [12,13,23,24,25,26]) .stop))) [(20,1)] U2 kr_ (fun R d c z=>?_);refine Tg 3 Z ?_;refine TL (((k / es.length*bp B:Nat):Int)) U4 (Qe _ _) om_ om_ U2 ?_;refine Ty (0) U9 ai U2 ?_;refine Td (bkT aC 1) U8 ?_;refine TL (((k / es.length*bp B+(edg es k).1:Nat):Int)) U4 om_ om_ om_ U2 ?_;refine Tg 3 Z ?_;refine TL (((k / es.length*bp B:Nat):Int)) U4 (Qe _ _) om_ om_ U2 ?_;refine Ty (1) U9 ai U2 ?_;refine Tg 3 Z ?_;refine TL (((n+k:Nat):Int)) U4 om_ om_ om_ U2 ?_;refine Tg 2 Z ?_;refine TA (fun _=>(eC _ (rx q) (PP (bl (zT q) dc_) dc_))) U9 ?_;refine TE ((k / es.length*bp B+(edg es k).1)) U10 (fun _=>⟨by omega,by omega,(QG _).symm⟩) U2 ?_;refine TP z Z ⟨?_, ?_,trivial⟩
    ·refine Td (bkT aC 1) U8 ?_;refine TL (((k / es.length*bp B+(edg es k).2:Nat):Int)) U4 om_ om_ om_ U2 ?_;refine TJ (j:=0) U11 aq ?_;rw [ff aq];refine TE ((k / es.length*bp B+(edg es k).2)) U10 (fun _=>⟨by omega,by omega,(QG _).symm⟩) U2 ?_;refine TJ (j:=0) U11 aq ?_;rw [ff aq];refine TE ((n+k)) U10 (fun _=>⟨by omega,by omega,(QG _).symm⟩) U2 ?_;refine TJ (j:=0) U11 aq ?_;refine Th [2,4,6,7,8,12,13,14,17,95,96,110,111,112] c Z ?_;clear c d z R;rw [aW,ff aq];exact Tr 0 mup (hn_ [2,4,6,7,8,12,13,14,17,95,96,110,111,112] Z) ⟨trivial,Z,Z⟩
    refine TJ (j:=0) U11 aq ?_;refine Td (bkT aC 1) U8 ?_;refine TL (((k / es.length*bp B+(edg es k).2:Nat):Int)) U4 om_ om_ om_ U2 ?_;rw [ff aq];refine TE ((k / es.length*bp B+(edg es k).2)) U10 (fun _=>⟨by omega,by omega,(QG _).symm⟩) U2 ?_;refine TJ (j:=0) U11 aq ?_;rw [ff aq];refine TE ((n+k)) U10 (fun _=>⟨by omega,by omega,(QG _).symm⟩) U2 ?_;refine TJ (j:=0) U11 aq ?_;refine Th [2,4,6,7,8,12,13,14,17,95,96,110,111,112] c Z ?_;clear c d z R;rw [aW,ff aq];exact Tr 0 mup (hn_ [2,4,6,7,8,12,13,14,17,95,96,110,111,112] Z) ⟨trivial,Z,Z⟩
   obtain ⟨_,rfl,rfl⟩:=F;rw [<- tf];refine G.freezeArr 0 ((rgF (n+a) n (bp B) es.length k (edg es k) (rx q)).map aQ) Z Z bS (by rw [am,yd]) (fun _ _ bE=>?_);refine Tc 1 Z fun R c=>?_;refine Ti ae U9 ?_;refine Te U6 ?_;refine Tw [.slice (some ⟨bz,0,none⟩) (n+a) (n+a),ah [48]] U8 ?_;refine Tz [[.slice (some ⟨bz,0,none⟩) (n+a) (n+a),ah [48]]] U12 (fun cn _ _ bF=>?_);refine TH (j:=0) U11 bF.m_ Z ax (by simp only [ba];omega) fl_ (fun aF aG aH=>?_);refine Te U6 ?_;refine Tj (j:=2) U12 ?_;refine Th [2,4,6,7,8,12,13,14,95,96,110,111,112] c Z ?_;clear c R;refine Tf fun R c=>?_;refine Tm _ U7 ?_;refine C6 1 [2,4,6,7,8,12,13,14,95,96,110,111,112] c Z ?_;clear c R;have aX:rows.map (fc a)++(rgL (n+a) n (bp B) es k++(rgK (n+a) n (bp B) es k).take (q+1))=(rows.map (fc a)++(rgL (n+a) n (bp B) es k++(rgK (n+a) n (bp B) es k).take q))++[⟨rgF (n+a) n (bp B) es.length k (edg es k) (rx q),0⟩]:=by rw [Ib an];simp only [P8]
   have bG:(aE us (rows.map (fc a)++(rgL (n+a) n (bp B) es k++(rgK (n+a) n (bp B) es k).take q))).flatten++[[Value.slice (some ⟨bz,0,none⟩) (n+a) (n+a),ah [48]]].flatten=(aE (us++[.slice (some ⟨bz,0,none⟩) (n+a) (n+a)]) (rows.map (fc a)++(rgL (n+a) n (bp B) es k++(rgK (n+a) n (bp B) es k).take (q+1)))).flatten:=by
    rw [aX,eB Y.1,Qj,LK]
   refine G.perm (L':=[.arr (sR7 aF aG aH) 140 2 (rows.length+2*k+(q+1)) (aE (us++[.slice (some ⟨bz,0,none⟩) (n+a) (n+a)]) (rows.map (fc a)++(rgL (n+a) n (bp B) es k++(rgK (n+a) n (bp B) es k).take (q+1)))).flatten,.arr (sF7 e o p) 32 1 (n+a) ((mC n a).map aQ).flatten,.obj v (.cells ⟨[.int .i64 (n+a:Nat),.slice aF aG aH,.slice e o p]⟩ 74 (0,0)),.obj b2 (.cells ⟨[.int .i64 0,.slice none 0 0,.slice none 0 0]⟩ 74 (0,0))]) (by rw [<- bG];(exact pkL [1,1,0,0] Z)) ?_;refine Tp (m':=2-(q+1)) om_ mup (hn_ [2,4,6,7,8,12,13,14,95,96,110,111,112] Z) ⟨q+1,aF,aG,aH,us++[.slice (some ⟨bz,0,none⟩) (n+a) (n+a)],⟨by omega,by rw [aX];exact xZ (RowsOk.m_ Y) bE.m_⟩,Z,Z,Z⟩
  have an:q=2:=by
   have:=PE aD;omega
  subst an;refine Tf fun R c=>?_;refine Tm _ U7 ?_;refine C6 1 [2,4,6,7,8,95,96] c Z ?_;clear c R;rw [show (rgK (n+a) n (bp B) es k).take 2=rgK (n+a) n (bp B) es k from rfl,<- zZ] at Y ⊢;refine Tp (m':=a-(k+1)) om_ mup (hn_ [2,4,6,7,8,95,96] Z) ⟨k+1,s,n1,t,us,⟨by omega,RowsOk.mono Y mup⟩,Z,Z,Z⟩
 obtain rfl:a=k:=by
  have:=PE aB;omega
 refine Tf fun R c=>?_;refine Ti ae U9 ?_;refine Tj (j:=3) U12 ?_;refine C6 1 [2,3] c Z ?_;clear c R;refine G.freezeArr 1 (aE us (rows.map (fc a)++rgL (n+a) n (bp B) es a)) Z Z (bX _ _) (by rw [bN aA.1,PH,am,yc]) (fun Cf ak I=>?_);refine G.freezeArr 1 ((mC n a).map aQ) Z Z bS (by rw [am,zY]) (fun Cg co bH=>?_);refine Tn (Uy ag U5 ?_);refine ⟨Z,es,_,Z,ar,_,_,_,_,_,_,by rw [aa];rfl, ?_, ?_⟩
 ·rw [aa];exact tx (RowsOk.m_ aA) I.m_
 rw [aa];exact bH
theorem BX {p:Lp.Sys}{c:Nat->Rat}{D:Mem}(h:SolO p c D u):∃ (kd:Int)(val:Str)(a:Option Addr)(n1 b:Nat)(A2:Option Addr)(n2 c2:Nat)(d:Option Addr)(e f:Nat),u=.agg ⟨[.int .i64 kd,ah val,.slice a n1 b,.slice A2 n2 c2,.slice d e f]⟩ /\
  ((kd=1/\∃ v pt du,val=qtx v/\Lp.OptR p c 20 v pt du/\n1=p.n/\Sl D 1 (.slice a n1 b) (((List.range p.n).map pt).map aQ)/\Sl D 1 (.slice A2 n2 c2) (((List.range p.m).map du).map aQ))∨(kd≠1/\(¬ p.Hold∨∃ pt ra,Lp.UnbR p c 20 pt ra))):=by
 cases h with
 | opt v pt du g i j h1 h2 =>
  obtain ⟨a,b,rfl,_⟩:=id h1;obtain ⟨A2,c2,rfl,_⟩:=id h2;exact ⟨_,_,_,_,_,_,_,_,_,_,_,Z,.inl ⟨Z,v,pt,du,Z,j,by simp,h1,h2⟩⟩
 | inf du i k h1 =>
  obtain ⟨A2,c2,rfl,_⟩:=id h1;exact ⟨_,_,_,_,_,_,_,_,_,_,_,Z,.inr ⟨by decide,.inl k.not⟩⟩
 | unb pt ra g o l h1 h2 =>
  obtain ⟨a,b,rfl,_⟩:=id h1;obtain ⟨A2,c2,rfl,_⟩:=id h2;exact ⟨_,_,_,_,_,_,_,_,_,_,_,Z,.inr ⟨by decide,.inr ⟨pt,ra,l⟩⟩⟩
abbrev M9 (B:Bk)(RO:Nat->List RowQ)(es:List (Nat × Nat)):Lp.Sys:=ci (bs B*bp B+bs B*es.length) (eQ (ya (eg B RO) (bs B*bp B) (bp B) es (bs B*es.length)))
abbrev objR (B:Bk)(es:List (Nat × Nat))(j:Nat):Rat:=(mC (bs B*bp B) (bs B*es.length)).getD j 0
inductive FlatO (B:Bk) (RO:Nat->List RowQ) (es:List (Nat × Nat)) (D:Mem):Value->Prop where
 | opt (v:Rat) (pt du:Nat->Rat) (fv dv:Value):Lp.OptR (M9 B RO es) (objR B es) 20 v pt du->FieldsIn D fv (Nw (bs B) (bp B) pt)->Sl D 1 dv (((List.range (M9 B RO es).m).map du).map aQ)->FlatO B RO es D (.tuple #[.agg ⟨[fv,ah (qtx v),dv]⟩,.int .i64 0])
 | inf:¬ (M9 B RO es).Hold->FlatO B RO es D (.tuple #[.agg ⟨[.slice none 0 0,ah [],.slice none 0 0]⟩,.int .i64 22])
theorem Calm.rl {B:Bk}{c:List Rat}{a:Nat->List RowQ}(h:Calm B c a):∀ r∈eg B a,r.f.length=bs B*bp B:=fun r hr=>(h.rowsQ (eo B.obs.length)).l (r.f,r.b) (PF.2 ⟨r,hr,rfl⟩)
theorem NP {s:Nat}(h:∀ r∈rows,r.f.length=s*p):∀ r∈ya rows (s*p) p es (s*es.length),r.f.length=s*p+s*es.length:=by
 intro r hr;rcases PQ.1 hr with hr | hr
 ·obtain ⟨x,a,rfl⟩:=PF.1 hr;show (x.f++List.replicate _ 0).length=_;rw [PH,P9,h x a]
 obtain ⟨k,_,hr⟩:=List.mem_flatMap.1 hr;rcases PN.1 hr with rfl | hr
 ·exact yd _ _ _ _ _ _ _
 rw [PU.1 hr];exact yd _ _ _ _ _ _ _
theorem tt (h:∀ r∈rows,RowI r):∀ r∈eQ rows,(∀ x∈r.1,QB 22 x)/\QB 22 r.2 :=
 nN (P:=fun r=>(∀ x∈r.1,QB 22 x)/\QB 22 r.2) fun r hr=>⟨fun x a=>((h r hr).q.1 x a).le dc_,(h r hr).q.2.le dc_⟩
theorem NL (h:∀ r∈rows,RowI r)(a:∀ r∈rows,r.f.length=n)(b:rows.length<=150):RowsQ n (eQ rows) :=
 ⟨nN (P:=fun r=>r.1.length=n) a,fun r hr=>⟨fun x c=>((tt h r hr).1 x c).le dc_,(tt h r hr).2.le dc_⟩,by rw [eQ,am];exact b⟩
theorem Ly (h b:Nat):∀ x∈mC h b,QB 22 x:=fun x a=>by
 rcases PQ.1 a with a | a
 ·rw [(List.mem_replicate.1 a).2];exact QB_zero.le dc_
 rw [(List.mem_replicate.1 a).2];decide +kernel
theorem Ci {m:Nat}{a:Nat->Rat}(h:n<=m):(((List.range m).map a).map qtx).take n=((List.range n).map a).map qtx:=by
 rw [<- RP,<- RP,List.take_range,QD h]
theorem I3 (C:Mem)(e:Tabs C)(f:Value)(B:Bk)(y:List Rat)(b:Nat->List RowQ)(c:BookIn C f B)(h:Calm B y b)(z:bp B<=6)(A:bs B<=2)(V:∀ es,EdgL B.tris es->bs B*bp B+bs B*es.length<=12) :
  Pur cx.P 42 [f] C fun u D=>∃ es,EdgL B.tris es/\FlatO B b es D u:=by
 have E:=c;have F:=h.rich.good;have H:=h.rich.bookz e c;have W:=h.cnt (eo B.obs.length);have az:=h.n12;have X:∀ D:Mem,C.le D->Gives cx.P 92 [f] D (.tuple #[.int .i64 (bs B*bp B:Nat),.int .i64 0]):=fun D Y=>by
  have h:=yM D f B 0 (H.mono Y) om_;rw [aL rfl] at h;exact h
 obtain ⟨v1,v2,tv,cv,ov,rfl,h1,h2,h3,h4,h5⟩:=id c.ex;have aA:maxLen<=9223372036854775807:=by simp [maxLen]
 refine Tk func42 59 U3 fun w0=>Tf fun R a=>Tv U6 fun b1=>Tq U5 fun b2=>C6 1 [1,2] a Z<|G.freeze 1 Z fun _ _ o=>Tf fun R a=>Td (bkT o 5) U8<|TM (H9 _ e.m_ _ B y b E.m_ h z A) U7 (fun aB _ _ aa=>?_);obtain ⟨es,x,rfl,d,A1,n1,c1,A2,n2,c2,rfl,ab,ac⟩:=aa;have ad:=V es d;have ae:=NP (es:=es) h.rl;have I:=NQ (s:=bs B) (p:=bp B) (es:=es) (h.rowI (eo B.obs.length));obtain ⟨af,_⟩:=d.le F.ok.ins z;have aC:bs B*es.length<=30:=Q1 A af;have ai:(ya (eg B b) (bs B*bp B) (bp B) es (bs B*es.length)).length<=150:=by
  rw [Ia];have:(eg B b).length<=120:=W;omega
 have aj:=d.ok (n:=bp B) F.ok.ins (bs B);refine Tg 3 Z<|Tq U5 fun b4=>Tj (j:=0) U12<|C6 1 [1,2,4,5] a Z<|Tb 2 [1,2,4,5,15] Z<|G.cd (fun J=>?_) fun J=>?_
 ·exact absurd J dc_
 refine G.freeze 0 Z fun _ _ ak=>Tf fun R a=>Td (bkT ak 3) U8<|TG (EW _ e.m_ (bs B*bp B+bs B*es.length) _ _ (eQ (ya (eg B b) (bs B*bp B) (bp B) es (bs B*es.length))) (mC (bs B*bp B) (bs B*es.length)) ab.m_ ac.m_ (NL I ae ai) (Ly _ _) (tt I) om_ (zY _ _) (Lw ad (h.rowI (eo B.obs.length)))) U7 fl_ (fun aD _ _ al=>?_);obtain ⟨rr,rfl,an⟩:=al;obtain ⟨kd,val,Ap,K,g,L,nd,cd,Ar,nr,cr,rfl,M⟩:=BX an;refine Tg 3 Z<|Tq U5 fun b6=>Tj (j:=0) U12<|C6 1 [1,2,5,6] a Z<|G.freeze 0 Z fun _ _ i=>Tb 2 [1,2,5,6,24] Z<|G.cd (fun N=>?_) fun N=>?_
 ·exact absurd N dc_
 refine Tc 1 Z fun R a=>Td (bkT i 1) U8<|C6 1 [1,2,6,29] a Z<|G.cd (fun q=>?_) fun q=>?_
 ·have r:kd≠1:=by simpa using q
  have ao:¬ (M9 B b es).Hold:=by
   rcases M with ⟨h,_⟩ | ⟨_,h | ⟨pt,ra,hu⟩⟩
   ·exact absurd h r
   ·exact h
   exact (Lv aj h.rl hu).elim
  refine Tf fun R a=>Tw ([.slice none 0 0,ah [],.slice none 0 0]) U8<|Tj (j:=0) U12<|C6 1 [2,3] a Z<|Tn (Uy ag U5 ?_);exact ⟨Z,es,d,.inf ao⟩
 have r:kd=1:=by simpa using q
 obtain ⟨v,pt,du,rfl,t,rfl,w,ar⟩:∃ v pt du,val=qtx v/\Lp.OptR (M9 B b es) (objR B es) 20 v pt du/\K=bs B*bp B+bs B*es.length/\Sl _ 1 (.slice Ap K g) (((List.range (bs B*bp B+bs B*es.length)).map pt).map aQ)/\Sl _ 1 (.slice L nd cd) (((List.range (M9 B b es).m).map du).map aQ):=by
  rcases M with ⟨_,h⟩ | ⟨h,_⟩
  ·exact h
  exact absurd r h
 have O:=wC (s:=bs B) (p:=bp B) t.qp;have au:bs B*bp B<=bs B*bp B+bs B*es.length:=Nat.le_add_right _ _;rw [Ge] at w;have aE:bs B*bp B+bs B*es.length<=g:=by
  obtain ⟨A',c',Q,av,_⟩:=id w;simp only [Value.slice.injEq] at Q;obtain ⟨_,aF,aG⟩:=Q;simp only [am,QS] at av;omega
 have S:=w.sub (l:=0) (h:=bs B*bp B) (m:=g) (PG _) ap om_ (Py _);rw [QO,<- RP,Ci au] at S;refine Tf fun R a=>Td (bkT o 5) U8<|To (X _ mup) U7<|C6 5 [1,2,5,6,7] a Z<|Tb 2 [1,2,5,6,7,37] Z<|G.cd (fun T=>?_) fun T=>?_
 ·exact absurd T dc_
 refine Tx [0,1,2,3,4,5,6,7,8,9,10] [] Z kr_ fun R c a=>Td (bkT o 5) U8<|Te U6<|Td (bkT i 1) U8<|Te U6<|Ud 0 (bs B*bp B) g U12 (fun _=>⟨.inl ⟨Z,Z⟩,.inr ⟨_,Z⟩,.inl ⟨Z,Z⟩,by omega,by omega,Py _⟩) U2<|TG (wE _ e.m_ _ _ B (((List.range (bs B*bp B)).map pt).map qtx) E.m_ H.m_ om_ S.m_ (vR t.qp) aq) U7 fl_ (fun aH _ _ aw=>?_);obtain ⟨fv,rfl,k⟩:=aw;rw [O,aL rfl] at k;rw [O];obtain ⟨ax,aI,aJ,ay⟩:=id k;obtain ⟨Af,cf,rfl,_⟩:=id ay;rw [am] at k ⊢;refine Tg 5 Z<|Th [2,5,6,8] a Z ?_;clear a c R;refine Tb 2 [2,5,6,8,50] Z<|G.cd (fun U=>?_) fun U=>?_
 ·exact absurd U dc_
 refine Tc 2 Z fun R a=>Td (bkT i 1) U8<|Te U6<|Td (bkT i 1) U8<|Tw [.slice Af ax.length cf,ah (qtx v),.slice L nd cd] U8<|Tj (j:=0) U12<|C6 1 [2,3] a Z<|Tn (Uy ag U5 ?_);exact ⟨Z,es,d,.opt v pt du _ _ t k.m_ ar.m_⟩
theorem gE (C:Mem)(a x y d:Str):Gives cx.P 56 [ah a,ah x,ah y,ah d] C (.agg ⟨[.int .i64 2,ah a,ah x,ah y,ah d,ah [66],ah [65],ah [],ah [],ah []]⟩):=by
 refine Tk func56 15 U3 fun w0=>Tf fun R b=>Tq U5 fun c=>Th [0,1,2,3,8] b Z<|Tc 3 Z fun R b=>Tw [ah x,ah y] U8<|Te U6<|Tw [.int .i64 2,ah a,ah x,ah y,ah d,ah [66],ah [65],ah [],ah [],ah []] U8<|Tj (j:=0) U12<|Th [8] b Z<|Tn (TY ag U4 ?_);exact ⟨Z,Z⟩
theorem OS (l:List Nat):(xB l).pts.map cY=[[ah [48],ah [48]],[ah [54],ah [48]],[ah [48],ah [52]]]:=by
 show [[ah (qtx 0),ah (qtx 0)],[ah (qtx 6),ah (qtx 0)],[ah (qtx 0),ah (qtx 4)]]=_;rw [LK,Ii,Kh]
theorem OZ (l:List Nat):(xB l).col.map lQ=[[ah [65],ah [48],ah []],[ah [66],ah [48],ah []]]:=by
 show [[ah [65],ah (qtx 0),ah []],[ah [66],ah (qtx 0),ah []]]=_;rw [LK]
theorem kG (C:Mem)(b:Value)(l:List Nat)(c:Sl C 10 b ((l.map xO).map lP)):Pur cx.P 55 [b] C fun u D=>BookIn D u (xB l):=by
 obtain ⟨f,c0,rfl,_⟩:=id c;refine Tk func55 20 U3 fun w0=>Tf fun R a=>Tq U5 fun b2=>Th [0,2] a Z<|Tf fun R a=>Tw [ah [48],ah [48]] U8<|Tw [ah [54],ah [48]] U8<|Tw [ah [48],ah [52]] U8<|Ub [[ah [48],ah [48]],[ah [54],ah [48]],[ah [48],ah [52]]] U12 fl_ fun d _ _ g=>Tw [.int .i64 0,.int .i64 1,.int .i64 2] U8<|Ub [[.int .i64 0,.int .i64 1,.int .i64 2]] U12 fl_ fun e _ _ h=>Tw [.slice (some ⟨d,0,none⟩) 3 3,.slice (some ⟨e,0,none⟩) 1 1] U8<|Tq U5 fun p=>Tj (j:=0) U12<|Th [0,2,3] a Z<|Tf fun R a=>Tw [ah [65],ah [48],ah []] U8<|Tw [ah [66],ah [48],ah []] U8<|Ub [[ah [65],ah [48],ah []],[ah [66],ah [48],ah []]] U12 fl_ fun i _ _ k=>C6 1 [0,2,3,4] a Z<|G.freeze 0 Z fun _ _ m=>Tf fun R a=>Td (bkT m 2) U8<|Ub [[ah [49,48]],[ah [49,48]],[ah [49,48]]] U12 fl_ fun n _ _ o=>Tg 2 Z<|Tw [.slice (some ⟨d,0,none⟩) 3 3,.slice (some ⟨e,0,none⟩) 1 1,.slice (some ⟨n,0,none⟩) 3 3,.slice (some ⟨i,0,none⟩) 2 2,.slice f ((l.map xO).map lP).length c0] U8<|Tj (j:=0) U12<|Th [2] a Z<|Tn (TY ag U4 ?_);exact ⟨Z,_,_,_,_,_,Z,by rw [OS];exact g.mono mup,h.mono mup,o.mono mup,by rw [OZ];exact k.mono mup,c.mono mup⟩
def xC:List Rat:=xA 3 0 (0,1,2) (wgt (xB []).pts (0,1,2) (3,0)) 3
theorem xC_e:sgL xC 0=[1/2,1/2,0]/\sgL xC 1=[-1/2, -1/2,0]:=by decide +kernel
theorem OX:∀ k,k<2->Lp.Lim (ci 3 (eQ (xR 0))) (fun j=>(sgL xC k).getD j 0) 20:=fun k a=>by
 have b:∀ k<2,∀ j<3,wlB 2 ((sgL xC k).getD j 0)=true:=by decide +kernel
 exact tV dc_ (JW 0 dc_) ⟨2,by decide,by decide,fun j c=>DM (b k a j c)⟩
theorem KW (h:KP (ci 3 (eQ (xR 0))) xC u):u=.tuple #[ah [54],ah [54],.int .i64 0]:=by
 obtain ⟨e,f,g,i,_,h1,h2,h3⟩:=h;rw [xC_e.1] at h1;rw [xC_e.2] at h2;obtain ⟨a,c⟩:=h1.same OW;obtain ⟨b,d⟩:=(h2 om_).same Nn;rcases h3 with ⟨h3,_⟩ | ⟨_,rfl⟩
 ·omega
 unfold DB nH;rw [aL a,aL b,c a,d b,show (1:Rat)*6=6 by decide +kernel,show (-1:Rat) * -6=6 by decide +kernel,Ii]
theorem KZ {D:Mem}(h:BuiO (xB [0,1]) (xRO [0,1]) D u):∃ (A:Option Addr)(n c:Nat),u=.tuple #[.slice none 0 0,.agg ⟨[.slice A n c]⟩,.bool false,.int .i64 0]:=by
 cases h with
 | yes pt v h1 h2 h3 h4 =>
  unfold D4 at h1;rw [NN] at h1;exact absurd ⟨pt,h1⟩ x_no
 | no du a h1 h2 =>
  obtain ⟨A,c,rfl,_⟩:=id h2;exact ⟨_,_,_,Z⟩
theorem KX {D:Mem}(b:EdgL (xB [2,3]).tris es)(h:FlatO (xB [2,3]) (xRO [2,3]) es D u):∃ (A:Option Addr)(n c:Nat)(A2:Option Addr)(n2 c2:Nat),u=.tuple #[.agg ⟨[.slice A n c,ah [54],.slice A2 n2 c2]⟩,.int .i64 0]:=by
 obtain rfl:=b.same Oq;have a:=Np;rw [<- NM] at a;cases h with
 | opt v pt du f g h1 h2 h3 =>
  obtain ⟨vs,_,_,d⟩:=h2;obtain ⟨A,c,rfl,_⟩:=id d;obtain ⟨A2,c2,rfl,_⟩:=id h3;have e:=(h1.val.same a).2 rfl;exact ⟨_,_,_,_,_,_,by rw [e,Ii]⟩
 | inf h1 =>
  obtain ⟨_,⟨y,hy,_⟩,_⟩ | ⟨h,_⟩ | ⟨h,_⟩:=a
  ·exact absurd ⟨y,hy⟩ h1
  ·cases h
  cases h
theorem kL:lP (xO 0)=[.int .i64 2,ah [97],ah [51],ah [48],ah [52],ah [66],ah [65],ah [],ah [],ah []]/\lP (xO 1)=[.int .i64 2,ah [98],ah [51],ah [48],ah [53],ah [66],ah [65],ah [],ah [],ah []] /\
  lP (xO 2)=[.int .i64 2,ah [97],ah [48],ah [48],ah [52],ah [66],ah [65],ah [],ah [],ah []]/\lP (xO 3)=[.int .i64 2,ah [98],ah [54],ah [48],ah [49],ah [66],ah [65],ah [],ah [],ah []]:=by
 rw [Hm,Hm,Hm,Hm];exact ⟨Z,Z,Z,Z⟩
theorem OR:(.agg ⟨[ah [51],ah [48]]⟩:Value)=ptV (3,0):=by
 show _=Value.agg ⟨[ah (qtx 3),ah (qtx 0)]⟩;rw [EK,LK]
theorem FN (C:Mem)(b:Tabs C):Gives cx.P 11 [] C (.bool true):=by
 have c:=fun (D:Mem)(d:C.le D)(bv:Value)(e:BookIn D bv (xB [0]))=>FU D (b.mono d) bv (xB [0]) xFs (xRO [0]) 0 (3,0) 0 [] (0,1,2) [49,48] e (xz ok0) dc_ (JX 0 dc_).2.2.2.2 ⟨bC (JX 0 dc_).2.1,bC (JX 0 dc_).2.2.1⟩ (Ht 0 dc_) rfl (x_w 0 dc_)
  (by rw [<- NY];exact Nj 0 dc_) (fun k f=>by
   have:=OX k f;rw [<- rows0] at this;exact this)
 have g:∀ es,EdgL (xB [2,3]).tris es->bs (xB [2,3])*bp (xB [2,3])+bs (xB [2,3])*es.length<=12:=fun es h=>by
  obtain rfl:=h.same Oq;decide
 refine Tk func11 64 U3 fun w0=>Tc 1 Z fun R a=>Ui [] trivial (a _ _ _ Z ?_);refine Tf fun R a=>To (gE _ [97] [51] [48] [52]) U7<|Ub [[.int .i64 2,ah [97],ah [51],ah [48],ah [52],ah [66],ah [65],ah [],ah [],ah []]] U12 fl_ fun w _ _ i=>TG (kG _ _ [0] (by show Sl _ 10 _ [lP (xO 0)];rw [kL.1];exact i.mono mup)) U7 fl_ fun x _ _ l=>Tw [ah [51],ah [48]] U8 ?_;rw [OR];refine TM (c _ mup _ l.m_) U7 (fun y _ _ m=>?_);obtain rfl:=KW (by have:=m;unfold D4 at this;rw [rows0] at this;exact this);refine C6 7 [1,2,3] a Z<|Tf fun R a=>To (gE _ [97] [51] [48] [52]) U7<|To (gE _ [98] [51] [48] [53]) U7<|Ub [[.int .i64 2,ah [97],ah [51],ah [48],ah [52],ah [66],ah [65],ah [],ah [],ah []],[.int .i64 2,ah [98],ah [51],ah [48],ah [53],ah [66],ah [65],ah [],ah [],ah []]] U12 fl_ fun z _ _ n=>TG (kG _ _ [0,1] (by show Sl _ 10 _ [lP (xO 0),lP (xO 1)];rw [kL.1,kL.2.1];exact n.mono mup)) U7 fl_ fun A _ _ o=>TM (F0 _ b.m_ _ (xB [0,1]) xFs (xRO [0,1]) o.m_ (xz ok01)) U7 (fun B _ _ p=>?_);obtain ⟨E,nb,F,rfl⟩:=KZ p;refine Tg 5 Z<|Tq U5 fun H=>Te U6<|Tj (j:=0) U12<|C6 2 [1,2,3,6,7] a Z<|Tf fun R a=>To (gE _ [97] [48] [48] [52]) U7<|To (gE _ [98] [54] [48] [49]) U7<|Ub [[.int .i64 2,ah [97],ah [48],ah [48],ah [52],ah [66],ah [65],ah [],ah [],ah []],[.int .i64 2,ah [98],ah [54],ah [48],ah [49],ah [66],ah [65],ah [],ah [],ah []]] U12 fl_ fun I _ _ q=>TG (kG _ _ [2,3] (by show Sl _ 10 _ [lP (xO 2),lP (xO 3)];rw [kL.2.2.1,kL.2.2.2];exact q.mono mup)) U7 fl_ fun J _ _ r=>TG (I3 _ b.m_ _ (xB [2,3]) xFs (xRO [2,3]) r.m_ (xz ok23) dc_ dc_ g) U7 fl_ (fun K _ _ s=>?_);obtain ⟨es,t,u⟩:=s;obtain ⟨L,M,N,O,Q,S,rfl⟩:=KX t u;exact Tg 3 Z<|Tq U5 fun T=>Tj (j:=0) U12<|C6 1 [1,2,3,6,7,8,9] a Z<|G.freeze 0 Z fun _ _ v=>Tc 5 Z fun R a=>TB U8<|Tg 3 Z<|TB U8<|Tg 3 Z<|TB U8<|Tg 3 Z<|TB U8<|Tg 3 Z<|TB U8<|Tg 2 Z<|TF U6 (fun _=>PtrTo.blockT (Mem.get v mup) _ 1) U3<|Te U6<|TB U8<|C6 1 [0] a Z<|Tl U2<|⟨Z,Z⟩
end Go.Proofs.YtfjcldheldflbaaGreatDoor
