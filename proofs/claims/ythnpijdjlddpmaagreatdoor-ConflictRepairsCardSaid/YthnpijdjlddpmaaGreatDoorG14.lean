/- Laws that the proofs of this seat share, part 14. -/
import Derived.Test.YthnpijdjlddpmaaGreatDoorG13
import Derived.Test.YthnpijdjlddpmaaGreatDoorShelf
set_option maxHeartbeats 4000000
namespace Go.Proofs.YthnpijdjlddpmaaGreatDoor
open Go.Proofs.Tryz
open Go Go.Jog
set_option maxRecDepth 100000
variable {C:Mem}{k:Nat}{l:List Nat}{outs:List (List Nat)}{p:Nat->Bool}{q:Rat}{v:Value}{vs:List Value}
def pO1:Obs:=⟨2,[120],qtx 1,qtx 0,[49],[66],[65],[],[],[]⟩
def pO2:Obs:=⟨2,[121],qtx 1,qtx 0,[50],[66],[65],[],[],[]⟩
def pB:Bk:=⟨[(0,0),(2,0),(0,2)],[(0,1,2)],[[57],[57],[57]],[⟨[65],0,none⟩,⟨[66],0,none⟩],[pO1,pO2]⟩
theorem zQ (C:Mem)(b:Tabs C)(x y:Int)(c:x.natAbs<1000000000)(d:y.natAbs<1000000000):Gives cx.P 19 [.int .i64 x,.int .i64 y] C (ptV (((x:Int):Rat),((y:Int):Rat))):=by
 refine Ud func19 10 U3 fun w0=>TY fun R a=>Uo U5 fun e=>TZ [0,1,4] a Z<|TU 1 Z fun R a=>Uk (ld _ b.m_ x om_) U7 fl_<|TX U6<|Uk (ld _ b.m_ y om_) U7 fl_<|Un [ah (qtx x),ah (qtx y)] U8<|Uf (j:=0) U12<|TZ [4] a Z<|Ui (UN af U4 ?_);exact ⟨Z,Z⟩
def nJ (nm d:Str):List Value:=[.int .i64 2,ah nm,ah (qtx ((1:Int):Rat)),ah (qtx ((0:Int):Rat)),ah d,ah [66],ah [65],ah [],ah [],ah []]
theorem K6 (C:Mem)(c:Tabs C)(a d:Str):Gives cx.P 44 [ah a,ah d] C (.agg ⟨nJ a d⟩):=by
 refine Ud func44 9 U3 fun w0=>TY fun R b=>Uo U5 fun e=>TZ [0,1,4] b Z<|TU 1 Z fun R b=>Uk (zQ _ c.m_ 1 0 dc_ dc_) U7 fl_<|TX U6<|Un (nJ a d) U8<|Uf (j:=0) U12<|TZ [4] b Z<|Ui (UN af U4 ?_);exact ⟨Z,Z⟩
theorem De:pB.col.map yS=[[ah [65],ah [48],ah []],[ah [66],ah [48],ah []]]:=by
 show [[ah [65],ah (qtx 0),ah []],[ah [66],ah (qtx 0),ah []]]=_;rw [Pr]
theorem MM (C:Mem)(o:Tabs C):Pur cx.P 18 [] C fun u D=>BookIn D u pB:=by
 refine Ud func18 21 U3 fun w0=>TY fun R a=>Uo U5 fun y=>TZ [0] a Z<|TY fun R a=>Uk (zQ _ o.m_ 0 0 dc_ dc_) U7 fl_<|Uk (zQ _ o.m_ 2 0 dc_ dc_) U7 fl_<|Uk (zQ _ o.m_ 0 2 dc_ dc_) U7 fl_<|UH [gl (((0:Int):Rat),((0:Int):Rat)),gl (((2:Int):Rat),((0:Int):Rat)),gl (((0:Int):Rat),((2:Int):Rat))] U12 fl_ fun i _ _ m=>Un ([.int .i64 0,.int .i64 1,.int .i64 2]) U8<|UH [[.int .i64 0,.int .i64 1,.int .i64 2]] U12 fl_ fun k _ _ n=>Un [.slice (some ⟨i,0,none⟩) 3 3,.slice (some ⟨k,0,none⟩) 1 1] U8<|Uo U5 fun H=>Uf (j:=0) U12<|TZ [0,1] a Z<|TT 1 [0,1,2] Z<|G.freeze 0 Z fun _ _ z=>G.cut (fun fr C' A B=>∃ (s t v w x:Value),(BookIn C' (.agg ⟨[s,t,v,w,x]⟩) pB)/\fr=[(0,[],.pointer (some ⟨y,0,none⟩))]/\A=[.obj y (.cells ⟨[s,t,v,w,x]⟩ 42 (0,0))]) ?_ (fun fr I J B K E=>?_)
 ·refine UP (.cut [0,2,3,5,6,7,8] (.alt 1 (.cut [] (.alt 4 (.fin [9,10,11]) (.alt 9 (.fin [4,10,11]) .stop))) (.alt 4 (.cut [] (.alt 1 (.fin [9,10,11]) (.alt 9 (.fin [1,10,11]) .stop))) (.alt 9 (.cut [] (.alt 1 (.fin [4,10,11]) (.alt 4 (.fin [1,10,11]) .stop))) .stop)))) [(6,1),(8,1),(0,0)] Z Z kr_ fun R l a b=>U0 (fun _=>((bkT z 2).mono l)) U9<|Un ([ah [65],ah [48],ah []]) U8<|Un ([ah [66],ah [48],ah []]) U8<|TX U6<|UC (fun _=>(K6 _ o.m_ [120] [49])) U9<|TX U6<|UC (fun _=>(K6 _ o.m_ [121] [50])) U9<|UE b Z ⟨?_, ?_, ?_,trivial⟩
  ·refine UH [[ah [57]],[ah [57]],[ah [57]]] U12 fl_ fun c p _ d=>UE b Z ⟨?_, ?_,trivial⟩
   ·refine UH [[ah [65],ah [48],ah []],[ah [66],ah [48],ah []]] U12 fl_ fun e q _ f=>UH [nJ [120] [49],nJ [121] [50]] U12 fl_ fun g r _ h=>Un [.slice (some ⟨i,0,none⟩) 3 3,.slice (some ⟨k,0,none⟩) 1 1,.slice (some ⟨c,0,none⟩) 3 3,.slice (some ⟨e,0,none⟩) 2 2,.slice (some ⟨g,0,none⟩) 2 2] U8<|Uf (j:=0) U12<|TZ [0] a Z ?_;clear a l b R;exact Uj 0 mup (hn_ [0] Z) ⟨_,_,_,_,_,⟨_,_,_,_,_,Z,m.mono mup,n.mono mup,d.mono mup,(by rw [De];exact f.mono mup),h.mono mup⟩,Z,Z⟩
   refine UH [nJ [120] [49],nJ [121] [50]] U12 fl_ fun g r _ h=>UH [[ah [65],ah [48],ah []],[ah [66],ah [48],ah []]] U12 fl_ fun e q _ f=>Un [.slice (some ⟨i,0,none⟩) 3 3,.slice (some ⟨k,0,none⟩) 1 1,.slice (some ⟨c,0,none⟩) 3 3,.slice (some ⟨e,0,none⟩) 2 2,.slice (some ⟨g,0,none⟩) 2 2] U8<|Uf (j:=0) U12<|TZ [0] a Z ?_;clear a l b R;exact Uj 0 mup (hn_ [0] Z) ⟨_,_,_,_,_,⟨_,_,_,_,_,Z,m.mono mup,n.mono mup,d.mono mup,(by rw [De];exact f.mono mup),h.mono mup⟩,Z,Z⟩
  ·refine UH [[ah [65],ah [48],ah []],[ah [66],ah [48],ah []]] U12 fl_ fun e q _ f=>UE b Z ⟨?_, ?_,trivial⟩
   ·refine UH [[ah [57]],[ah [57]],[ah [57]]] U12 fl_ fun c p _ d=>UH [nJ [120] [49],nJ [121] [50]] U12 fl_ fun g r _ h=>Un [.slice (some ⟨i,0,none⟩) 3 3,.slice (some ⟨k,0,none⟩) 1 1,.slice (some ⟨c,0,none⟩) 3 3,.slice (some ⟨e,0,none⟩) 2 2,.slice (some ⟨g,0,none⟩) 2 2] U8<|Uf (j:=0) U12<|TZ [0] a Z ?_;clear a l b R;exact Uj 0 mup (hn_ [0] Z) ⟨_,_,_,_,_,⟨_,_,_,_,_,Z,m.mono mup,n.mono mup,d.mono mup,(by rw [De];exact f.mono mup),h.mono mup⟩,Z,Z⟩
   refine UH [nJ [120] [49],nJ [121] [50]] U12 fl_ fun g r _ h=>UH [[ah [57]],[ah [57]],[ah [57]]] U12 fl_ fun c p _ d=>Un [.slice (some ⟨i,0,none⟩) 3 3,.slice (some ⟨k,0,none⟩) 1 1,.slice (some ⟨c,0,none⟩) 3 3,.slice (some ⟨e,0,none⟩) 2 2,.slice (some ⟨g,0,none⟩) 2 2] U8<|Uf (j:=0) U12<|TZ [0] a Z ?_;clear a l b R;exact Uj 0 mup (hn_ [0] Z) ⟨_,_,_,_,_,⟨_,_,_,_,_,Z,m.mono mup,n.mono mup,d.mono mup,(by rw [De];exact f.mono mup),h.mono mup⟩,Z,Z⟩
  refine UH [nJ [120] [49],nJ [121] [50]] U12 fl_ fun g r _ h=>UE b Z ⟨?_, ?_,trivial⟩
  ·refine UH [[ah [57]],[ah [57]],[ah [57]]] U12 fl_ fun c p _ d=>UH [[ah [65],ah [48],ah []],[ah [66],ah [48],ah []]] U12 fl_ fun e q _ f=>Un [.slice (some ⟨i,0,none⟩) 3 3,.slice (some ⟨k,0,none⟩) 1 1,.slice (some ⟨c,0,none⟩) 3 3,.slice (some ⟨e,0,none⟩) 2 2,.slice (some ⟨g,0,none⟩) 2 2] U8<|Uf (j:=0) U12<|TZ [0] a Z ?_;clear a l b R;exact Uj 0 mup (hn_ [0] Z) ⟨_,_,_,_,_,⟨_,_,_,_,_,Z,m.mono mup,n.mono mup,d.mono mup,(by rw [De];exact f.mono mup),h.mono mup⟩,Z,Z⟩
  refine UH [[ah [65],ah [48],ah []],[ah [66],ah [48],ah []]] U12 fl_ fun e q _ f=>UH [[ah [57]],[ah [57]],[ah [57]]] U12 fl_ fun c p _ d=>Un [.slice (some ⟨i,0,none⟩) 3 3,.slice (some ⟨k,0,none⟩) 1 1,.slice (some ⟨c,0,none⟩) 3 3,.slice (some ⟨e,0,none⟩) 2 2,.slice (some ⟨g,0,none⟩) 2 2] U8<|Uf (j:=0) U12<|TZ [0] a Z ?_;clear a l b R;exact Uj 0 mup (hn_ [0] Z) ⟨_,_,_,_,_,⟨_,_,_,_,_,Z,m.mono mup,n.mono mup,d.mono mup,(by rw [De];exact f.mono mup),h.mono mup⟩,Z,Z⟩
 obtain ⟨s,t,v,w,x,F,rfl,rfl⟩:=E;refine Ui (UN af U4 ?_);exact ⟨Z,F⟩
theorem Mw (h:q.den=1):q=(q.num:Rat):=Rat.ext rfl h
def wlB (D:Int)(q:Rat):Bool:=decide ((q*(D:Rat)).den=1) && decide ((q*(D:Rat)).num.natAbs<=999999999)
theorem KX {D:Int}(h:wlB D q=true):Wl D q:=by
 unfold wlB at h;simp only [Qn,Qj] at h;exact ⟨_,Mw h.1,h.2⟩
theorem I3 {r:RowQ}(D:Int)(a:D≠0)(c:D.natAbs<=999999999)(h:(r.f.all (wlB D) && wlB D r.b)=true):RowI r:=by
 simp only [Qn,Qv] at h;exact ⟨D,a,c,fun q d=>KX (h.1 q d),KX h.2⟩
theorem tQ:qtx 1=[49]:=tR (z:=1) aq
theorem I9:qtx 9=[57]:=tR (z:=9) aq
theorem ro1:dw [49]=1:=yn 1 tQ aq
theorem PI:dw [50]=2:=yn 2 Mx aq
theorem rb:pO1=⟨2,[120],[49],[48],[49],[66],[65],[],[],[]⟩:=by rw [pO1,tQ,qtx_zero]
theorem qZ:pO2=⟨2,[121],[49],[48],[50],[66],[65],[],[],[]⟩:=by rw [pO2,tQ,qtx_zero]
theorem OJ:Good pB.pts pB.tris:=(GR aq dc_ dc_ dc_).1
theorem FS:lM pB.pts pB.tris (1,0)=[0]:=by decide +kernel
theorem PN:ptO pO1=(1,0):=by rw [rb];unfold ptO;rw [ro1,ro0]
theorem PM:ptO pO2=(1,0):=by rw [qZ];unfold ptO;rw [ro1,ro0]
theorem PL:dO pO1=0:=by rw [rb];decide +kernel
theorem PK:dO pO2=0:=by rw [qZ];decide +kernel
theorem PP:gw pB.pts pB.tris pB.col pO1=0:=by
 unfold gw;rw [az (by rw [PL];decide),az (by unfold Ib;rw [PN,FS];decide),az (by rw [rb];decide +kernel),az (by rw [rb];decide +kernel),az (by rw [rb];unfold Ki;rw [ro1];decide +kernel),az (by rw [rb];decide +kernel)]
theorem PO:gw pB.pts pB.tris pB.col pO2=0:=by
 unfold gw;rw [az (by rw [PK];decide),az (by unfold Ib;rw [PM,FS];decide),az (by rw [qZ];decide +kernel),az (by rw [qZ];decide +kernel),az (by rw [qZ];unfold Ki;rw [PI];decide +kernel),az (by rw [qZ];decide +kernel)]
def pFs:List Rat:=[9,9,9]
theorem OG:Terr pB pFs:=⟨by simp [pB,pFs,I9],rfl,by decide +kernel⟩
theorem p_on:onQ pB.pts pFs (0,1,2) (1,0)=9:=by decide +kernel
theorem OF:Ez pB.pts pB.tris pFs (1,0)=.tuple #[ah (qtx 9),.int .i64 0]:=by
 unfold Ez;rw [FS];show Dj (onQ pB.pts pFs (0,1,2) (1,0))=_;rw [p_on];unfold Dj;rw [aU (bO aq)]
theorem p_w:∀ j,QB 22 (wgt pB.pts (0,1,2) (1,0) j):=by
 intro j;rw [LQ];rcases (by omega:j % 3=0∨j % 3=1∨j % 3=2) with h | h | h <;> rw [h] <;> decide +kernel
theorem p_sl:∀ j,QP 22 (slf pB.pts (0,1,2) j):=by
 intro j;unfold slf;rw [Is];rcases (by omega:min j 2=0∨min j 2=1∨min j 2=2) with h | h | h <;> rw [h] <;> decide +kernel
def pR (z:Rat):List RowQ:=[⟨[1/2,1/2,0],z⟩,⟨[-1/2, -1/2,0], -z⟩]
theorem p_rows1:rowsO pB pO1 (1,0) (0,1,2) 9=pR 8:=by
 unfold rowsO kw;rw [rb,ro1];decide +kernel
theorem p_rows2:rowsO pB pO2 (1,0) (0,1,2) 9=pR 7:=by
 unfold rowsO kw;rw [qZ,PI];decide +kernel
theorem PQ:∀ o∈pB.obs,ObsR o:=by
 intro o a;simp only [pB,Qp,Rb,SA] at a;rcases a with rfl | rfl
 ·rw [rb];exact ⟨by decide,by decide,by decide,by decide,by decide,by decide,by decide,by decide,by decide⟩
 rw [qZ];exact ⟨by decide,by decide,by decide,by decide,by decide,by decide,by decide,by decide,by decide⟩
theorem p_br:BookR pB:=by
 refine ⟨by decide, ?_,by decide,PQ⟩;intro x a;simp only [pB,Qp,Rb,SA] at a;rcases a with rfl | rfl
 ·exact ⟨by decide +kernel,fun q h=>by simp at h,by decide⟩
 exact ⟨by decide +kernel,fun q h=>by simp at h,by decide⟩
theorem p_bz:iu pB=0:=by
 have h1:qR pB 1=0:=by
  have h0:qR pB 0=0:=rfl;show (if qR pB 0≠0 then qR pB 0 else obZ pB (pB.obs.take 0) (pB.obs.getD 0 Jz))=0;rw [az (by rw [h0];decide)];show obZ pB [] pO1=0;unfold obZ;rw [az (by rw [PP];decide),az dc_]
 have h2:qR pB 2=0:=by
  show (if qR pB 1≠0 then qR pB 1 else obZ pB (pB.obs.take 1) (pB.obs.getD 1 Jz))=0;rw [az (by rw [h1];decide)];show obZ pB [pO1] pO2=0;unfold obZ;rw [az (by rw [PO];decide),az dc_]
 unfold iu;rw [az aq,az aq,az dc_];exact h2
def pRO (i:Nat):List RowQ:=if i=0 then pR 8 else pR 7
theorem MP:Fine pB pFs pO1 (1,0) 0 (0,1,2) 9 :=
 ⟨⟨rfl,rfl,by decide +kernel,⟨bO aq,bO aq⟩,fun _=>by decide +kernel⟩,⟨[],FS⟩,rfl,OF,by decide +kernel,by unfold kw;rw [rb,ro1];decide +kernel,p_w,by rw [rb];decide +kernel,p_sl,fun _ h=>absurd rfl h,by
  rw [p_rows1];unfold NY;decide +kernel⟩
theorem MO:Fine pB pFs pO2 (1,0) 0 (0,1,2) 9 :=
 ⟨⟨rfl,rfl,by decide +kernel,⟨bO aq,bO aq⟩,fun _=>by decide +kernel⟩,⟨[],FS⟩,rfl,OF,by decide +kernel,by unfold kw;rw [qZ,PI];decide +kernel,p_w,by rw [qZ];decide +kernel,p_sl,fun _ h=>absurd rfl h,by
  rw [p_rows2];unfold NY;decide +kernel⟩
theorem OH:Rich pB pFs pRO:=by
 refine ⟨OJ,p_br,p_bz,OG,by decide,fun i o a=>?_⟩;rcases (by have h:=(aF.1 a).1;have h2:pB.obs.length=2:=rfl;omega:i=0∨i=1) with rfl | rfl
 ·simp only [pB,List.getElem?_cons_zero,QM] at a;subst a;exact ⟨_,_,_,_,MP,p_rows1.symm⟩
 simp only [pB,RY,List.getElem?_cons_zero,QM] at a;subst a;exact ⟨_,_,_,_,MO,p_rows2.symm⟩
theorem pR_I:∀ r∈pR 8++pR 7,RowI r:=by
 intro r hr;simp only [pR,RU,R3,Qp,Rb,SA] at hr;rcases hr with rfl | rfl | rfl | rfl <;> exact I3 2 dc_ dc_ aq
theorem p_th:bH pB=[]:=rfl
theorem Bg:Calm pB pFs pRO:=by
 refine ⟨OH,by decide,fun r hr=>(by rw [p_th] at hr;cases hr),fun i _ r hr=>?_,by decide,fun i _=>?_,by decide⟩
 ·refine pR_I r ?_;unfold pRO at hr;split at hr
  ·exact RG _ hr
  exact R7 _ hr
 unfold pRO;split <;> decide
theorem FT (y:Rat)(h:∀ r∈eU pB pRO l,Lp.sumN (fun j=>r.f.getD j 0*y) 3<=r.b):jf pB pRO l=true:=JW (wU.2 ⟨fun _=>y,h⟩)
theorem ua :eU pB pRO l=l.flatMap pRO:=by rw [nR,p_th];rfl
theorem p_h0:jf pB pRO []=true:=FT 0 (by rw [ua];decide)
theorem p_h1:jf pB pRO [0]=true:=FT 8 (by rw [ua];decide +kernel)
theorem p_h2:jf pB pRO [1]=true:=FT 7 (by rw [ua];decide +kernel)
theorem p_h3:jf pB pRO [0,1]=false:=by
 refine GN fun h=>?_;obtain ⟨y,hy⟩:=wU.1 h;rw [ua] at hy;have h1:=hy ⟨[-1/2, -1/2,0], -8⟩ aq;have h2:=hy ⟨[1/2,1/2,0],7⟩ aq;have e:bs pB*bp pB=3:=rfl;rw [e] at h1 h2;simp only [Lp.sumN,aw,List.getElem?_cons_zero,RY,Rr] at h1 h2;grind
theorem p_hS:hS pB pRO 0=true/\hS pB pRO 1=true/\hS pB pRO 2=true/\hS pB pRO 3=false:=⟨p_h0,p_h1,p_h2,p_h3⟩
theorem Oo:bT 2=[0,1,2,3]:=by decide +kernel
theorem MQ:jm (hS pB pRO) (bT 2)=[3]:=by
 obtain ⟨h0,h1,h2,h3⟩:=p_hS;rw [Oo];simp only [jm,RT,List.foldl_nil,iG,h0,h1,h2,h3,List.any_nil,Bool.or_true,Bool.or_false,R5,Q2,Rq,R3]
theorem OI:(wh (hC pB pRO) (bT 2)).map ba=[[0],[1]]:=by
 obtain ⟨h0,h1,h2,h3⟩:=p_hS;have a:hC pB pRO 0=false:=h3;have b:hC pB pRO 1=true:=h2;have c:hC pB pRO 2=true:=h1;have d:hC pB pRO 3=true:=h0;rw [Oo];simp only [wh,RT,List.foldl_nil,mN,a,b,c,d];decide +kernel
theorem P7:AscIn 2 [0,1]:=⟨by decide,by decide⟩
theorem asc1:AscIn 2 [1]:=⟨by decide,by decide⟩
theorem Dg {D:Mem}{a b:Value}{p q:List Nat}(c:Sl D 1 a (p.map aN))(d:Sl D 1 b (q.map aN))(e:Sl D 1 v [[a],[b]]):OutsIn D v [p,q] :=
 ⟨[a,b],(OutL.nil D).snoc c |>.snoc d,e⟩
theorem yf {x:Nat}{D:Mem}{u:Value}(h:SmallO [x] D u):∃ v,u=.tuple #[v,.bool true,.int .i64 0]/\Sl D 1 v ((ba x).map aN):=by
 cases h with
 | none h=>cases h
 | some y v h1 h2 =>
  cases h1
  exact ⟨v,Z,h2⟩
theorem Gr (C:Mem)(b:Tabs C):Gives cx.P 11 [] C (.bool true):=by
 refine Ud func11 71 U3 fun w0=>TU 1 Z fun R a=>Vc [] trivial (a _ _ _ Z ?_);refine TY fun R a=>UF (MM _ b.m_) U7 (fun y _ _ c=>?_);obtain ⟨w1,z,A,B,D,rfl,g,h,i,k,l⟩:=id c.ex;obtain ⟨E,F,rfl,_⟩:=id g;obtain ⟨A2,c2,rfl,_⟩:=id h;obtain ⟨H,I,rfl,_⟩:=id i;obtain ⟨J,K,rfl,_⟩:=id k;obtain ⟨L,M,rfl,_⟩:=id l;refine Uo U5 fun N=>Uf (j:=0) U12<|TZ [1] a Z<|G.freeze 0 Z fun _ _ e=>TY fun R a=>TV (bkT e 5) U8<|Uq [[.int .i64 0],[.int .i64 1]] U12 fun O _ _ m=>Uh (Ch _ b.m_ _ _ pB pFs pRO [0,1] c.m_ Bg P7 m.m_) U7<|C4 5 [1,2,3] a Z<|TY fun R a=>TV (bkT e 5) U8<|Uq [[.int .i64 1]] U12 fun Q _ _ n=>Uh (Ch _ b.m_ _ _ pB pFs pRO [1] c.m_ Bg asc1 n.m_) U7<|C4 5 [1,2,3,4,5] a Z<|TY fun R a=>TV (bkT e 5) U8<|Uz (zp _ b.m_ _ pB pFs pRO c.m_ Bg dc_) U7 fl_ (fun S _ _ o=>?_);have p:=MQ ▸ o;obtain ⟨T,rfl,q⟩:=yf p;refine C4 7 [1,2,3,4,5,6,7,8] a Z<|TY fun R a=>TV (bkT e 5) U8<|Uz (sU _ b.m_ _ pB pFs pRO c.m_ Bg dc_) U7 fl_ (fun U _ _ r=>?_);obtain ⟨V,rfl,f⟩:=r;rw [show pB.obs.length=2 from rfl,OI] at f;exact C4 5 [2,3,4,5,6,7,8,9,10] a Z<|TU 5 Z fun R a=>Uu U8<|Ua 2 Z<|Uu U8<|Ua 3 Z<|Uu U8<|Ua 2 Z<|Vv [[.int .i64 0],[.int .i64 1]] U12 fl_ U2 fun W _ _ s=>Us (fun d=>wJ _ _ _ [0,1] [0,1] q.m_ ((s (by exact d)).mono mup)) U9<|Uu U8<|Ua 2 Z<|Uu U8<|Ua 3 Z<|Uu U8<|Ua 2 Z<|Vv [[.int .i64 0]] U12 fl_ U2 fun t _ _ u=>Vv [[.int .i64 1]] U12 fl_ U2 fun v _ _ w=>Vv [[.slice (some ⟨t,0,none⟩) 1 1],[.slice (some ⟨v,0,none⟩) 1 1]] U12 fl_ U2 fun X _ _ x=>Us (fun d=>ul _ _ _ [[0],[1]] [[0],[1]] f.m_ (Dg ((u (by exact d)).mono mup) ((w (by exact d)).mono mup) ((x (by exact d)).mono mup)) dc_) U9<|Uu U8<|Ua 3 Z<|Uu U8<|C4 1 [0] a Z<|Ub U2<|⟨by rw [p_h3,p_h2];rfl,Z⟩
def kI (a b:List Nat):Bool:=a.all fun x=>b.any fun y=>x == y
theorem KM {b:List Nat}{y:Nat}(h:b[k]?=some y):(b.take (k+1)).any p=((b.take k).any p || p y):=by
 rw [QF,h,List.any_append];simp
theorem yt (x y:Nat):((x:Int) == (y:Int))=(x == y):=by
 by_cases h:x=y
 ·subst h;simp
 rw [Rk.2 h,Rk.2 (fun e=>h (Int.ofNat_inj.1 e))]
theorem JH (C:Mem)(v w:Value)(a b:List Nat)(f:Sl C 1 v (a.map aN))(g:Sl C 1 w (b.map aN)):Gives cx.P 15 [v,w] C (.bool (kI a b)):=by
 obtain ⟨A,c,rfl,B,J,_⟩:=id f;obtain ⟨A2,c2,rfl,D,K,_⟩:=id g;have L:maxLen<=9223372036854775807:=by simp [maxLen]
 simp only [al] at f g B D ⊢;refine Ud func15 32 U3 fun w0=>TT 1 [0,1] Z<|TT 3 [1,10,11,12] Z<|G.loop (fun fr C' h j=>∃ (i:Nat),(i<=a.length/\(a.take i).all (fun x=>b.any fun y=>x == y)=true)/\fr=[(1,[],.slice A2 b.length c2),(10,[],.slice A a.length c),(11,[],.int .i64 a.length),(12,[],.int .i64 i)]/\h=[]/\j=a.length-i) (hn_ [1,10,11,12] Z) ⟨0,⟨Qf _,Z⟩,Z,Z,Z⟩ (fun fr M N m _ l=>?_);obtain ⟨i,⟨O,n⟩,rfl,rfl,rfl⟩:=l;refine TT 1 [1,10,11,12,13] Z<|TW (fun o=>?_) fun o=>?_
 ·have q:i<a.length:=by
   have:=aJ o;omega
  obtain ⟨x,r⟩:∃ x,a[i]?=some x:=⟨a[i],aj q⟩;refine TY fun R d=>Ul f.m_ U10 om_ (jl r) fl_ fun Q E=>TV E U8<|C4 1 [1,6,10,11,12] d Z<|TT 1 [1,6,7,10,11,12] Z<|TT 3 [1,6,7,10,11,12,16,17,18] Z<|G.loop (fun fr C' h j=>∃ (k:Nat),(k<=b.length)/\fr=[(1,[],.slice A2 b.length c2),(6,[],.int .i64 (x:Nat)),(7,[],.bool ((b.take k).any fun y=>x == y)),(10,[],.slice A a.length c),(11,[],.int .i64 a.length),(12,[],.int .i64 i),(16,[],.slice A2 b.length c2),(17,[],.int .i64 b.length),(18,[],.int .i64 k)]/\h=[]/\j=b.length-k) (hn_ [1,6,7,10,11,12,16,17,18] Z) ⟨0,Qf _,Z,Z,Z⟩ (fun fr S T m F l=>?_);obtain ⟨k,U,rfl,rfl,rfl⟩:=l;refine TT 1 [1,6,7,10,11,12,16,17,18,19] Z<|TW (fun s=>?_) fun s=>?_
  ·have t:k<b.length:=by
    have:=aJ s;omega
   obtain ⟨y,hy⟩:∃ y,b[k]?=some y:=⟨b[k],aj t⟩;have H:=KM (p:=fun y=>x == y) hy;refine TY fun R d=>Ul g.m_ U10 om_ (jl hy) fl_ fun V I=>TV I U8<|C4 1 [1,6,7,9,10,11,12,16,17,18] d Z<|TU 5 Z fun R d=>UB U8<|C4 1 [1,6,7,10,11,12,16,17,18] d Z ?_;rw [show (((b.take k).any fun y=>x == y) || ((x:Int) == (y:Int)))=(b.take (k+1)).any fun y=>x == y from by rw [H];congr 1;exact yt x y];refine TY fun R d=>Ue _ U7<|C4 1 [1,6,7,10,11,12,16,17,18] d Z<|Ug (m':=b.length-(k+1)) om_ F (hn_ [1,6,7,10,11,12,16,17,18] Z) ⟨k+1,om_,Z,Z,Z⟩
  have t:k=b.length:=by
   have:=Qe s;omega
  subst t;rw [Qo];refine TT 2 [1,10,11,12,30] Z<|TW (fun u=>?_) fun u=>?_
  ·have z:(b.any fun y=>x == y)=false:=by simpa using u
   refine TT 1 [4] Z<|Ub U2<|⟨?_,Z⟩;have e:kI a b=false:=by
    unfold kI;exact SJ.2 ⟨x,Qc r,by simp only [z];decide⟩
   rw [e]
  have z:(b.any fun y=>x == y)=true:=by simpa using u
  refine TY fun R d=>Ue _ U7<|C4 1 [1,10,11,12] d Z<|Ug (m':=a.length-(i+1)) om_ mup (hn_ [1,10,11,12] Z) ⟨i+1,⟨by omega,by rw [QF,r,Tb,n];simpa using z⟩,Z,Z,Z⟩
 have q:i=a.length:=by
  have:=Qe o;omega
 refine TT 1 [4] Z<|Ub U2 ?_;rw [q,Qo] at n;exact ⟨by rw [kI,n],Z⟩
theorem JJ (C:Mem)(v w:Value)(a b:List Nat)(g:Sl C 1 v (a.map aN))(h:Sl C 1 w (b.map aN))(J:a.length<=b.length):Gives cx.P 42 [v,w] C (.bool (yy a b)):=by
 obtain ⟨A,c,rfl,p,K,_⟩:=id g;obtain ⟨A2,c2,rfl,q,L,_⟩:=id h;have M:maxLen<=9223372036854775807:=by simp [maxLen]
 simp only [al] at g h p q ⊢;refine Ud func42 30 U3 fun w0=>TT 1 [0,1] Z<|TT 1 [0,1,5] Z<|G.loop (fun fr C' r s=>∃ (k:Nat),(k<=a.length/\yy (a.drop k) (b.drop k)=yy a b)/\fr=[(0,[],.slice A a.length c),(1,[],.slice A2 b.length c2),(5,[],.int .i64 k)]/\r=[]/\s=a.length-k) (hn_ [0,1,5] Z) ⟨0,⟨Qf _,Z⟩,Z,Z,Z⟩ (fun fr N O m t u=>?_);obtain ⟨k,⟨Q,d⟩,rfl,rfl,rfl⟩:=u;refine TT 4 [0,1,5,9] Z<|TW (fun j=>?_) fun j=>?_
 ·have i:k<a.length:=by
   have:=aJ j;omega
  have o:k<b.length:=by omega
  obtain ⟨x,l⟩:∃ x,a[k]?=some x:=⟨a[k],aj i⟩;obtain ⟨y,hy⟩:∃ y,b[k]?=some y:=⟨b[k],aj o⟩;rw [QG i,QG o,(aF.1 l).2,(aF.1 hy).2] at d;refine Ur [0,1,2,3,4,5,6,7,8] [] Z kr_ fun R z f=>Ua 2 Z<|Ul g.m_ U10 om_ (jl l) fl_ fun S B=>TV B U8<|Ua 2 Z<|Ul h.m_ U10 om_ (jl hy) fl_ fun T D=>TV D U8<|C4 1 [0,1,5,20] f Z<|TW (fun n=>?_) fun n=>?_
  ·have E:x≠y:=fun e=>by subst e;simp at n
   refine Ur [0,1,2,3,4,5,6,7,8,9] [] Z kr_ fun R z f=>Ua 2 Z<|Ul g.m_ U10 om_ (jl l) fl_ fun U F=>TV F U8<|Ua 2 Z<|Ul h.m_ U10 om_ (jl hy) fl_ fun V H=>TV H U8<|C4 2 [4] f Z<|Ub U2<|⟨?_,Z⟩;rw [<- d];simp only [yy,az E];congr 1;exact QX.2 om_
  have I:x=y:=by
   have:(x:Int)=y:=by simpa using n
   omega
  refine TU 1 Z fun R f=>Ue _ U7<|C4 1 [0,1,5] f Z<|Ug (m':=a.length-(k+1)) om_ t (hn_ [0,1,5] Z) ⟨k+1,⟨by omega,by rw [<- d];simp only [yy,aU I]⟩,Z,Z,Z⟩
 have i:k=a.length:=by
  have:=Qe j;omega
 refine TT 1 [4] Z<|Ub U2 ?_;rw [i,Rj] at d;exact ⟨by rw [<- d];rfl,Z⟩
def NN (D:Mem)(n:Nat)(rows:List RowQ)(u:Value):Prop:=∃ rv ov,u=.tuple #[.agg ⟨[.int .i64 n,rv,ov]⟩,.bool true]/\RowsT D rv ((jY rows).map gN)/\Sl D 1 ov ((List.replicate n (0:Rat)).map aW)
theorem Fl (i:Nat):((List.replicate (i+1) (0:Rat)).map aW).flatten=((List.replicate i (0:Rat)).map aW).flatten++[[ah [48]]].flatten:=by
 rw [<- nS,<- nS,List.replicate_succ'];rfl
theorem yw (C:Mem)(o T:Value)(B:Bk)(l:List SrcQ)(p:BookZ C o B 0)(U:bs B*bp B<=60)(aA:l.length<=300)
  (ac:∀ D:Mem,C.le D->Pur cx.P 52 [o,T] D fun u E=>∃ v,u=.tuple #[v,.int .i64 0]/\xG E v l) :
  Pur cx.P 29 [o,T] C fun u D=>NN D (bs B*bp B) (l.map SrcQ.r) u:=by
 have aB:=p;obtain ⟨n,V⟩:∃ n,bs B*bp B=n:=⟨_,rfl⟩;have ad:∀ D:Mem,C.le D->Gives cx.P 35 [o] D (.tuple #[.int .i64 n,.int .i64 0]):=fun D hD=>by
  have h:=yW D o B 0 (p.mono hD) U;rw [aU rfl,V] at h;exact h
 rw [V] at U ⊢;obtain ⟨v1,v2,tv,cv,ov,rfl,h1,h2,h3,h4,h5⟩:=id p.i.ex;have aC:maxLen<=9223372036854775807:=by simp [maxLen]
 refine Ud func29 58 U3 fun w0=>TY fun R a=>Up U6 fun b2=>Uo U5 fun c=>C4 1 [1,2,4] a Z<|G.freeze 1 Z fun _ _ W=>TY fun R a=>TV (bkT W 5) U8<|Uh (ad _ mup) U7<|C4 5 [1,2,4,6,7] a Z<|TY fun R a=>TV (bkT W 5) U8<|TX U6<|UF (ac _ mup) U7 (fun aD _ _ ag=>?_);obtain ⟨wv,rfl,ai⟩:=ag;obtain ⟨vs,t,x⟩:=ai;have y:=jy t;obtain ⟨X,Y,rfl,ak,aE,_⟩:=id x;have an:(bR vs l).length=l.length:=by unfold bR;simp [y]
 rw [an] at x ak ⊢;refine C4 5 [4,6,7,8,9] a Z<|TU 1 Z fun R a=>Un [.int .i64 n,.slice none 0 0,.slice none 0 0] U8<|Uo U5 fun d=>Uf (j:=0) U12<|TZ [4,6,7,8,9,10] a Z<|TT 1 [4,6,7,8,9,10,11] Z<|G.nilArr 56 1<|Um (L':=[.arr (sB7 none 0 0) 56 1 0 ((List.replicate 0 (0:Rat)).map aW).flatten,.obj d (.cells ⟨[.int .i64 n,.slice none 0 0,.slice none 0 0]⟩ 80 (0,0)),.obj c (.cells ⟨[.int .i64 0,.slice none 0 0,.slice none 0 0]⟩ 80 (0,0))]) Z<|G.loop (fun fr C' e z=>∃ (i:Nat)(g:Option Addr)(n1 k:Nat),(i<=n)/\fr=[(4,[],.pointer (some ⟨c,0,none⟩)),(6,[],.int .i64 n),(7,[],.int .i64 0),(8,[],.slice X l.length Y),(9,[],.int .i64 0),(10,[],.pointer (some ⟨d,0,none⟩)),(11,[],.int .i64 i)]/\e=[.arr (sB7 g n1 k) 56 1 i ((List.replicate i (0:Rat)).map aW).flatten,.obj d (.cells ⟨[.int .i64 n,.slice none 0 0,.slice g n1 k]⟩ 80 (0,0)),.obj c (.cells ⟨[.int .i64 0,.slice none 0 0,.slice none 0 0]⟩ 80 (0,0))]/\z=n-i) (hn_ [4,6,7,8,9,10,11] Z) ⟨0,none,0,0,Qf _,Z,Z,Z⟩ (fun fr aF aG m _ A=>?_);obtain ⟨i,g,n1,k,hi,rfl,rfl,rfl⟩:=A;refine TT 3 [4,6,7,8,9,10,11,29] Z<|TW (fun F=>?_) fun F=>?_
 ·have aa:i<n:=by
   have:=aJ F;omega
  refine TU 1 Z fun R a=>Uc ae U9<|Uq [[ah [48]]] U12 fun aH _ _ ao=>Uy (j:=0) U11 ao.m_ Z ax (by show (i+1)*16<=_;omega) fl_ fun H I J=>TX U6<|Uf (j:=1) U12<|TZ [4,6,7,8,9,10,11] a Z<|TU 1 Z fun R a=>Ue _ U7<|C4 1 [4,6,7,8,9,10,11] a Z<|G.perm (L':=[.arr (sB7 H I J) 56 1 (i+1) ((List.replicate (i+1) (0:Rat)).map aW).flatten,.obj d (.cells ⟨[.int .i64 n,.slice none 0 0,.slice H I J]⟩ 80 (0,0)),.obj c (.cells ⟨[.int .i64 0,.slice none 0 0,.slice none 0 0]⟩ 80 (0,0))]) (by rw [Fl];exact List.Perm.swap _ _ _)<|Ug (m':=n-(i+1)) om_ mup (hn_ [4,6,7,8,9,10,11] Z) ⟨i+1,H,I,J,om_,Z,Z,Z⟩
 have aa:i=n:=by
  have:=Qe F;omega
 subst aa;refine TT 3 [4,7,9,10,37,38,39] Z<|G.freezeArr 0 ((List.replicate i (0:Rat)).map aW) Z Z dJ am (fun _ _ ab=>?_);obtain ⟨_,_,ap,_⟩:=id ab;cases ap
 refine G.nilArr 123 2<|Um (L':=[.arr (sA7 none 0 0) 123 2 0 (prC (vs.take 0) (l.take 0)).flatten,.obj d (.cells ⟨[.int .i64 i,.slice none 0 0,.slice g ((List.replicate i (0:Rat)).map aW).length k]⟩ 80 (0,0)),.obj c (.cells ⟨[.int .i64 0,.slice none 0 0,.slice none 0 0]⟩ 80 (0,0))]) Z<|G.loop (fun fr C' e z=>∃ (q:Nat)(A2:Option Addr)(n2 c2:Nat),(q<=l.length)/\fr=[(4,[],.pointer (some ⟨c,0,none⟩)),(7,[],.int .i64 0),(9,[],.int .i64 0),(10,[],.pointer (some ⟨d,0,none⟩)),(37,[],.slice X l.length Y),(38,[],.int .i64 l.length),(39,[],.int .i64 q)]/\e=[.arr (sA7 A2 n2 c2) 123 2 q (prC (vs.take q) (l.take q)).flatten,.obj d (.cells ⟨[.int .i64 i,.slice A2 n2 c2,.slice g ((List.replicate i (0:Rat)).map aW).length k]⟩ 80 (0,0)),.obj c (.cells ⟨[.int .i64 0,.slice none 0 0,.slice none 0 0]⟩ 80 (0,0))]/\z=l.length-q) (hn_ [4,7,9,10,37,38,39] Z) ⟨0,none,0,0,Qf _,Z,Z,Z⟩ (fun fr aK aL m _ A=>?_);obtain ⟨q,A2,n2,c2,hq,rfl,rfl,rfl⟩:=A;refine TT 1 [4,7,9,10,37,38,39,40] Z<|TW (fun K=>?_) fun K=>?_
 ·have L:q<l.length:=by
   have:=aJ K;omega
  obtain ⟨s,M⟩:∃ s,l[q]?=some s:=⟨l[q],aj L⟩;obtain ⟨w,N⟩:∃ w,vs[q]?=some w:=⟨vs[q]'om_,aj om_⟩;have aq:=t.2 q w s.r N (by rw [Qg,M];rfl);obtain ⟨Ax,ar,rfl,_⟩:=id aq;have au:=AY y N M;refine TY fun R a=>Ul x.m_ U10 om_ (K0 N M) fl_ fun aM av=>TV av U8<|Uo U5 fun aN=>Uf (j:=0) U12<|TZ [4,7,9,10,13,37,38,39] a Z<|G.freeze 0 Z fun _ _ aw=>TU 1 Z fun R a=>Uc ae U9<|TX U6<|TV (bkT aw 2) U8<|Uq [[.slice Ax (s.r.f.map fe).length ar,ah (qtx s.r.b)]] U12 fun aO _ _ ay=>Uy (j:=0) U11 ay.m_ Z ax (by show (q+1)*40<=_;omega) fl_ fun O Q S=>TX U6<|Uf (j:=1) U12<|TZ [4,7,9,10,37,38,39] a Z<|TY fun R a=>Ue _ U7<|C4 1 [4,7,9,10,37,38,39] a Z<|G.perm (L':=[.arr (sA7 O Q S) 123 2 (q+1) (prC (vs.take (q+1)) (l.take (q+1))).flatten,.obj d (.cells ⟨[.int .i64 i,.slice O Q S,.slice g ((List.replicate i (0:Rat)).map aW).length k]⟩ 80 (0,0)),.obj c (.cells ⟨[.int .i64 0,.slice none 0 0,.slice none 0 0]⟩ 80 (0,0))]) (by rw [au,QW];exact List.Perm.swap _ _ _)<|Ug (m':=l.length-(q+1)) om_ mup (hn_ [4,7,9,10,37,38,39] Z) ⟨q+1,O,Q,S,om_,Z,Z,Z⟩
 have L:q=l.length:=by
  have:=Qe K;omega
 subst L;refine TY fun R a=>Uc ae U9<|Ua 5 Z<|Uu U8<|Uf (j:=2) U12<|C4 1 [4,5] a Z ?_;rw [QE (show vs.length<=l.length by omega),Qo];refine G.freezeArr 1 (prC vs l) Z Z (FG _ _) (by rw [prC,dv (by simp [y]),al]) fun _ _ az=>Ui (Ve af U5 ?_);exact ⟨Z,_,_,Z,(AI (rows:=l.map SrcQ.r) (RowsOk.m_ t) az),ab.mono mup⟩
theorem Gw (C:Mem)(m:Tabs C)(e f:Value)(B:Bk)(H:List Rat)(a:Nat->List RowQ)(l:List Nat)(g:BookIn C e B)(h:Calm B H a)(d:SetIn B.obs.length l)(I:Sl C 1 f (l.map aN)) :
  Gives cx.P 16 [e,f] C (.bool (jf B a l)):=by
 have ab:=g;have J:=h.rich.bookz m g;have u:=h.cnt d;have v:=fun (D:Mem)(i:C.le D)=>yw D e f B (bP (bH B) a l) (J.mono i) (by have:=h.n12;omega) (by unfold eU at u;rw [al] at u;omega) (nh D (m.mono i) e f (g.mono i) h d (I.mono i));obtain ⟨n,o⟩:∃ n,bs B*bp B=n:=⟨_,rfl⟩;have K:=h.n12;have p:=h.rowsQ d;have w:=h.q22 d;have q:=h.lim d;obtain ⟨rows,s⟩:∃ rows,eU B a l=rows:=⟨_,rfl⟩;have L:jf B a l=@decide (eH n (jY rows)).Hold (Classical.propDecidable _):=by
  unfold jf D6;rw [o,s]
 have M:(bP (bH B) a l).map SrcQ.r=rows:=s;rw [o,M] at v;rw [o] at p q K;rw [s] at p w q;obtain ⟨v1,v2,tv,cv,ov,rfl,_⟩:=id g.ex;have ac:maxLen<=9223372036854775807:=by simp [maxLen]
 refine Ud func16 29 U3 fun w0=>TY fun R b=>Up U6 fun b2=>C4 1 [1,2] b Z<|G.freeze 0 Z fun _ _ N=>TY fun R b=>TV (bkT N 5) U8<|TX U6<|UF (v _ mup) U7 (fun ad _ _ O=>?_);obtain ⟨rv,ae,rfl,y,z⟩:=O;obtain ⟨_,_,_,Q⟩:=id y;obtain ⟨Ar,cr,rfl,_⟩:=id Q;obtain ⟨Ao,co,rfl,_⟩:=id z;refine Ua 3 Z<|Uo U5 fun b5=>Uf (j:=0) U12<|C4 1 [5] b Z<|G.freeze 0 Z fun _ _ S=>TY fun R b=>TV (bkT S 3) U8<|Uz (Be _ m.m_ n _ _ (jY rows) (List.replicate n 0) y.m_ z.m_ p (fun x T=>by rw [(List.mem_replicate.1 T).2];exact QB_zero.le dc_) w om_ am q) U7 fl_ (fun U _ _ V=>?_);have W:∃ (t:Value)(E:Option Addr)(nd F:Nat)(k:Bool),U=.tuple #[t,.agg ⟨[.slice E nd F]⟩,.bool k,.int .i64 0]/\jf B a l=k:=by
  rw [L];cases V with
  | yes pt t X _ _=>exact ⟨_,_,_,_,true,rfl,@Qr _ (Classical.propDecidable _) X⟩
  | no du vd Y h1 =>
   obtain ⟨A,c,rfl,_⟩:=id h1;exact ⟨_,_,_,_,false,Z,@QC _ (Classical.propDecidable _) Y.not⟩
 obtain ⟨t,E,nd,F,k,rfl,aa⟩:=W;refine Ua 5 Z<|Uo U5 fun b8=>TX U6<|Uf (j:=0) U12<|C4 2 [9,10] b Z<|TU 4 Z fun R b=>Uu U8<|C4 1 [4] b Z<|Ub U2 ?_;exact ⟨by rw [aa];cases k <;> rfl,Z⟩
theorem uc (h:OutL C vs outs)(j:Nat):∃ A c,vs.getD j (.slice none 0 0)=.slice A (outs.getD j []).length c/\Sl C 1 (.slice A (outs.getD j []).length c) ((outs.getD j []).map aN):=by
 by_cases a:j<vs.length
 ·have b:j<outs.length:=by rw [<- h.1];exact a
  have h1:vs[j]?=some (vs.getD j (.slice none 0 0)):=by rw [aw,aj a];rfl
  have h2:outs[j]?=some (outs.getD j []):=by rw [aw,aj b];rfl
  have hs:=h.2 j _ _ h1 h2;obtain ⟨A,c,e,_⟩:=id hs;rw [al] at e;rw [e] at hs;exact ⟨A,c,e,hs⟩
 have b:¬ j<outs.length:=by rw [<- h.1];exact a
 refine ⟨none,0, ?_, ?_⟩
 ·rw [aw,Ql om_,aw,Ql om_];rfl
 rw [aw,Ql om_];exact Sl.nil _ _
theorem MS (h:OutL C vs outs):∀ v∈vs,mD v=true:=fun v b=>by
 obtain ⟨j,a⟩:=RB b;have d:=(aF.1 a).1;have hs:=h.2 j v _ a (aj (by rw [<- h.1];exact d));obtain ⟨A,c,rfl,_⟩:=id hs;rfl
theorem row1 :(vs.map fun v=>[v]).flatten=vs:=by
 induction vs with
 | nil=>rfl
 | cons v vs a=>simp [a]
theorem mS (h:∀ v∈vs,mD v=true):(vs.map fun x=>[x]).all (fun r=>r.all mD)=true:=by
 rw [Qv];intro r hr;obtain ⟨v,a,rfl⟩:=Qk.1 hr;rw [List.all_cons,h v a];rfl
theorem FW {w:Value}(a:k<vs.length)(h:vs.getD k (.slice none 0 0)=w):(vs.map fun x=>[x])[k]?=some [w]:=by
 rw [Qg,aj a];rw [aw,aj a] at h;cases h
 rfl
theorem Js {s:List Nat}(h:OutL C vs outs)(b:Sl C 1 v (s.map aN))(d:k<=outs.length):OutL C (vs.take k++[v]++vs.drop k) (outs.take k++[s]++outs.drop k):=by
 have c:=h.1;refine ⟨by simp [c],fun j w o h1 h2=>?_⟩;rw [QJ] at h1 h2;rcases Nat.lt_trichotomy j k with a | a | a
 ·rw [Q3 ap,QT,aU a] at h1 h2;exact h.2 j w o h1 h2
 ·subst a;rw [QH ap] at h1 h2;rw [show j-(vs.take j).length=0 by simp;omega] at h1;rw [show j-(outs.take j).length=0 by simp;omega] at h2;cases h1
  cases h2
  exact b
 rw [QH ap] at h1 h2;rw [show j-(vs.take k).length=(j-1-k)+1 by simp;omega,List.singleton_append,RY,List.getElem?_drop] at h1;rw [show j-(outs.take k).length=(j-1-k)+1 by simp;omega,List.singleton_append,RY,List.getElem?_drop] at h2;exact h.2 _ w o h1 h2
theorem JG (C:Mem)(n:Nat)(U:n<4):Pur cx.P 14 [.int .i64 n] C fun u D=>OutsIn D u ((bT n).map ba):=by
 have aW:maxLen<=9223372036854775807:=by simp [maxLen]
 have h8:2 ^ n<=8:=by
  have:∀ n<4,2 ^ n<=8:=by decide
  exact this n U
 refine Ud func14 76 U3 fun w0=>?_;refine TT 1 [0] Z ?_;refine TT 1 [0,3] Z ?_;refine TT 1 [0,3,4] Z ?_;refine G.loop (fun fr C' f p=>∃ (i:Nat)(N:Value)(vs:List Value),(i<=n+1/\OutL C' vs ((List.range i).foldl (Ms n) [])/\Sl C' 1 N (vs.map fun x=>[x]))/\fr=[(0,[],.int .i64 n),(3,[],N),(4,[],.int .i64 i)]/\f=[]/\p=n+1-i) (hn_ [0,3,4] Z) ⟨0,.slice none 0 0,[],⟨Qf _,OutL.nil _,Sl.nil _ _⟩,Z,Z,Z⟩ (fun fr aX aY m _ s=>?_);obtain ⟨i,N,vs,⟨hi,V,ai⟩,rfl,rfl,rfl⟩:=s;refine TT 3 [0,3,4,11] Z ?_;refine TW (fun W=>?_) fun W=>?_
 ·have aZ:i<=n:=by
   have:=aJ W;omega
  have aA:=Cc n i;have a0:i*2 ^ n<=3*8:=RP om_ h8;have aj:(List.range (i+1)).foldl (Ms n) []=(List.range (2 ^ n)).foldl (lm i) ((List.range i).foldl (Ms n) []):=mO;obtain ⟨A,aB⟩:∃ A,(List.range i).foldl (Ms n) []=A:=⟨_,rfl⟩;rw [aB] at V aA aj;refine TT 1 [0,3,4,5] Z ?_;refine G.loop (fun fr C' f p=>∃ (b:Nat)(O:Value)(ws:List Value),(b<=2 ^ n/\OutL C' ws ((List.range b).foldl (lm i) A)/\Sl C' 1 O (ws.map fun x=>[x]))/\fr=[(0,[],.int .i64 n),(3,[],O),(4,[],.int .i64 i),(5,[],.int .i64 b)]/\f=[]/\p=2 ^ n-b) (hn_ [0,3,4,5] Z) ⟨0,N,vs,⟨Qf _,V.mono mup,ai.mono mup⟩,Z,Z,Z⟩ (fun fr a1 a2 m _ s=>?_);obtain ⟨b,O,ws,⟨hb,B,z⟩,rfl,rfl,rfl⟩:=s;refine TU 2 Z fun R a=>?_;refine VE (n) Z Z Z Z Z Z (by first | exact .inl Z | exact .inr Z) Z om_ Z Z ?_;refine C4 1 [0,3,4,5,17] a Z ?_;refine TW (fun X=>?_) fun X=>?_
  ·have aC:b<2 ^ n:=by
    have:=aJ X;omega
   have ak:=tJ (List.range b) i A;rw [Q5] at ak;have Y:(List.range (b+1)).foldl (lm i) A=lm i ((List.range b).foldl (lm i) A) b:=mO;obtain ⟨g,aD⟩:∃ g,(List.range b).foldl (lm i) A=g:=⟨_,rfl⟩;rw [aD] at B ak Y;have aE:ws.length=g.length:=B.1;obtain ⟨A3,E,rfl,aF,a3,_⟩:=id z;rw [al] at z aF ⊢;refine TT 1 [0,3,4,5,6] Z ?_;refine TT 1 [0,3,4,5,6,7] Z ?_;refine G.nilArr 3 1 ?_;refine G.loop (fun fr C' f p=>∃ (j:Nat)(d:Option Addr)(n1 e:Nat),(j<=n)/\fr=[(0,[],.int .i64 n),(3,[],.slice A3 ws.length E),(4,[],.int .i64 i),(5,[],.int .i64 b),(6,[],.slice d n1 e),(7,[],.int .i64 j)]/\f=[.arr (.slice d n1 e) 3 1 ((List.range j).filter fun q=>b.testBit q).length ((((List.range j).filter fun q=>b.testBit q)).map aN).flatten]/\p=n-j) (hn_ [0,3,4,5,6,7] Z) ⟨0,none,0,0,Qf _,Z,Z,Z⟩ (fun fr a4 a5 m _ s=>?_);obtain ⟨j,d,n1,e,hj,rfl,rfl,rfl⟩:=s;refine TT 3 [0,3,4,5,6,7,22] Z ?_;refine TW (fun aa=>?_) fun aa=>?_
   ·have a6:j<n:=by
     have:=aJ aa;omega
    have a7:((List.range j).filter fun q=>b.testBit q).length<=j:=by
     have:=Rw (fun q=>b.testBit q) (List.range j)
     rwa [Q5] at this
    have Q:=J4 (b:=b) (j:=j);have a8:=Rc b (2 ^ j);refine TU 2 Z fun R a=>?_;refine Wp (b) (j) Z Z Z Z Z Z Z Z om_ Z Z ?_;refine VT (b / 2 ^ j) (1) Z Z Z Z Z Z Z Z om_ om_ Z Z ?_;refine C4 1 [0,3,4,5,6,7,29] a Z ?_;refine TW (fun ab=>?_) fun ab=>?_
    ·have ac:b.testBit j=true:=by
      rw [<- HS,<- yt];exact ab
     rw [ac,aU rfl] at Q;refine TU 2 Z fun R a=>?_;refine Uq [[.int .i64 j]] U12 (fun a9 _ _ aG=>?_);refine Uy (j:=0) U11 aG Z ax (by show (((List.range j).filter fun q=>b.testBit q).length+1)*8<=_;omega) fl_ (fun am an ao=>?_);refine C4 1 [0,3,4,5,6,7] a Z ?_;refine TU 1 Z fun R a=>?_;refine Ue _ U7 ?_;refine C4 1 [0,3,4,5,6,7] a Z ?_;refine Um (L':=[.arr (.slice am an ao) 3 1 ((List.range (j+1)).filter fun q=>b.testBit q).length ((((List.range (j+1)).filter fun q=>b.testBit q)).map aN).flatten]) (by rw [Q,QS,QW,Qi];rfl) ?_;refine Ug (m':=n-(j+1)) om_ mup (hn_ [0,3,4,5,6,7] Z) ⟨j+1,am,an,ao,om_,Z,Z,Z⟩
    have ac:b.testBit j=false:=by
     rw [<- HS,<- yt];exact ab
    rw [ac,az dc_,QA] at Q;refine TU 1 Z fun R a=>?_;refine Ue _ U7 ?_;refine C4 1 [0,3,4,5,6,7] a Z ?_;refine Um (L':=[.arr (.slice d n1 e) 3 1 ((List.range (j+1)).filter fun q=>b.testBit q).length ((((List.range (j+1)).filter fun q=>b.testBit q)).map aN).flatten]) (by rw [Q]) ?_;refine Ug (m':=n-(j+1)) om_ mup (hn_ [0,3,4,5,6,7] Z) ⟨j+1,d,n1,e,om_,Z,Z,Z⟩
   have aH:n=j:=by
    have:=Qe aa;omega
   subst aH;rw [HM n U b aC];refine VD af (fun _ _ aK _=>?_);cases aK
   refine TT 4 [0,3,4,5,6,37] Z ?_;refine TW (fun ad=>?_) fun ad=>?_
   ·have ae:(ba b).length=i:=by
     have:((ba b).length:Int)=i:=by simpa using ad
     omega
    refine G.freezeArr 0 ((ba b).map aN) Z Z (lY _) (al _) (fun _ _ aq=>?_);refine TT 3 [0,3,4,5,6,8] Z ?_;refine G.loop (fun fr C' f p=>∃ (k:Nat),(k<=g.length/\Dc g (ba b) g.length=Dc g (ba b) k)/\fr=[(0,[],.int .i64 n),(3,[],.slice A3 ws.length E),(4,[],.int .i64 i),(5,[],.int .i64 b),(6,[],.slice d (ba b).length e),(8,[],.int .i64 k)]/\f=[]/\p=k+k) (hn_ [0,3,4,5,6,8] Z) ⟨ws.length,⟨by omega,by rw [aE]⟩,Z,Z,Z⟩ (fun fr bb bc m _ s=>?_);obtain ⟨k,⟨hk,hp⟩,rfl,rfl,rfl⟩:=s;obtain ⟨Aw,cw,ar,aL⟩:=uc B (k-1);refine TU 5 Z fun R a=>?_;refine Ue _ U7 ?_;refine D.index U10 (fun H=>⟨z.mono mup,(by have h:decide ((k:Int) > 0)=true:=H.1;have:=aJ h;omega),(by have h:decide ((k:Int) > 0)=true:=H.1;have:=aJ h;rw [show ((k:Int)-1).toNat=k-1 by omega];exact FW om_ ar)⟩) fl_ Z (fun bd aM=>?_);refine Ux U6 aM U3 ?_;refine Ua 3 Z ?_;refine Uu U8 ?_;refine Ua 4 Z ?_;refine Ue _ U7 ?_;refine D.index U10 (fun H=>⟨z.mono mup,(by have h:(decide ((k:Int) > 0) && _)=true:=H.1;have:=aJ (Rp.1 h).1;omega),(by have h:(decide ((k:Int) > 0) && _)=true:=H.1;have:=aJ (Rp.1 h).1;rw [show ((k:Int)-1).toNat=k-1 by omega];exact FW om_ ar)⟩) fl_ Z (fun be aO=>?_);refine Ux U6 aO U3 ?_;refine Us (fun hG=>JJ _ _ _ (ba b) (g.getD (k-1) []) aq.m_ aL.m_ (by
     have h:(_ && (((g.getD (k-1) []).length:Int) == (i:Int)))=true:=hG.1;have:=eq_of_beq (Rp.1 h).2;omega)) U9 ?_
    refine Uu U8 ?_;refine TZ [0,3,4,5,6,8,60] a Z ?_;refine TW (fun h60=>?_) fun h60=>?_
    ·have S:0<k/\goE g (ba b) (k-1)=true:=by
      obtain ⟨ha,ag⟩:=Rp.1 h60;obtain ⟨hc,hd⟩:=Rp.1 ha;have h1:=aJ hc;have h2:=eq_of_beq hd;refine ⟨by omega,Rp.2 ⟨Qr om_,ag⟩⟩
     refine TU 1 Z fun R a=>?_;refine Ue _ U7 ?_;refine C4 1 [0,3,4,5,6,8] a Z ?_;rw [show ((k:Int)-1)=((k-1:Nat):Int) by omega];refine Ug (m':=(k-1)+(k-1)) om_ mup (hn_ [0,3,4,5,6,8] Z) ⟨k-1,⟨by omega,by rw [hp,MF S.1 S.2]⟩,Z,Z,Z⟩
    have aP:Dc g (ba b) k=k:=FH (fun bf=>by
     refine Bool.eq_false_iff.2 fun S=>?_;obtain ⟨ha,ag⟩:=Rp.1 S;have h1:=aJ ha;refine Bool.eq_false_iff.1 h60 (Rp.2 ⟨Rp.2 ⟨Qr om_,RJ.2 om_⟩,ag⟩))
    rw [aP] at hp;have aQ:OW g (ba b)=g.take k++[ba b]++g.drop k:=by unfold OW;rw [hp]
    have T:=z.sub (l:=0) (h:=k) (m:=E) (Qf _) (by rw [al];omega) om_ (Qb _);have ah:=z.sub (l:=k) (h:=ws.length) (m:=E) om_ (by rw [al];omega) om_ (Qb _);rw [Rm] at T;have c:((ws.map fun x=>[x]).take k).length=k:=by rw [Qq,al];omega
    have t:(((ws.map fun x=>[x]).take ws.length).drop k).length=ws.length-k:=by rw [Si,Qq,al];omega
    have F:=MS B;refine G.cut (fun fr C' f p=>∃ (w:Value),(True)/\fr=[(0,[],.int .i64 n),(3,[],w),(4,[],.int .i64 i),(5,[],.int .i64 b)]/\f=[.arr w 50 1 (ws.length+1) (ws.take k++[.slice d (ba b).length e]++ws.drop k)]) ?_ (fun fr bg bh p bi s=>?_)
    ·refine UP (.cut [1,2,3,5,8,9,10] (.alt 0 (.cut [] (.alt 4 (.fin [6,7,11,12]) (.alt 6 (.fin [4,7,11,12]) .stop))) (.alt 6 (.fin [0,4,7,11,12]) .stop))) [] Z Z kr_ (fun R hB a hH=>?_);refine Ua 2 Z ?_;refine UR 0 k E U12 (fun _=>⟨.inl ⟨Z,Z⟩,.inr ⟨_,Z⟩,.inl ⟨Z,Z⟩,by omega,by omega,Qb _⟩) U2 ?_;refine Ua 3 Z ?_;refine UR k ws.length E U12 (fun _=>⟨.inr ⟨_,Z⟩,.inl ⟨Z,Z⟩,.inl ⟨Z,Z⟩,by omega,by omega,Qb _⟩) U2 ?_;refine UE hH Z ⟨?_, ?_,trivial⟩
     ·refine Va [] U12 fl_ (fun aR=>?_);refine UE hH Z ⟨?_, ?_,trivial⟩
      ·refine D.append (j:=0) U11 T.m_ (by rw [<- R6];exact mS fun v o=>F v (List.take_subset _ _ o)) (by simp only [Qu,c,maxLen];omega) (by simp only [Qu,c];omega) fl_ (fun au=>?_);refine Uq [[.slice d (ba b).length e]] U12 (fun av aw _ I=>?_);refine D.append (j:=0) U11 I.m_ Z (by simp only [Qu,c,aI,maxLen];omega) (by simp only [Qu,c,aI];omega) fl_ (fun ay=>?_);refine D.append (j:=0) U11 ah.m_ (by rw [QE (by rw [al];omega),<- List.map_drop];exact mS fun v o=>F v (List.drop_subset _ _ o)) (by simp only [Qu,c,t,aI,maxLen];omega) (by simp only [Qu,c,t,aI];omega) fl_ (fun J=>?_);refine C4 1 [0,3,4,5] a Z ?_;refine Um (L':=[.arr J 50 1 (ws.length+1) (ws.take k++[Value.slice d (ba b).length e]++ws.drop k)]) (by
        have K:(([]:List (List Value)).length+((ws.map fun x=>[x]).take k).length+([[Value.slice d (ba b).length e]]:List (List Value)).length+(((ws.map fun x=>[x]).take ws.length).drop k).length)=ws.length+1:=by
         rw [c,t];simp;omega
        have L:((ws.map fun x=>[x]).take k).flatten=ws.take k:=by rw [<- R6];exact row1
        have M:(((ws.map fun x=>[x]).take ws.length).drop k).flatten=ws.drop k:=by rw [QE (by rw [al];omega),<- List.map_drop];exact row1
        rw [K,L,M];rfl) ?_
       exact Uj 0 mup (hn_ [0,3,4,5] Z) ⟨_,trivial,Z,Z⟩
      refine Uq [[.slice d (ba b).length e]] U12 (fun av aw _ I=>?_);refine D.append (j:=0) U11 T.m_ (by rw [<- R6];exact mS fun v o=>F v (List.take_subset _ _ o)) (by simp only [Qu,c,maxLen];omega) (by simp only [Qu,c];omega) fl_ (fun au=>?_);refine D.append (j:=0) U11 I.m_ Z (by simp only [Qu,c,aI,maxLen];omega) (by simp only [Qu,c,aI];omega) fl_ (fun ay=>?_);refine D.append (j:=0) U11 ah.m_ (by rw [QE (by rw [al];omega),<- List.map_drop];exact mS fun v o=>F v (List.drop_subset _ _ o)) (by simp only [Qu,c,t,aI,maxLen];omega) (by simp only [Qu,c,t,aI];omega) fl_ (fun J=>?_);refine C4 1 [0,3,4,5] a Z ?_;refine Um (L':=[.arr J 50 1 (ws.length+1) (ws.take k++[Value.slice d (ba b).length e]++ws.drop k)]) (by
       have K:(([]:List (List Value)).length+((ws.map fun x=>[x]).take k).length+([[Value.slice d (ba b).length e]]:List (List Value)).length+(((ws.map fun x=>[x]).take ws.length).drop k).length)=ws.length+1:=by
        rw [c,t];simp;omega
       have L:((ws.map fun x=>[x]).take k).flatten=ws.take k:=by rw [<- R6];exact row1
       have M:(((ws.map fun x=>[x]).take ws.length).drop k).flatten=ws.drop k:=by rw [QE (by rw [al];omega),<- List.map_drop];exact row1
       rw [K,L,M];rfl) ?_
      exact Uj 0 mup (hn_ [0,3,4,5] Z) ⟨_,trivial,Z,Z⟩
     refine Uq [[.slice d (ba b).length e]] U12 (fun av aw _ I=>?_);refine Va [] U12 fl_ (fun aR=>?_);refine D.append (j:=0) U11 T.m_ (by rw [<- R6];exact mS fun v o=>F v (List.take_subset _ _ o)) (by simp only [Qu,c,maxLen];omega) (by simp only [Qu,c];omega) fl_ (fun au=>?_);refine D.append (j:=0) U11 I.m_ Z (by simp only [Qu,c,aI,maxLen];omega) (by simp only [Qu,c,aI];omega) fl_ (fun ay=>?_);refine D.append (j:=0) U11 ah.m_ (by rw [QE (by rw [al];omega),<- List.map_drop];exact mS fun v o=>F v (List.drop_subset _ _ o)) (by simp only [Qu,c,t,aI,maxLen];omega) (by simp only [Qu,c,t,aI];omega) fl_ (fun J=>?_);refine C4 1 [0,3,4,5] a Z ?_;refine Um (L':=[.arr J 50 1 (ws.length+1) (ws.take k++[Value.slice d (ba b).length e]++ws.drop k)]) (by
      have K:(([]:List (List Value)).length+((ws.map fun x=>[x]).take k).length+([[Value.slice d (ba b).length e]]:List (List Value)).length+(((ws.map fun x=>[x]).take ws.length).drop k).length)=ws.length+1:=by
       rw [c,t];simp;omega
      have L:((ws.map fun x=>[x]).take k).flatten=ws.take k:=by rw [<- R6];exact row1
      have M:(((ws.map fun x=>[x]).take ws.length).drop k).flatten=ws.drop k:=by rw [QE (by rw [al];omega),<- List.map_drop];exact row1
      rw [K,L,M];rfl) ?_
     exact Uj 0 mup (hn_ [0,3,4,5] Z) ⟨_,trivial,Z,Z⟩
    obtain ⟨w,bj,rfl,rfl⟩:=s;refine TU 1 Z fun R a=>?_;refine Ue _ U7 ?_;refine C4 1 [0,3,4,5] a Z ?_;refine G.freezeArr 0 ((ws.take k++[Value.slice d (ba b).length e]++ws.drop k).map fun x=>[x]) rfl row1.symm (by intro r hr;obtain ⟨y,_,rfl⟩:=Qk.1 hr;rfl) ap (fun Cm bk aS=>?_);refine Ug (m':=2 ^ n-(b+1)) om_ mup (hn_ [0,3,4,5] Z) ⟨b+1,w,ws.take k++[Value.slice d (ba b).length e]++ws.drop k,⟨by omega,by rw [Y,lm,aU ae,aQ];exact Js B.m_ aq.m_ hk,aS⟩,Z,Z,Z⟩
   have ae:¬ (ba b).length=i:=by
    have:¬ ((ba b).length:Int)=i:=by simpa using ad
    omega
   refine TU 1 Z fun R a=>?_;refine Ue _ U7 ?_;refine C4 1 [0,3,4,5] a Z ?_;refine G.dropAll ?_;refine Ug (m':=2 ^ n-(b+1)) om_ mup (hn_ [0,3,4,5] Z) ⟨b+1,.slice A3 ws.length E,ws,⟨by omega,by rw [Y,lm,az ae];exact B.mono mup,z.mono mup⟩,Z,Z,Z⟩
  have aT:b=2 ^ n:=by
   have:=Qe X;omega
  subst aT;refine TU 1 Z fun R a=>?_;refine Ue _ U7 ?_;refine C4 1 [0,3,4] a Z ?_;refine Ug (m':=n+1-(i+1)) om_ mup (hn_ [0,3,4] Z) ⟨i+1,O,ws,⟨by omega,by rw [aj];exact B.mono mup,z.mono mup⟩,Z,Z,Z⟩
 have aV:i=n+1:=by
  have:=Qe W;omega
 subst aV;refine TT 2 [2] Z ?_;refine Ub U2 ?_;exact ⟨Z,vs,by rw [<- HT n U];exact V.mono mup,ai.mono mup⟩
theorem F5 (S:Sht)(l:List Sgt):(qQ S l).take 3=qQ S (l.take 3):=by
 unfold qQ;rw [<- R6,List.take_range,Qq,show min 3 (min l.length 6)=min (min 3 l.length) 6 by omega];refine List.map_congr_left fun i a=>?_;have:=Qw.1 a;rw [aw,aw,QT,aU om_]
theorem sQ (S:Sht)(H:Hts)(l:List Sgt):cm S H (l.take 3)={ cm S H l with obs:=(cm S H l).obs.take 3 }:=by
 unfold cm;simp only [F5]
theorem B8 {n:Nat}:(.tuple #[v,.bool (decide ((n:Int)<=4) && true)]:Value)=.tuple #[v,.bool (decide (n<=4))]:=by
 rw [Bool.and_true,show decide ((n:Int)<=4)=decide (n<=4) from QX.2 om_]
theorem NK (C:Mem)(q:Tabs C)(v:Value)(S:Sht)(H:Hts)(l:List Sgt)(L:Ce C v S H l)(e:PlanR S H l) :
  Pur cx.P 12 [v] C fun u D=>∃ bv,u=.tuple #[bv,.bool (decide ((cC (S.kd % 8) S.a S.b S.h).length<=4))]/\BookIn D bv (cm S H (l.take 3)):=by
 obtain ⟨A,c,rfl,M⟩:=L;have N:=(fq (S.kd % 8) (QV _ dc_) S.a S.b S.h).1;refine Ud func12 26 U3 fun w0=>TY fun R d=>Up U6 fun T=>Uo U5 fun U=>C4 1 [1,2] d Z<|TY fun R d=>Uc ae U9<|UF (Gj _ q.m_ S H _ l e.kd e.h M.m_ e.s N) U7 (fun V w _ x=>?_);obtain ⟨W,X,Y,cv,ov,rfl,i,k,n,o,p⟩:=id x;obtain ⟨y,z,rfl,_⟩:=id i;obtain ⟨B,E,rfl,_⟩:=id k;obtain ⟨F,G,rfl,_⟩:=id n;obtain ⟨I,J,rfl,_⟩:=id o;obtain ⟨r,f,rfl,O,aa,_⟩:=id p;simp only [al] at x i k n o p O ⊢;refine Uo U5 fun b4=>Uf (j:=0) U12<|TZ [2,4] d Z<|TU 1 Z fun R d=>Uc af U9<|C4 2 [2,4,10] d Z<|TW (fun t=>?_) fun t=>?_
 ·have h3:3<(cm S H l).obs.length:=by
   have:=aJ t;omega
  have K:=p.sub (l:=0) (h:=3) (m:=f) (Qf _) (by rw [al];omega) om_ (Qb _);rw [Rm,<- R6] at K;have g:BookIn w (.agg ⟨[.slice y (cm S H l).pts.length z,.slice B (cm S H l).tris.length E,.slice F (cm S H l).terr.length G,.slice I (cm S H l).col.length J,.slice (if f=0 then r else r.map (·.add (0*11))) (3-0) (f-0)]⟩) (cm S H (l.take 3)):=by
   rw [sQ];exact ⟨_,_,_,_,_,Z,i,k,n,o,K⟩
  refine TU 1 Z fun R d=>Uc af U9<|UR 0 3 f U12 (fun _=>⟨.inl ⟨Z,Z⟩,.inr ⟨_,Z⟩,.inl ⟨Z,Z⟩,by omega,by omega,Qb _⟩) U2<|TX U6<|Uf (j:=0) U12<|TZ [2,4] d Z<|Ur [0,1,2,3,4,5,6,7,8,9,10,11,12] [] Z kr_ fun R Q d=>Uc af U9<|Ua 2 Z<|Uc af U9<|Ua 3 Z<|Uc af U9<|UC (fun _=>((HJ _ q.m_ _ S H (l.take 3) (fun s hs=>e.s s (List.take_subset _ _ hs)) g).ch _ mup)) U9<|TX U6<|Uu U8<|Uf (j:=1) U12<|C4 1 [2,3] d Z<|Ui (Ve af U5 ?_);exact ⟨Z,_,B8,g.mono mup⟩
 have h3:¬ 3<(cm S H l).obs.length:=by
  have:=Qe t;omega
 have g:BookIn w (.agg ⟨[.slice y (cm S H l).pts.length z,.slice B (cm S H l).tris.length E,.slice F (cm S H l).terr.length G,.slice I (cm S H l).col.length J,.slice r (cm S H l).obs.length f]⟩) (cm S H (l.take 3)):=by
  rw [sQ,QE om_];exact ⟨_,_,_,_,_,Z,i,k,n,o,p⟩
 refine Ur [0,1,2,3,4,5,6,7,8,9,10,11,12] [] Z kr_ fun R Q d=>Uc af U9<|Ua 2 Z<|Uc af U9<|Ua 3 Z<|Uc af U9<|UC (fun _=>((HJ _ q.m_ _ S H (l.take 3) (fun s hs=>e.s s (List.take_subset _ _ hs)) g).ch _ mup)) U9<|TX U6<|Uu U8<|Uf (j:=1) U12<|C4 1 [2,3] d Z<|Ui (Ve af U5 ?_);exact ⟨Z,_,B8,g.mono mup⟩
theorem CT {B:Bk}{o:Obs}{p:Pt}{t:Tri}{z:Rat}(h:(cH B.col o).length<=2):(rowsO B o p t z).length<=8:=by
 unfold rowsO;split
 ·rw [Qi];split <;> split <;> simp
 split
 ·have:=J7 (c:=2) (f:=fun k=>[1, -1].map (iz (bs B) (bp B) k (atT t (wgt B.pts t p)) (kw o z))) (l:=cH B.col o) (fun k _=>by simp);omega
 have:=J7 (c:=4) (f:=fun k=>[1, -1].map (iz (bs B) (bp B) k (atT t fun j=>(slf B.pts t j).1) (qi o))++[1, -1].map (iz (bs B) (bp B) k (atT t fun j=>(slf B.pts t j).2) (iX o))) (l:=cH B.col o) (fun k _=>by simp);omega
theorem D3 (S:Sht)(H:Hts)(l:List Sgt)(c:∀ s∈l,SgtR s)(e:(cC (S.kd % 8) S.a S.b S.h).length<=4):Calm (cm S H l) (fsK (cC (S.kd % 8) S.a S.b S.h).length H) (roK S H l):=by
 have f:(cm S H l).obs.length=min l.length 6:=jF S l;refine ⟨D2 S H l c, ?_,Aa P4 _,fun i g=>?_, ?_,fun i _=>?_,by omega⟩
 ·show 2*(cC (S.kd % 8) S.a S.b S.h).length<=12;omega
 ·have d:i<l.length:=by omega
  refine Ou S H l _ i ?_;rw [aw,aj d];exact c _ (Q8 d)
 ·have h1:=jx (bs (cm S H l)) (bp (cm S H l)) colK 1;have h2:bp (cm S H l)<=4:=e;show (bj (bs (cm S H l)) (bp (cm S H l)) colK 1).length<=24;omega
 refine CT ?_;unfold cH vK;refine Qy (Rw _ _) ?_;rw [Q5];exact Qb 2
theorem ND:∀ n<4,∀ s<2 ^ n,(List.range n).filter (fun q=>!kI [q] (ba s))=ba (Em (2 ^ n-1) s):=by decide +kernel
theorem J3 {j:Nat}:(List.range (j+1)).filter p=(List.range j).filter p++(if p j then [j] else []):=by
 rw [Re,RI];congr 1;simp only [List.filter_cons,List.filter_nil]
theorem CU (C:Mem)(K:Tabs C)(pv:Value)(S:Sht)(H:Hts)(l:List Sgt)(hP:Ce C pv S H l)(ag:PlanR S H l) :
  Gives cx.P 3 [pv] C (.bool true):=by
 obtain ⟨A,c,rfl,aH⟩:=id hP;have bb:maxLen<=9223372036854775807:=by simp [maxLen]
 refine Ud func3 78 U3 fun w0=>TY fun R d=>Up U6 fun b1=>C4 1 [1] d Z<|G.freeze 0 Z fun _ _ aK=>TY fun R d=>Uh (Gr _ K.m_) U7<|C4 1 [1,14] d Z<|TW (fun ah=>?_) fun ah=>?_
 ·exact absurd ah dc_
 refine TY fun R d=>TV (bkT aK 12) U8<|UF (NK _ K.m_ _ S H l ⟨_,_,Z,aH.mono mup⟩ ag) U7 (fun bc _ _ aL=>?_);obtain ⟨bv,rfl,u⟩:=aL;have Q:=D3 S H (l.take 3) (fun s hs=>ag.s s (List.take_subset _ _ hs));have ai:(cm S H (l.take 3)).obs.length<=3:=by
  show (qQ S (l.take 3)).length<=3;rw [jF,Qq];omega
 obtain ⟨RO,aM⟩:∃ RO,roK S H (l.take 3)=RO:=⟨_,rfl⟩;obtain ⟨fs,aO⟩:∃ fs,fsK (cC (S.kd % 8) S.a S.b S.h).length H=fs:=⟨_,rfl⟩;obtain ⟨B,ak⟩:∃ B,cm S H (l.take 3)=B:=⟨_,rfl⟩;rw [aM,aO,ak] at Q;rw [ak] at u ai;obtain ⟨m4,aP⟩:∃ m,(cC (S.kd % 8) S.a S.b S.h).length=m:=⟨_,rfl⟩;rw [aP] at Q ⊢;obtain ⟨v1,v2,tv,cv,ov,rfl,g1,g2,g3,g4,g5⟩:=id u;obtain ⟨B1,d1,rfl,_⟩:=id g1;obtain ⟨B2,d2,rfl,_⟩:=id g2;obtain ⟨B3,d3,rfl,_⟩:=id g3;obtain ⟨B4,d4,rfl,_⟩:=id g4;obtain ⟨B5,d5,rfl,_⟩:=id g5;obtain ⟨n,w⟩:∃ n,B.obs.length=n:=⟨_,rfl⟩;simp only [al,w] at u ai ⊢;refine Ua 3 Z<|Uo U5 fun b3=>Uf (j:=0) U12<|C4 1 [3,4] d Z<|TT 2 [3,21] Z<|TW (fun am=>?_) fun am=>?_
 ·exact TT 1 [2] Z<|Ub U2<|⟨Z,Z⟩
 have h:=Q (by simpa using am);have aQ:=oS n;have h8:2 ^ n<=8:=by
  have:∀ n<4,2 ^ n<=8:=by decide
  exact this n om_
 obtain ⟨F,g⟩:∃ F:Nat->List Nat,∀ i,F i=((bT n).take i).foldl (mN (hC B RO)) []:=⟨_,fun _=>rfl⟩;have aR:F 0=[]:=by rw [g,List.take_zero];rfl
 have an:∀ {i s},(bT n)[i]?=some s->F (i+1)=mN (hC B RO) (F i) s:=fun {i s} hs=>by rw [g,g,pX hs]
 have ao:∀ i,i<=2 ^ n->(F i).length<=8:=fun i hi=>by
  rw [g];have h1:=tM (h:=hC B RO) ((bT n).take i) [];rw [Qq] at h1;simp only [Qu] at h1;omega
 have aS:F (2 ^ n)=wh (hC B RO) (bT n):=by rw [g,QE om_];rfl
 refine G.freeze 0 Z fun _ _ T=>TY fun R d=>TV (bkT T 5) U8<|Uz (sU _ K.m_ _ B fs RO u.m_ h om_) U7 fl_ (fun bd _ _ aT=>?_);obtain ⟨rv,rfl,z⟩:=aT;rw [w] at z;refine C4 5 [3,5,6] d Z<|TT 1 [3,5,6,7] Z<|TU 1 Z fun R d=>TV (bkT T 1) U8<|C4 2 [3,5,6,7,8] d Z<|TU 1 Z fun R d=>Uz (JG _ n om_) U7 fl_ (fun be _ _ aV=>?_);obtain ⟨vS,ap,L⟩:=id aV;obtain ⟨AS,cS,rfl,aq,bf,_⟩:=id L;rw [al] at L aq ⊢;have aW:vS.length=2 ^ n:=by rw [ap.1,al,aQ]
 rw [aW] at L aq ⊢;refine C4 2 [3,5,6,7,8,31,32,33] d Z<|G.nilArr 50 1<|G.loop (fun fr C' k U=>∃ (i:Nat)(vs:List Value)(e:Option Addr)(n1 f:Nat),(i<=2 ^ n/\OutL C' vs ((F i).map ba))/\fr=[(3,[],.pointer (some ⟨b3,0,none⟩)),(5,[],rv),(6,[],.int .i64 0),(7,[],.slice e n1 f),(8,[],.int .i64 n),(31,[],.slice AS (2 ^ n) cS),(32,[],.int .i64 ((2 ^ n:Nat):Int)),(33,[],.int .i64 i)]/\k=[.arr (.slice e n1 f) 50 1 vs.length vs]/\U=2 ^ n-i) (hn_ [3,5,6,7,8,31,32,33] Z) ⟨0,[],none,0,0,⟨Qf _,by rw [aR];exact OutL.nil _⟩,Z,Z,Z⟩ (fun fr bg bh m _ V=>?_);obtain ⟨i,vs,e,n1,f,⟨hi,o⟩,rfl,rfl,rfl⟩:=V;refine TT 1 [3,5,6,7,8,31,32,33,34] Z<|TW (fun W=>?_) fun W=>?_
 ·have ar:i<2 ^ n:=by
   have:=aJ W;omega
  obtain ⟨s,hs⟩:∃ s,(bT n)[i]?=some s:=⟨(bT n)[i]'om_,aj om_⟩;have au:s<2 ^ n:=fQ (Qc hs);have av:vs.length=(F i).length:=by rw [o.1,al]
  have aX:=ao i om_;obtain ⟨D,cs,ay,X⟩:=uc ap i;have aY:((bT n).map ba).getD i []=ba s:=by rw [aw,Qg,hs];rfl
  rw [aY] at ay X;refine TY fun R d=>Ul L.m_ U10 om_ (FW om_ ay) fl_ fun bi aZ=>TV aZ U8<|C4 1 [3,5,6,7,8,10,31,32,33] d Z<|VO 0 Z (fun A7 c7 e7 aA _ _=>?_);cases e7
  obtain ⟨A0,c0,a0,_⟩:=uc o 0;refine TU 7 Z fun R d=>V3 (e.getD ⟨0,0,none⟩).block (0*1) Z Z Z Z Z Z Z Z Z Z (fun Y=>by
   have h:decide ((vs.length:Int) > 0)=true:=Y.1;have:=aJ h;exact ⟨aA om_,by decide,by omega,Z⟩) Z Z ?_
  refine VZ (v:=.slice A0 (((F i).map ba).getD 0 []).length c0) af Z Z Z Z Z Z (fun Y=>by
   have h:decide ((vs.length:Int) > 0)=true:=Y.1;have:=aJ h;refine ⟨aA om_, ?_⟩;rw [<- a0];cases vs with
   | nil=>simp at this
   | cons v r=>rfl) rfl rfl ?_
  refine Ua 2 Z<|Uu U8<|TZ [3,5,6,7,8,10,31,32,33,48] d Z<|TW (fun M=>?_) fun M=>?_
  ·have aa:∃ x,(F i).head?=some x/\fT x<fT s:=by
    simp only [Qn,Qj] at M;cases t:F i with
    | nil=>rw [t,Qu] at av;omega
    | cons x r =>
     refine ⟨x,Z, ?_⟩;have h2:=M.2;rw [t] at h2;have h3:((ba s).length:Int) > ((ba x).length:Int):=h2;show (ba x).length<(ba s).length;omega
   obtain ⟨x,a1,a2⟩:=aa;rw [rL om_ hs (by rw [<- g];exact a1) a2,<- g] at z;exact G.freezeArr 0 (vs.map fun x=>[x]) Z (lg vs) (lf vs) (al _) fun C8 _ ab=>TU 2 Z fun R d=>Uk (ul _ _ _ ((F i).map ba) ((F i).map ba) z.m_ ⟨vs,o.mono mup,ab⟩ (by rw [al];omega)) U7 fl_<|Ua 3 Z<|Uu U8<|C4 1 [2] d Z<|Ub U2<|⟨by rw [Qr rfl];rfl,Z⟩
  have aa:∀ x,(F i).head?=some x->¬ fT x<fT s:=fun x N a3=>by
   refine Bool.eq_false_iff.1 M (Rp.2 ?_);cases t:F i with
   | nil=>rw [t] at N;cases N
   | cons y r =>
    rw [t] at N;cases N
    rw [t,Qs] at av;have h3:(ba x).length<(ba s).length:=a3;exact ⟨Qr om_,Qr (by show ((ba s).length:Int) > ((ba x).length:Int);omega)⟩
  refine TT 1 [3,5,6,7,8,10,11,31,32,33] Z<|TT 1 [3,5,6,7,8,10,11,12,31,32,33] Z<|G.nilArr 3 1<|G.loop (fun fr C' k U=>∃ (j:Nat)(E:Option Addr)(I J:Nat),(j<=n)/\fr=[(3,[],.pointer (some ⟨b3,0,none⟩)),(5,[],rv),(6,[],.int .i64 0),(7,[],.slice e vs.length f),(8,[],.int .i64 n),(10,[],.slice D (ba s).length cs),(11,[],.slice E I J),(12,[],.int .i64 j),(31,[],.slice AS (2 ^ n) cS),(32,[],.int .i64 ((2 ^ n:Nat):Int)),(33,[],.int .i64 i)]/\k=[.arr (.slice E I J) 3 1 ((List.range j).filter fun q=>!kI [q] (ba s)).length ((((List.range j).filter fun q=>!kI [q] (ba s))).map aN).flatten,.arr (.slice e vs.length f) 50 1 vs.length vs]/\U=n-j) (hn_ [3,5,6,7,8,10,11,12,31,32,33] Z) ⟨0,none,0,0,Qf _,Z,Z,Z⟩ (fun fr bj bk m _ V=>?_);obtain ⟨j,E,I,J,hj,rfl,rfl,rfl⟩:=V;refine TT 3 [3,5,6,7,8,10,11,12,31,32,33,51] Z<|TW (fun ac=>?_) fun ac=>?_
  ·have bl:j<n:=by
    have:=aJ ac;omega
   have bm:((List.range j).filter fun q=>!kI [q] (ba s)).length<=j:=by
    have:=Rw (fun q=>!kI [q] (ba s)) (List.range j)
    rwa [Q5] at this
   have O:=J3 (p:=fun q=>!kI [q] (ba s)) (j:=j);refine TU 1 Z fun R d=>Uq [[.int .i64 j]] U12 fun bn _ _ a4=>TX U6<|Uh (JH _ _ _ [j] (ba s) a4.m_ X.m_) U7<|C4 1 [3,5,6,7,8,10,11,12,31,32,33,58] d Z<|TW (fun ad=>?_) fun ad=>?_
   ·rw [aU (by exact ad)] at O;refine TU 2 Z fun R d=>Uq [[.int .i64 j]] U12 fun bo _ _ a5=>Uy (j:=0) U11 a5 Z ax (by show (((List.range j).filter fun q=>!kI [q] (ba s)).length+1)*8<=_;omega) fl_ fun aB aC aD=>C4 1 [3,5,6,7,8,10,11,12,31,32,33] d Z<|TU 1 Z fun R d=>Ue _ U7<|C4 1 [3,5,6,7,8,10,11,12,31,32,33] d Z<|Um (L':=[.arr (.slice aB aC aD) 3 1 ((List.range (j+1)).filter fun q=>!kI [q] (ba s)).length ((((List.range (j+1)).filter fun q=>!kI [q] (ba s))).map aN).flatten,.arr (.slice e vs.length f) 50 1 vs.length vs]) (by rw [O,QS,QW,Qi];rfl)<|Ug (m':=n-(j+1)) om_ mup (hn_ [3,5,6,7,8,10,11,12,31,32,33] Z) ⟨j+1,aB,aC,aD,om_,Z,Z,Z⟩
   rw [az (by rw [ad];decide),QA] at O;refine TU 1 Z fun R d=>Ue _ U7<|C4 1 [3,5,6,7,8,10,11,12,31,32,33] d Z<|Um (L':=[.arr (.slice E I J) 3 1 ((List.range (j+1)).filter fun q=>!kI [q] (ba s)).length ((((List.range (j+1)).filter fun q=>!kI [q] (ba s))).map aN).flatten,.arr (.slice e vs.length f) 50 1 vs.length vs]) (by rw [O])<|Ug (m':=n-(j+1)) om_ mup (hn_ [3,5,6,7,8,10,11,12,31,32,33] Z) ⟨j+1,E,I,J,om_,Z,Z,Z⟩
  have a6:n=j:=by
   have:=Qe ac;omega
  subst a6;rw [ND n om_ s au];refine VD af (fun _ _ a7 _=>?_);cases a7
  refine G.freezeArr 0 ((ba (Em (2 ^ n-1) s)).map aN) Z Z (lY _) (al _) fun _ _ a8=>TY fun R d=>TV (bkT T 5) U8<|TX U6<|Uk (Gw _ K.m_ _ _ B fs RO (ba (Em (2 ^ n-1) s)) u.m_ h (by rw [w];exact (HL om_ (BR n om_ s au)).set) a8.m_) U7 fl_<|TZ [3,5,6,7,8,10,31,32,33,65] d Z<|TW (fun ae=>?_) fun ae=>?_
  ·have hh:hC B RO s=true:=by unfold hC hS;rw [w];exact ae
   refine TU 2 Z fun R d=>Uq [[.slice D (ba s).length cs]] U12 fun bp _ _ a9=>Uy (j:=0) U11 a9 Z ax (by show (vs.length+1)*24<=_;omega) fl_ fun aE aF aG=>C4 1 [3,5,6,7,8,31,32,33] d Z<|TY fun R d=>Ue _ U7<|C4 1 [3,5,6,7,8,31,32,33] d Z<|Um (L':=[.arr (.slice aE aF aG) 50 1 (vs++[Value.slice D (ba s).length cs]).length (vs++[Value.slice D (ba s).length cs])]) (by rw [Qi];rfl)<|Ug (m':=2 ^ n-(i+1)) om_ mup (hn_ [3,5,6,7,8,31,32,33] Z) ⟨i+1,vs++[Value.slice D (ba s).length cs],aE,aF,aG,⟨by omega,by rw [an hs,I5 aa hh,QS];exact o.m_.snoc X.m_⟩,Z,Z,Z⟩
  have hh:hC B RO s=false:=by unfold hC hS;rw [w];exact ae
  refine TY fun R d=>Ue _ U7<|C4 1 [3,5,6,7,8,31,32,33] d Z<|Ug (m':=2 ^ n-(i+1)) om_ mup (hn_ [3,5,6,7,8,31,32,33] Z) ⟨i+1,vs,e,vs.length,f,⟨by omega,by rw [an hs,pd hh];exact o.mono mup⟩,Z,Z,Z⟩
 have ar:i=2 ^ n:=by
  have:=Qe W;omega
 subst ar;rw [<- aS] at z;have aX:=ao (2 ^ n) (Qb _);exact G.freezeArr 0 (vs.map fun x=>[x]) Z (lg vs) (lf vs) (al _) fun C8 _ ab=>TU 2 Z fun R d=>Uk (ul _ _ _ ((F (2 ^ n)).map ba) ((F (2 ^ n)).map ba) z.m_ ⟨vs,o.mono mup,ab⟩ (by rw [al];omega)) U7 fl_<|Ua 3 Z<|Uu U8<|C4 1 [2] d Z<|Ub U2<|⟨by rw [Qr rfl];rfl,Z⟩
end Go.Proofs.YthnpijdjlddpmaaGreatDoor
