/- Laws that the proofs of this seat share, part 14. -/
import Derived.Test.YthnpijdjlddpmaaGreatDoorG13
import Derived.Test.YthnpijdjlddpmaaGreatDoorShelf
set_option maxHeartbeats 4000000
namespace Go.Proofs.YthnpijdjlddpmaaGreatDoor
open Go.Proofs.Tryz
open Go Go.Jog
set_option maxRecDepth 100000
variable {C:Mem}{k:Nat}{l:List Nat}{outs:List (List Nat)}{q:Rat}{u v:Value}{vs:List Value}{α:Type}
def pO1:Obs:=⟨2,[120],qtx 1,qtx 0,[49],[66],[65],[],[],[]⟩
def pO2:Obs:=⟨2,[121],qtx 1,qtx 0,[50],[66],[65],[],[],[]⟩
def pB:Bk:=⟨[(0,0),(2,0),(0,2)],[(0,1,2)],[[57],[57],[57]],[⟨[65],0,none⟩,⟨[66],0,none⟩],[pO1,pO2]⟩
theorem zR (C:Mem)(b:Tabs C)(x y:Int)(c:x.natAbs<1000000000)(d:y.natAbs<1000000000):Gives cx.P 19 [.int .i64 x,.int .i64 y] C (ptV (((x:Int):Rat),((y:Int):Rat))):=by
 refine Uk func19 10 U3 fun w0=>Uf fun R a=>Uv U5 fun e=>Ug [0,1,4] a Z<|Ub 1 Z fun R a=>Us (li _ b.m_ x om_) U7 fl_<|Ue U6<|Us (li _ b.m_ y om_) U7 fl_<|Uu [ah (qtx x),ah (qtx y)] U8<|Um (j:=0) U12<|Ug [4] a Z<|Up (UU af U4 ?_);exact ⟨Z,Z⟩
def nM (nm d:Str):List Value:=[.int .i64 2,ah nm,ah (qtx ((1:Int):Rat)),ah (qtx ((0:Int):Rat)),ah d,ah [66],ah [65],ah [],ah [],ah []]
theorem Ld (C:Mem)(c:Tabs C)(a d:Str):Gives cx.P 44 [ah a,ah d] C (.agg ⟨nM a d⟩):=by
 refine Uk func44 9 U3 fun w0=>Uf fun R b=>Uv U5 fun e=>Ug [0,1,4] b Z<|Ub 1 Z fun R b=>Us (zR _ c.m_ 1 0 dc_ dc_) U7 fl_<|Ue U6<|Uu (nM a d) U8<|Um (j:=0) U12<|Ug [4] b Z<|Up (UU af U4 ?_);exact ⟨Z,Z⟩
theorem Dk:pB.col.map yT=[[ah [65],ah [48],ah []],[ah [66],ah [48],ah []]]:=by
 show [[ah [65],ah (qtx 0),ah []],[ah [66],ah (qtx 0),ah []]]=_;rw [Pz]
theorem MT (C:Mem)(o:Tabs C):Pur cx.P 18 [] C fun u D=>BookIn D u pB:=by
 refine Uk func18 21 U3 fun w0=>Uf fun R a=>Uv U5 fun y=>Ug [0] a Z<|Uf fun R a=>Us (zR _ o.m_ 0 0 dc_ dc_) U7 fl_<|Us (zR _ o.m_ 2 0 dc_ dc_) U7 fl_<|Us (zR _ o.m_ 0 2 dc_ dc_) U7 fl_<|UO [gn (((0:Int):Rat),((0:Int):Rat)),gn (((2:Int):Rat),((0:Int):Rat)),gn (((0:Int):Rat),((2:Int):Rat))] U12 fl_ fun i _ _ m=>Uu ([.int .i64 0,.int .i64 1,.int .i64 2]) U8<|UO [[.int .i64 0,.int .i64 1,.int .i64 2]] U12 fl_ fun k _ _ n=>Uu [.slice (some ⟨i,0,none⟩) 3 3,.slice (some ⟨k,0,none⟩) 1 1] U8<|Uv U5 fun H=>Um (j:=0) U12<|Ug [0,1] a Z<|Ua 1 [0,1,2] Z<|G.freeze 0 Z fun _ _ z=>G.cut (fun fr C' A B=>∃ (s t v w x:Value),(BookIn C' (.agg ⟨[s,t,v,w,x]⟩) pB)/\fr=[(0,[],.pointer (some ⟨y,0,none⟩))]/\A=[.obj y (.cells ⟨[s,t,v,w,x]⟩ 42 (0,0))]) ?_ (fun fr I J B K E=>?_)
 ·refine UV (.cut [0,2,3,5,6,7,8] (.alt 1 (.cut [] (.alt 4 (.fin [9,10,11]) (.alt 9 (.fin [4,10,11]) .stop))) (.alt 4 (.cut [] (.alt 1 (.fin [9,10,11]) (.alt 9 (.fin [1,10,11]) .stop))) (.alt 9 (.cut [] (.alt 1 (.fin [4,10,11]) (.alt 4 (.fin [1,10,11]) .stop))) .stop)))) [(6,1),(8,1),(0,0)] Z Z kr_ fun R l a b=>Vg (fun _=>((bkT z 2).mono l)) U9<|Uu ([ah [65],ah [48],ah []]) U8<|Uu ([ah [66],ah [48],ah []]) U8<|Ue U6<|UJ (fun _=>(Ld _ o.m_ [120] [49])) U9<|Ue U6<|UJ (fun _=>(Ld _ o.m_ [121] [50])) U9<|UK b Z ⟨?_, ?_, ?_,trivial⟩
  ·refine UO [[ah [57]],[ah [57]],[ah [57]]] U12 fl_ fun c p _ d=>UK b Z ⟨?_, ?_,trivial⟩
   ·refine UO [[ah [65],ah [48],ah []],[ah [66],ah [48],ah []]] U12 fl_ fun e q _ f=>UO [nM [120] [49],nM [121] [50]] U12 fl_ fun g r _ h=>Uu [.slice (some ⟨i,0,none⟩) 3 3,.slice (some ⟨k,0,none⟩) 1 1,.slice (some ⟨c,0,none⟩) 3 3,.slice (some ⟨e,0,none⟩) 2 2,.slice (some ⟨g,0,none⟩) 2 2] U8<|Um (j:=0) U12<|Ug [0] a Z ?_;clear a l b R;exact Uq 0 mup (hn_ [0] Z) ⟨_,_,_,_,_,⟨_,_,_,_,_,Z,m.mono mup,n.mono mup,d.mono mup,(by rw [Dk];exact f.mono mup),h.mono mup⟩,Z,Z⟩
   refine UO [nM [120] [49],nM [121] [50]] U12 fl_ fun g r _ h=>UO [[ah [65],ah [48],ah []],[ah [66],ah [48],ah []]] U12 fl_ fun e q _ f=>Uu [.slice (some ⟨i,0,none⟩) 3 3,.slice (some ⟨k,0,none⟩) 1 1,.slice (some ⟨c,0,none⟩) 3 3,.slice (some ⟨e,0,none⟩) 2 2,.slice (some ⟨g,0,none⟩) 2 2] U8<|Um (j:=0) U12<|Ug [0] a Z ?_;clear a l b R;exact Uq 0 mup (hn_ [0] Z) ⟨_,_,_,_,_,⟨_,_,_,_,_,Z,m.mono mup,n.mono mup,d.mono mup,(by rw [Dk];exact f.mono mup),h.mono mup⟩,Z,Z⟩
  ·refine UO [[ah [65],ah [48],ah []],[ah [66],ah [48],ah []]] U12 fl_ fun e q _ f=>UK b Z ⟨?_, ?_,trivial⟩
   ·refine UO [[ah [57]],[ah [57]],[ah [57]]] U12 fl_ fun c p _ d=>UO [nM [120] [49],nM [121] [50]] U12 fl_ fun g r _ h=>Uu [.slice (some ⟨i,0,none⟩) 3 3,.slice (some ⟨k,0,none⟩) 1 1,.slice (some ⟨c,0,none⟩) 3 3,.slice (some ⟨e,0,none⟩) 2 2,.slice (some ⟨g,0,none⟩) 2 2] U8<|Um (j:=0) U12<|Ug [0] a Z ?_;clear a l b R;exact Uq 0 mup (hn_ [0] Z) ⟨_,_,_,_,_,⟨_,_,_,_,_,Z,m.mono mup,n.mono mup,d.mono mup,(by rw [Dk];exact f.mono mup),h.mono mup⟩,Z,Z⟩
   refine UO [nM [120] [49],nM [121] [50]] U12 fl_ fun g r _ h=>UO [[ah [57]],[ah [57]],[ah [57]]] U12 fl_ fun c p _ d=>Uu [.slice (some ⟨i,0,none⟩) 3 3,.slice (some ⟨k,0,none⟩) 1 1,.slice (some ⟨c,0,none⟩) 3 3,.slice (some ⟨e,0,none⟩) 2 2,.slice (some ⟨g,0,none⟩) 2 2] U8<|Um (j:=0) U12<|Ug [0] a Z ?_;clear a l b R;exact Uq 0 mup (hn_ [0] Z) ⟨_,_,_,_,_,⟨_,_,_,_,_,Z,m.mono mup,n.mono mup,d.mono mup,(by rw [Dk];exact f.mono mup),h.mono mup⟩,Z,Z⟩
  refine UO [nM [120] [49],nM [121] [50]] U12 fl_ fun g r _ h=>UK b Z ⟨?_, ?_,trivial⟩
  ·refine UO [[ah [57]],[ah [57]],[ah [57]]] U12 fl_ fun c p _ d=>UO [[ah [65],ah [48],ah []],[ah [66],ah [48],ah []]] U12 fl_ fun e q _ f=>Uu [.slice (some ⟨i,0,none⟩) 3 3,.slice (some ⟨k,0,none⟩) 1 1,.slice (some ⟨c,0,none⟩) 3 3,.slice (some ⟨e,0,none⟩) 2 2,.slice (some ⟨g,0,none⟩) 2 2] U8<|Um (j:=0) U12<|Ug [0] a Z ?_;clear a l b R;exact Uq 0 mup (hn_ [0] Z) ⟨_,_,_,_,_,⟨_,_,_,_,_,Z,m.mono mup,n.mono mup,d.mono mup,(by rw [Dk];exact f.mono mup),h.mono mup⟩,Z,Z⟩
  refine UO [[ah [65],ah [48],ah []],[ah [66],ah [48],ah []]] U12 fl_ fun e q _ f=>UO [[ah [57]],[ah [57]],[ah [57]]] U12 fl_ fun c p _ d=>Uu [.slice (some ⟨i,0,none⟩) 3 3,.slice (some ⟨k,0,none⟩) 1 1,.slice (some ⟨c,0,none⟩) 3 3,.slice (some ⟨e,0,none⟩) 2 2,.slice (some ⟨g,0,none⟩) 2 2] U8<|Um (j:=0) U12<|Ug [0] a Z ?_;clear a l b R;exact Uq 0 mup (hn_ [0] Z) ⟨_,_,_,_,_,⟨_,_,_,_,_,Z,m.mono mup,n.mono mup,d.mono mup,(by rw [Dk];exact f.mono mup),h.mono mup⟩,Z,Z⟩
 obtain ⟨s,t,v,w,x,F,rfl,rfl⟩:=E;refine Up (UU af U4 ?_);exact ⟨Z,F⟩
theorem MD (h:q.den=1):q=(q.num:Rat):=Rat.ext rfl h
def wlB (D:Int)(q:Rat):Bool:=decide ((q*(D:Rat)).den=1) && decide ((q*(D:Rat)).num.natAbs<=999999999)
theorem K4 {D:Int}(h:wlB D q=true):Wl D q:=by
 unfold wlB at h;simp only [Qu,Qs] at h;exact ⟨_,MD h.1,h.2⟩
theorem Ja {r:RowQ}(D:Int)(a:D≠0)(c:D.natAbs<=999999999)(h:(r.f.all (wlB D) && wlB D r.b)=true):RowI r:=by
 simp only [Qu,QD] at h;exact ⟨D,a,c,fun q d=>K4 (h.1 q d),K4 h.2⟩
theorem tU:qtx 1=[49]:=tV (z:=1) aq
theorem Jf:qtx 9=[57]:=tV (z:=9) aq
theorem ro1:dy [49]=1:=yp 1 tU aq
theorem PP:dy [50]=2:=yp 2 ME aq
theorem rn:pO1=⟨2,[120],[49],[48],[49],[66],[65],[],[],[]⟩:=by rw [pO1,tU,qtx_zero]
theorem rm:pO2=⟨2,[121],[49],[48],[50],[66],[65],[],[],[]⟩:=by rw [pO2,tU,qtx_zero]
theorem OP:Good pB.pts pB.tris:=(G1 aq dc_ dc_ dc_).1
theorem F2:lP pB.pts pB.tris (1,0)=[0]:=by decide +kernel
theorem PU:ptO pO1=(1,0):=by rw [rn];unfold ptO;rw [ro1,ro0]
theorem PT:ptO pO2=(1,0):=by rw [rm];unfold ptO;rw [ro1,ro0]
theorem PS:dP pO1=0:=by rw [rn];decide +kernel
theorem PR:dP pO2=0:=by rw [rm];decide +kernel
theorem PW:gz pB.pts pB.tris pB.col pO1=0:=by
 unfold gz;rw [aA (by rw [PS];decide),aA (by unfold Ik;rw [PU,F2];decide),aA (by rw [rn];decide +kernel),aA (by rw [rn];decide +kernel),aA (by rw [rn];unfold Ko;rw [ro1];decide +kernel),aA (by rw [rn];decide +kernel)]
theorem PV:gz pB.pts pB.tris pB.col pO2=0:=by
 unfold gz;rw [aA (by rw [PR];decide),aA (by unfold Ik;rw [PT,F2];decide),aA (by rw [rm];decide +kernel),aA (by rw [rm];decide +kernel),aA (by rw [rm];unfold Ko;rw [PP];decide +kernel),aA (by rw [rm];decide +kernel)]
def pFs:List Rat:=[9,9,9]
theorem OM:Terr pB pFs:=⟨by simp [pB,pFs,Jf],rfl,by decide +kernel⟩
theorem p_on:onQ pB.pts pFs (0,1,2) (1,0)=9:=by decide +kernel
theorem OL:EI pB.pts pB.tris pFs (1,0)=.tuple #[ah (qtx 9),.int .i64 0]:=by
 unfold EI;rw [F2];show Dp (onQ pB.pts pFs (0,1,2) (1,0))=_;rw [p_on];unfold Dp;rw [aV (bO aq)]
theorem p_w:∀ j,QB 22 (wgt pB.pts (0,1,2) (1,0) j):=by
 intro j;rw [LZ];rcases (by omega:j % 3=0∨j % 3=1∨j % 3=2) with h | h | h <;> rw [h] <;> decide +kernel
theorem p_sl:∀ j,QP 22 (slf pB.pts (0,1,2) j):=by
 intro j;unfold slf;rw [Iz];rcases (by omega:min j 2=0∨min j 2=1∨min j 2=2) with h | h | h <;> rw [h] <;> decide +kernel
def pR (z:Rat):List RowQ:=[⟨[1/2,1/2,0],z⟩,⟨[-1/2, -1/2,0], -z⟩]
theorem p_rows1:rowsO pB pO1 (1,0) (0,1,2) 9=pR 8:=by
 unfold rowsO kC;rw [rn,ro1];decide +kernel
theorem p_rows2:rowsO pB pO2 (1,0) (0,1,2) 9=pR 7:=by
 unfold rowsO kC;rw [rm,PP];decide +kernel
theorem PX:∀ o∈pB.obs,ObsR o:=by
 intro o a;simp only [pB,Qw,Rk,SJ] at a;rcases a with rfl | rfl
 ·rw [rn];exact ⟨by decide,by decide,by decide,by decide,by decide,by decide,by decide,by decide,by decide⟩
 rw [rm];exact ⟨by decide,by decide,by decide,by decide,by decide,by decide,by decide,by decide,by decide⟩
theorem p_br:BookR pB:=by
 refine ⟨by decide, ?_,by decide,PX⟩;intro x a;simp only [pB,Qw,Rk,SJ] at a;rcases a with rfl | rfl
 ·exact ⟨by decide +kernel,fun q h=>by simp at h,by decide⟩
 exact ⟨by decide +kernel,fun q h=>by simp at h,by decide⟩
theorem p_bz:ix pB=0:=by
 have h1:rb pB 1=0:=by
  have h0:rb pB 0=0:=rfl;show (if rb pB 0≠0 then rb pB 0 else obZ pB (pB.obs.take 0) (pB.obs.getD 0 JG))=0;rw [aA (by rw [h0];decide)];show obZ pB [] pO1=0;unfold obZ;rw [aA (by rw [PW];decide),aA dc_]
 have h2:rb pB 2=0:=by
  show (if rb pB 1≠0 then rb pB 1 else obZ pB (pB.obs.take 1) (pB.obs.getD 1 JG))=0;rw [aA (by rw [h1];decide)];show obZ pB [pO1] pO2=0;unfold obZ;rw [aA (by rw [PV];decide),aA dc_]
 unfold ix;rw [aA aq,aA aq,aA dc_];exact h2
def pRO (i:Nat):List RowQ:=if i=0 then pR 8 else pR 7
theorem MW:Fine pB pFs pO1 (1,0) 0 (0,1,2) 9 :=
 ⟨⟨rfl,rfl,by decide +kernel,⟨bO aq,bO aq⟩,fun _=>by decide +kernel⟩,⟨[],F2⟩,rfl,OL,by decide +kernel,by unfold kC;rw [rn,ro1];decide +kernel,p_w,by rw [rn];decide +kernel,p_sl,fun _ h=>absurd rfl h,by
  rw [p_rows1];unfold N4;decide +kernel⟩
theorem MV:Fine pB pFs pO2 (1,0) 0 (0,1,2) 9 :=
 ⟨⟨rfl,rfl,by decide +kernel,⟨bO aq,bO aq⟩,fun _=>by decide +kernel⟩,⟨[],F2⟩,rfl,OL,by decide +kernel,by unfold kC;rw [rm,PP];decide +kernel,p_w,by rw [rm];decide +kernel,p_sl,fun _ h=>absurd rfl h,by
  rw [p_rows2];unfold N4;decide +kernel⟩
theorem ON:Rich pB pFs pRO:=by
 refine ⟨OP,p_br,p_bz,OM,by decide,fun i o a=>?_⟩;rcases (by have h:=(aE.1 a).1;have h2:pB.obs.length=2:=rfl;omega:i=0∨i=1) with rfl | rfl
 ·simp only [pB,List.getElem?_cons_zero,QW] at a;subst a;exact ⟨_,_,_,_,MW,p_rows1.symm⟩
 simp only [pB,R7,List.getElem?_cons_zero,QW] at a;subst a;exact ⟨_,_,_,_,MV,p_rows2.symm⟩
theorem pR_I:∀ r∈pR 8++pR 7,RowI r:=by
 intro r hr;simp only [pR,R3,Sa,Qw,Rk,SJ] at hr;rcases hr with rfl | rfl | rfl | rfl <;> exact Ja 2 dc_ dc_ aq
theorem p_th:bH pB=[]:=rfl
theorem Bi:Calm pB pFs pRO:=by
 refine ⟨ON,by decide,fun r hr=>(by rw [p_th] at hr;cases hr),fun i _ r hr=>?_,by decide,fun i _=>?_,by decide⟩
 ·refine pR_I r ?_;unfold pRO at hr;split at hr
  ·exact RP _ hr
  exact Se _ hr
 unfold pRO;split <;> decide
theorem F3 (y:Rat)(h:∀ r∈eX pB pRO l,Lp.sumN (fun j=>r.f.getD j 0*y) 3<=r.b):ii pB pRO l=true:=J3 (wX.2 ⟨fun _=>y,h⟩)
theorem ue :eX pB pRO l=l.flatMap pRO:=by rw [nV,p_th];rfl
theorem p_h0:ii pB pRO []=true:=F3 0 (by rw [ue];decide)
theorem p_h1:ii pB pRO [0]=true:=F3 8 (by rw [ue];decide +kernel)
theorem p_h2:ii pB pRO [1]=true:=F3 7 (by rw [ue];decide +kernel)
theorem p_h3:ii pB pRO [0,1]=false:=by
 refine GW fun h=>?_;obtain ⟨y,hy⟩:=wX.1 h;rw [ue] at hy;have h1:=hy ⟨[-1/2, -1/2,0], -8⟩ aq;have h2:=hy ⟨[1/2,1/2,0],7⟩ aq;have e:bs pB*bp pB=3:=rfl;rw [e] at h1 h2;simp only [Lp.sumN,ax,List.getElem?_cons_zero,R7,Ry] at h1 h2;grind
theorem p_hS:hS pB pRO 0=true/\hS pB pRO 1=true/\hS pB pRO 2=true/\hS pB pRO 3=false:=⟨p_h0,p_h1,p_h2,p_h3⟩
theorem Ox:bQ 2=[0,1,2,3]:=by decide +kernel
theorem MX:eI (hS pB pRO) (bQ 2)=[3]:=by
 obtain ⟨h0,h1,h2,h3⟩:=p_hS;rw [Ox];simp only [eI,R0,List.foldl_nil,fu,h0,h1,h2,h3,List.any_nil,Bool.or_true,Bool.or_false,Sc,Q9,Rx,Sa]
theorem OO:(yo (hC pB pRO) (bQ 2)).map aZ=[[0],[1]]:=by
 obtain ⟨h0,h1,h2,h3⟩:=p_hS;have a:hC pB pRO 0=false:=h3;have b:hC pB pRO 1=true:=h2;have c:hC pB pRO 2=true:=h1;have d:hC pB pRO 3=true:=h0;rw [Ox];simp only [yo,R0,List.foldl_nil,pj,a,b,c,d];decide +kernel
theorem Qe:AscIn 2 [0,1]:=⟨by decide,by decide⟩
theorem asc1:AscIn 2 [1]:=⟨by decide,by decide⟩
theorem Dm {D:Mem}{a b:Value}{p q:List Nat}(c:Sl D 1 a (p.map aO))(d:Sl D 1 b (q.map aO))(e:Sl D 1 v [[a],[b]]):OutsIn D v [p,q] :=
 ⟨[a,b],(OutL.nil D).snoc c |>.snoc d,e⟩
theorem yg {x:Nat}{D:Mem}(h:SmallO [x] D u):∃ v,u=.tuple #[v,.bool true,.int .i64 0]/\Sl D 1 v ((aZ x).map aO):=by
 cases h with
 | none h=>cases h
 | some y v h1 h2 =>
  cases h1
  exact ⟨v,Z,h2⟩
theorem Gz (C:Mem)(b:Tabs C):Gives cx.P 11 [] C (.bool true):=by
 refine Uk func11 71 U3 fun w0=>Ub 1 Z fun R a=>Ve [] trivial (a _ _ _ Z ?_);refine Uf fun R a=>UM (MT _ b.m_) U7 (fun y _ _ c=>?_);obtain ⟨w1,z,A,B,D,rfl,g,h,i,k,l⟩:=id c.ex;obtain ⟨E,F,rfl,_⟩:=id g;obtain ⟨A2,c2,rfl,_⟩:=id h;obtain ⟨H,I,rfl,_⟩:=id i;obtain ⟨J,K,rfl,_⟩:=id k;obtain ⟨L,M,rfl,_⟩:=id l;refine Uv U5 fun N=>Um (j:=0) U12<|Ug [1] a Z<|G.freeze 0 Z fun _ _ e=>Uf fun R a=>Uc (bkT e 5) U8<|Ux [[.int .i64 0],[.int .i64 1]] U12 fun O _ _ m=>Uo (Cl _ b.m_ _ _ pB pFs pRO [0,1] c.m_ Bi Qe m.m_) U7<|C4 5 [1,2,3] a Z<|Uf fun R a=>Uc (bkT e 5) U8<|Ux [[.int .i64 1]] U12 fun Q _ _ n=>Uo (Cl _ b.m_ _ _ pB pFs pRO [1] c.m_ Bi asc1 n.m_) U7<|C4 5 [1,2,3,4,5] a Z<|Uf fun R a=>Uc (bkT e 5) U8<|UG (qS _ b.m_ _ pB pFs pRO c.m_ Bi dc_) U7 fl_ (fun S _ _ o=>?_);have p:=MX ▸ o;obtain ⟨T,rfl,q⟩:=yg p;refine C4 7 [1,2,3,4,5,6,7,8] a Z<|Uf fun R a=>Uc (bkT e 5) U8<|UG (Eb _ b.m_ _ pB pFs pRO c.m_ Bi dc_) U7 fl_ (fun U _ _ r=>?_);obtain ⟨V,rfl,f⟩:=r;rw [show pB.obs.length=2 from rfl,OO] at f;exact C4 5 [2,3,4,5,6,7,8,9,10] a Z<|Ub 5 Z fun R a=>UB U8<|Uh 2 Z<|UB U8<|Uh 3 Z<|UB U8<|Uh 2 Z<|VC [[.int .i64 0],[.int .i64 1]] U12 fl_ U2 fun W _ _ s=>Uz (fun d=>pT _ _ _ [0,1] [0,1] q.m_ ((s (by exact d)).mono mup)) U9<|UB U8<|Uh 2 Z<|UB U8<|Uh 3 Z<|UB U8<|Uh 2 Z<|VC [[.int .i64 0]] U12 fl_ U2 fun t _ _ u=>VC [[.int .i64 1]] U12 fl_ U2 fun v _ _ w=>VC [[.slice (some ⟨t,0,none⟩) 1 1],[.slice (some ⟨v,0,none⟩) 1 1]] U12 fl_ U2 fun X _ _ x=>Uz (fun d=>Bz _ _ _ [[0],[1]] [[0],[1]] f.m_ (Dm ((u (by exact d)).mono mup) ((w (by exact d)).mono mup) ((x (by exact d)).mono mup)) dc_) U9<|UB U8<|Uh 3 Z<|UB U8<|C4 1 [0] a Z<|Ui U2<|⟨by rw [p_h3,p_h2];rfl,Z⟩
def Dj (a b:List Nat):Bool:=a.all fun x=>b.any fun y=>x == y
theorem KS {b:List Nat}{y:Nat}{p:Nat->Bool}(h:b[k]?=some y):(b.take (k+1)).any p=((b.take k).any p || p y):=by
 rw [QO,h,List.any_append];simp
theorem yu (x y:Nat):((x:Int) == (y:Int))=(x == y):=by
 by_cases h:x=y
 ·subst h;simp
 rw [Rr.2 h,Rr.2 (fun e=>h (Int.ofNat_inj.1 e))]
theorem JO (C:Mem)(v w:Value)(a b:List Nat)(f:Sl C 1 v (a.map aO))(g:Sl C 1 w (b.map aO)):Gives cx.P 15 [v,w] C (.bool (Dj a b)):=by
 obtain ⟨A,c,rfl,B,J,_⟩:=id f;obtain ⟨A2,c2,rfl,D,K,_⟩:=id g;have L:maxLen<=9223372036854775807:=by simp [maxLen]
 simp only [al] at f g B D ⊢;refine Uk func15 32 U3 fun w0=>Ua 1 [0,1] Z<|Ua 3 [1,10,11,12] Z<|G.loop (fun fr C' h j=>∃ (i:Nat),(i<=a.length/\(a.take i).all (fun x=>b.any fun y=>x == y)=true)/\fr=[(1,[],.slice A2 b.length c2),(10,[],.slice A a.length c),(11,[],.int .i64 a.length),(12,[],.int .i64 i)]/\h=[]/\j=a.length-i) (hn_ [1,10,11,12] Z) ⟨0,⟨Qm _,Z⟩,Z,Z,Z⟩ (fun fr M N m _ l=>?_);obtain ⟨i,⟨O,n⟩,rfl,rfl,rfl⟩:=l;refine Ua 1 [1,10,11,12,13] Z<|Ud (fun o=>?_) fun o=>?_
 ·have q:i<a.length:=by
   have:=aK o;omega
  obtain ⟨x,r⟩:∃ x,a[i]?=some x:=⟨a[i],ak q⟩;refine Uf fun R d=>Ur f.m_ U10 om_ (jo r) fl_ fun Q E=>Uc E U8<|C4 1 [1,6,10,11,12] d Z<|Ua 1 [1,6,7,10,11,12] Z<|Ua 3 [1,6,7,10,11,12,16,17,18] Z<|G.loop (fun fr C' h j=>∃ (k:Nat),(k<=b.length)/\fr=[(1,[],.slice A2 b.length c2),(6,[],.int .i64 (x:Nat)),(7,[],.bool ((b.take k).any fun y=>x == y)),(10,[],.slice A a.length c),(11,[],.int .i64 a.length),(12,[],.int .i64 i),(16,[],.slice A2 b.length c2),(17,[],.int .i64 b.length),(18,[],.int .i64 k)]/\h=[]/\j=b.length-k) (hn_ [1,6,7,10,11,12,16,17,18] Z) ⟨0,Qm _,Z,Z,Z⟩ (fun fr S T m F l=>?_);obtain ⟨k,U,rfl,rfl,rfl⟩:=l;refine Ua 1 [1,6,7,10,11,12,16,17,18,19] Z<|Ud (fun s=>?_) fun s=>?_
  ·have t:k<b.length:=by
    have:=aK s;omega
   obtain ⟨y,hy⟩:∃ y,b[k]?=some y:=⟨b[k],ak t⟩;have H:=KS (p:=fun y=>x == y) hy;refine Uf fun R d=>Ur g.m_ U10 om_ (jo hy) fl_ fun V I=>Uc I U8<|C4 1 [1,6,7,9,10,11,12,16,17,18] d Z<|Ub 5 Z fun R d=>UH U8<|C4 1 [1,6,7,10,11,12,16,17,18] d Z ?_;rw [show (((b.take k).any fun y=>x == y) || ((x:Int) == (y:Int)))=(b.take (k+1)).any fun y=>x == y from by rw [H];congr 1;exact yu x y];refine Uf fun R d=>Ul _ U7<|C4 1 [1,6,7,10,11,12,16,17,18] d Z<|Un (m':=b.length-(k+1)) om_ F (hn_ [1,6,7,10,11,12,16,17,18] Z) ⟨k+1,om_,Z,Z,Z⟩
  have t:k=b.length:=by
   have:=Ql s;omega
  subst t;rw [Qv];refine Ua 2 [1,10,11,12,30] Z<|Ud (fun u=>?_) fun u=>?_
  ·have z:(b.any fun y=>x == y)=false:=by simpa using u
   refine Ua 1 [4] Z<|Ui U2<|⟨?_,Z⟩;have e:Dj a b=false:=by
    unfold Dj;exact SD.2 ⟨x,Qj r,by simp only [z];decide⟩
   rw [e]
  have z:(b.any fun y=>x == y)=true:=by simpa using u
  refine Uf fun R d=>Ul _ U7<|C4 1 [1,10,11,12] d Z<|Un (m':=a.length-(i+1)) om_ mup (hn_ [1,10,11,12] Z) ⟨i+1,⟨by omega,by rw [QO,r,S2,n];simpa using z⟩,Z,Z,Z⟩
 have q:i=a.length:=by
  have:=Ql o;omega
 refine Ua 1 [4] Z<|Ui U2 ?_;rw [q,Qv] at n;exact ⟨by rw [Dj,n],Z⟩
theorem JQ (C:Mem)(v w:Value)(a b:List Nat)(g:Sl C 1 v (a.map aO))(h:Sl C 1 w (b.map aO))(J:a.length<=b.length):Gives cx.P 42 [v,w] C (.bool (yz a b)):=by
 obtain ⟨A,c,rfl,p,K,_⟩:=id g;obtain ⟨A2,c2,rfl,q,L,_⟩:=id h;have M:maxLen<=9223372036854775807:=by simp [maxLen]
 simp only [al] at g h p q ⊢;refine Uk func42 30 U3 fun w0=>Ua 1 [0,1] Z<|Ua 1 [0,1,5] Z<|G.loop (fun fr C' r s=>∃ (k:Nat),(k<=a.length/\yz (a.drop k) (b.drop k)=yz a b)/\fr=[(0,[],.slice A a.length c),(1,[],.slice A2 b.length c2),(5,[],.int .i64 k)]/\r=[]/\s=a.length-k) (hn_ [0,1,5] Z) ⟨0,⟨Qm _,Z⟩,Z,Z,Z⟩ (fun fr N O m t u=>?_);obtain ⟨k,⟨Q,d⟩,rfl,rfl,rfl⟩:=u;refine Ua 4 [0,1,5,9] Z<|Ud (fun j=>?_) fun j=>?_
 ·have i:k<a.length:=by
   have:=aK j;omega
  have o:k<b.length:=by omega
  obtain ⟨x,l⟩:∃ x,a[k]?=some x:=⟨a[k],ak i⟩;obtain ⟨y,hy⟩:∃ y,b[k]?=some y:=⟨b[k],ak o⟩;rw [QK i,QK o,(aE.1 l).2,(aE.1 hy).2] at d;refine Uy [0,1,2,3,4,5,6,7,8] [] Z kr_ fun R z f=>Uh 2 Z<|Ur g.m_ U10 om_ (jo l) fl_ fun S B=>Uc B U8<|Uh 2 Z<|Ur h.m_ U10 om_ (jo hy) fl_ fun T D=>Uc D U8<|C4 1 [0,1,5,20] f Z<|Ud (fun n=>?_) fun n=>?_
  ·have E:x≠y:=fun e=>by subst e;simp at n
   refine Uy [0,1,2,3,4,5,6,7,8,9] [] Z kr_ fun R z f=>Uh 2 Z<|Ur g.m_ U10 om_ (jo l) fl_ fun U F=>Uc F U8<|Uh 2 Z<|Ur h.m_ U10 om_ (jo hy) fl_ fun V H=>Uc H U8<|C4 2 [4] f Z<|Ui U2<|⟨?_,Z⟩;rw [<- d];simp only [yz,aA E];congr 1;exact Q4.2 om_
  have I:x=y:=by
   have:(x:Int)=y:=by simpa using n
   omega
  refine Ub 1 Z fun R f=>Ul _ U7<|C4 1 [0,1,5] f Z<|Un (m':=a.length-(k+1)) om_ t (hn_ [0,1,5] Z) ⟨k+1,⟨by omega,by rw [<- d];simp only [yz,aV I]⟩,Z,Z,Z⟩
 have i:k=a.length:=by
  have:=Ql j;omega
 refine Ua 1 [4] Z<|Ui U2 ?_;rw [i,Rq] at d;exact ⟨by rw [<- d];rfl,Z⟩
def NT (D:Mem)(n:Nat)(rows:List RowQ)(u:Value):Prop:=∃ rv ov,u=.tuple #[.agg ⟨[.int .i64 n,rv,ov]⟩,.bool true]/\RowsT D rv ((kc rows).map gR)/\Sl D 1 ov ((List.replicate n (0:Rat)).map aY)
theorem Fy (i:Nat):((List.replicate (i+1) (0:Rat)).map aY).flatten=((List.replicate i (0:Rat)).map aY).flatten++[[ah [48]]].flatten:=by
 rw [<- nW,<- nW,List.replicate_succ'];rfl
theorem yx (C:Mem)(o T:Value)(B:Bk)(l:List SrcQ)(p:BookZ C o B 0)(U:bs B*bp B<=60)(aA:l.length<=300)
  (ac:∀ D:Mem,C.le D->Pur cx.P 52 [o,T] D fun u E=>∃ v,u=.tuple #[v,.int .i64 0]/\xH E v l) :
  Pur cx.P 29 [o,T] C fun u D=>NT D (bs B*bp B) (l.map SrcQ.r) u:=by
 have aB:=p;obtain ⟨n,V⟩:∃ n,bs B*bp B=n:=⟨_,rfl⟩;have ad:∀ D:Mem,C.le D->Gives cx.P 35 [o] D (.tuple #[.int .i64 n,.int .i64 0]):=fun D hD=>by
  have h:=yX D o B 0 (p.mono hD) U;rw [aV rfl,V] at h;exact h
 rw [V] at U ⊢;obtain ⟨v1,v2,tv,cv,ov,rfl,h1,h2,h3,h4,h5⟩:=id p.i.ex;have aC:maxLen<=9223372036854775807:=by simp [maxLen]
 refine Uk func29 58 U3 fun w0=>Uf fun R a=>Uw U6 fun b2=>Uv U5 fun c=>C4 1 [1,2,4] a Z<|G.freeze 1 Z fun _ _ W=>Uf fun R a=>Uc (bkT W 5) U8<|Uo (ad _ mup) U7<|C4 5 [1,2,4,6,7] a Z<|Uf fun R a=>Uc (bkT W 5) U8<|Ue U6<|UM (ac _ mup) U7 (fun aD _ _ ag=>?_);obtain ⟨wv,rfl,ai⟩:=ag;obtain ⟨vs,t,x⟩:=ai;have y:=jC t;obtain ⟨X,Y,rfl,aj,aE,_⟩:=id x;have an:(bS vs l).length=l.length:=by unfold bS;simp [y]
 rw [an] at x aj ⊢;refine C4 5 [4,6,7,8,9] a Z<|Ub 1 Z fun R a=>Uu [.int .i64 n,.slice none 0 0,.slice none 0 0] U8<|Uv U5 fun d=>Um (j:=0) U12<|Ug [4,6,7,8,9,10] a Z<|Ua 1 [4,6,7,8,9,10,11] Z<|G.nilArr 56 1<|Ut (L':=[.arr (sB7 none 0 0) 56 1 0 ((List.replicate 0 (0:Rat)).map aY).flatten,.obj d (.cells ⟨[.int .i64 n,.slice none 0 0,.slice none 0 0]⟩ 80 (0,0)),.obj c (.cells ⟨[.int .i64 0,.slice none 0 0,.slice none 0 0]⟩ 80 (0,0))]) Z<|G.loop (fun fr C' e z=>∃ (i:Nat)(g:Option Addr)(n1 k:Nat),(i<=n)/\fr=[(4,[],.pointer (some ⟨c,0,none⟩)),(6,[],.int .i64 n),(7,[],.int .i64 0),(8,[],.slice X l.length Y),(9,[],.int .i64 0),(10,[],.pointer (some ⟨d,0,none⟩)),(11,[],.int .i64 i)]/\e=[.arr (sB7 g n1 k) 56 1 i ((List.replicate i (0:Rat)).map aY).flatten,.obj d (.cells ⟨[.int .i64 n,.slice none 0 0,.slice g n1 k]⟩ 80 (0,0)),.obj c (.cells ⟨[.int .i64 0,.slice none 0 0,.slice none 0 0]⟩ 80 (0,0))]/\z=n-i) (hn_ [4,6,7,8,9,10,11] Z) ⟨0,none,0,0,Qm _,Z,Z,Z⟩ (fun fr aF aG m _ A=>?_);obtain ⟨i,g,n1,k,hi,rfl,rfl,rfl⟩:=A;refine Ua 3 [4,6,7,8,9,10,11,29] Z<|Ud (fun F=>?_) fun F=>?_
 ·have aa:i<n:=by
   have:=aK F;omega
  refine Ub 1 Z fun R a=>Uj ae U9<|Ux [[ah [48]]] U12 fun aH _ _ ao=>UF (j:=0) U11 ao.m_ Z aw (by show (i+1)*16<=_;omega) fl_ fun H I J=>Ue U6<|Um (j:=1) U12<|Ug [4,6,7,8,9,10,11] a Z<|Ub 1 Z fun R a=>Ul _ U7<|C4 1 [4,6,7,8,9,10,11] a Z<|G.perm (L':=[.arr (sB7 H I J) 56 1 (i+1) ((List.replicate (i+1) (0:Rat)).map aY).flatten,.obj d (.cells ⟨[.int .i64 n,.slice none 0 0,.slice H I J]⟩ 80 (0,0)),.obj c (.cells ⟨[.int .i64 0,.slice none 0 0,.slice none 0 0]⟩ 80 (0,0))]) (by rw [Fy];exact List.Perm.swap _ _ _)<|Un (m':=n-(i+1)) om_ mup (hn_ [4,6,7,8,9,10,11] Z) ⟨i+1,H,I,J,om_,Z,Z,Z⟩
 have aa:i=n:=by
  have:=Ql F;omega
 subst aa;refine Ua 3 [4,7,9,10,37,38,39] Z<|G.freezeArr 0 ((List.replicate i (0:Rat)).map aY) Z Z dK am (fun _ _ ab=>?_);obtain ⟨_,_,ap,_⟩:=id ab;cases ap
 refine G.nilArr 123 2<|Ut (L':=[.arr (sA7 none 0 0) 123 2 0 (prC (vs.take 0) (l.take 0)).flatten,.obj d (.cells ⟨[.int .i64 i,.slice none 0 0,.slice g ((List.replicate i (0:Rat)).map aY).length k]⟩ 80 (0,0)),.obj c (.cells ⟨[.int .i64 0,.slice none 0 0,.slice none 0 0]⟩ 80 (0,0))]) Z<|G.loop (fun fr C' e z=>∃ (q:Nat)(A2:Option Addr)(n2 c2:Nat),(q<=l.length)/\fr=[(4,[],.pointer (some ⟨c,0,none⟩)),(7,[],.int .i64 0),(9,[],.int .i64 0),(10,[],.pointer (some ⟨d,0,none⟩)),(37,[],.slice X l.length Y),(38,[],.int .i64 l.length),(39,[],.int .i64 q)]/\e=[.arr (sA7 A2 n2 c2) 123 2 q (prC (vs.take q) (l.take q)).flatten,.obj d (.cells ⟨[.int .i64 i,.slice A2 n2 c2,.slice g ((List.replicate i (0:Rat)).map aY).length k]⟩ 80 (0,0)),.obj c (.cells ⟨[.int .i64 0,.slice none 0 0,.slice none 0 0]⟩ 80 (0,0))]/\z=l.length-q) (hn_ [4,7,9,10,37,38,39] Z) ⟨0,none,0,0,Qm _,Z,Z,Z⟩ (fun fr aI aL m _ A=>?_);obtain ⟨q,A2,n2,c2,hq,rfl,rfl,rfl⟩:=A;refine Ua 1 [4,7,9,10,37,38,39,40] Z<|Ud (fun K=>?_) fun K=>?_
 ·have L:q<l.length:=by
   have:=aK K;omega
  obtain ⟨s,M⟩:∃ s,l[q]?=some s:=⟨l[q],ak L⟩;obtain ⟨w,N⟩:∃ w,vs[q]?=some w:=⟨vs[q]'om_,ak om_⟩;have aq:=t.2 q w s.r N (by rw [Qn,M];rfl);obtain ⟨Ax,ar,rfl,_⟩:=id aq;have au:=Ba y N M;refine Uf fun R a=>Ur x.m_ U10 om_ (K7 N M) fl_ fun aM av=>Uc av U8<|Uv U5 fun aN=>Um (j:=0) U12<|Ug [4,7,9,10,13,37,38,39] a Z<|G.freeze 0 Z fun _ _ ax=>Ub 1 Z fun R a=>Uj ae U9<|Ue U6<|Uc (bkT ax 2) U8<|Ux [[.slice Ax (s.r.f.map fh).length ar,ah (qtx s.r.b)]] U12 fun aO _ _ ay=>UF (j:=0) U11 ay.m_ Z aw (by show (q+1)*40<=_;omega) fl_ fun O Q S=>Ue U6<|Um (j:=1) U12<|Ug [4,7,9,10,37,38,39] a Z<|Uf fun R a=>Ul _ U7<|C4 1 [4,7,9,10,37,38,39] a Z<|G.perm (L':=[.arr (sA7 O Q S) 123 2 (q+1) (prC (vs.take (q+1)) (l.take (q+1))).flatten,.obj d (.cells ⟨[.int .i64 i,.slice O Q S,.slice g ((List.replicate i (0:Rat)).map aY).length k]⟩ 80 (0,0)),.obj c (.cells ⟨[.int .i64 0,.slice none 0 0,.slice none 0 0]⟩ 80 (0,0))]) (by rw [au,Q5];exact List.Perm.swap _ _ _)<|Un (m':=l.length-(q+1)) om_ mup (hn_ [4,7,9,10,37,38,39] Z) ⟨q+1,O,Q,S,om_,Z,Z,Z⟩
 have L:q=l.length:=by
  have:=Ql K;omega
 subst L;refine Uf fun R a=>Uj ae U9<|Uh 5 Z<|UB U8<|Um (j:=2) U12<|C4 1 [4,5] a Z ?_;rw [QI (show vs.length<=l.length by omega),Qv];refine G.freezeArr 1 (prC vs l) Z Z (FP _ _) (by rw [prC,dx (by simp [y]),al]) fun _ _ az=>Up (Vl af U5 ?_);exact ⟨Z,_,_,Z,(AI (rows:=l.map SrcQ.r) (RowsOk.m_ t) az),ab.mono mup⟩
theorem GD (C:Mem)(m:Tabs C)(e f:Value)(B:Bk)(H:List Rat)(a:Nat->List RowQ)(l:List Nat)(g:BookIn C e B)(h:Calm B H a)(d:SetIn B.obs.length l)(I:Sl C 1 f (l.map aO)) :
  Gives cx.P 16 [e,f] C (.bool (ii B a l)):=by
 have ab:=g;have J:=h.rich.bookz m g;have u:=h.cnt d;have v:=fun (D:Mem)(i:C.le D)=>yx D e f B (bP (bH B) a l) (J.mono i) (by have:=h.n12;omega) (by unfold eX at u;rw [al] at u;omega) (nj D (m.mono i) e f (g.mono i) h d (I.mono i));obtain ⟨n,o⟩:∃ n,bs B*bp B=n:=⟨_,rfl⟩;have K:=h.n12;have p:=h.rowsQ d;have w:=h.q22 d;have q:=h.lim d;obtain ⟨rows,s⟩:∃ rows,eX B a l=rows:=⟨_,rfl⟩;have L:ii B a l=@decide (eJ n (kc rows)).Hold (Classical.propDecidable _):=by
  unfold ii Ec;rw [o,s]
 have M:(bP (bH B) a l).map SrcQ.r=rows:=s;rw [o,M] at v;rw [o] at p q K;rw [s] at p w q;obtain ⟨v1,v2,tv,cv,ov,rfl,_⟩:=id g.ex;have ac:maxLen<=9223372036854775807:=by simp [maxLen]
 refine Uk func16 29 U3 fun w0=>Uf fun R b=>Uw U6 fun b2=>C4 1 [1,2] b Z<|G.freeze 0 Z fun _ _ N=>Uf fun R b=>Uc (bkT N 5) U8<|Ue U6<|UM (v _ mup) U7 (fun ad _ _ O=>?_);obtain ⟨rv,ae,rfl,y,z⟩:=O;obtain ⟨_,_,_,Q⟩:=id y;obtain ⟨Ar,cr,rfl,_⟩:=id Q;obtain ⟨Ao,co,rfl,_⟩:=id z;refine Uh 3 Z<|Uv U5 fun b5=>Um (j:=0) U12<|C4 1 [5] b Z<|G.freeze 0 Z fun _ _ S=>Uf fun R b=>Uc (bkT S 3) U8<|UG (Bg _ m.m_ n _ _ (kc rows) (List.replicate n 0) y.m_ z.m_ p (fun x T=>by rw [(List.mem_replicate.1 T).2];exact QB_zero.le dc_) w om_ am q) U7 fl_ (fun U _ _ V=>?_);have W:∃ (t:Value)(E:Option Addr)(nd F:Nat)(k:Bool),U=.tuple #[t,.agg ⟨[.slice E nd F]⟩,.bool k,.int .i64 0]/\ii B a l=k:=by
  rw [L];cases V with
  | yes pt t X _ _=>exact ⟨_,_,_,_,true,rfl,@QC _ (Classical.propDecidable _) X⟩
  | no du vd Y h1 =>
   obtain ⟨A,c,rfl,_⟩:=id h1;exact ⟨_,_,_,_,false,Z,@QJ _ (Classical.propDecidable _) Y.not⟩
 obtain ⟨t,E,nd,F,k,rfl,aa⟩:=W;refine Uh 5 Z<|Uv U5 fun b8=>Ue U6<|Um (j:=0) U12<|C4 2 [9,10] b Z<|Ub 4 Z fun R b=>UB U8<|C4 1 [4] b Z<|Ui U2 ?_;exact ⟨by rw [aa];cases k <;> rfl,Z⟩
theorem nZ (h:OutL C vs outs)(j:Nat):∃ A c,vs.getD j (.slice none 0 0)=.slice A (outs.getD j []).length c/\Sl C 1 (.slice A (outs.getD j []).length c) ((outs.getD j []).map aO):=by
 by_cases a:j<vs.length
 ·have b:j<outs.length:=by rw [<- h.1];exact a
  have h1:vs[j]?=some (vs.getD j (.slice none 0 0)):=by rw [ax,ak a];rfl
  have h2:outs[j]?=some (outs.getD j []):=by rw [ax,ak b];rfl
  have hs:=h.2 j _ _ h1 h2;obtain ⟨A,c,e,_⟩:=id hs;rw [al] at e;rw [e] at hs;exact ⟨A,c,e,hs⟩
 have b:¬ j<outs.length:=by rw [<- h.1];exact a
 refine ⟨none,0, ?_, ?_⟩
 ·rw [ax,Qr om_,ax,Qr om_];rfl
 rw [ax,Qr om_];exact Sl.nil _ _
theorem MZ (h:OutL C vs outs):∀ v∈vs,mG v=true:=fun v b=>by
 obtain ⟨j,a⟩:=RH b;have d:=(aE.1 a).1;have hs:=h.2 j v _ a (ak (by rw [<- h.1];exact d));obtain ⟨A,c,rfl,_⟩:=id hs;rfl
theorem row1 :(vs.map fun v=>[v]).flatten=vs:=by
 induction vs with
 | nil=>rfl
 | cons v vs a=>simp [a]
theorem mU (h:∀ v∈vs,mG v=true):(vs.map fun x=>[x]).all (fun r=>r.all mG)=true:=by
 rw [QD];intro r hr;obtain ⟨v,a,rfl⟩:=Qq.1 hr;rw [List.all_cons,h v a];rfl
theorem Bj {w:Value}(a:k<vs.length)(h:vs.getD k (.slice none 0 0)=w):(vs.map fun x=>[x])[k]?=some [w]:=by
 rw [Qn,ak a];rw [ax,ak a] at h;cases h
 rfl
theorem Jz {s:List Nat}(h:OutL C vs outs)(b:Sl C 1 v (s.map aO))(d:k<=outs.length):OutL C (vs.take k++[v]++vs.drop k) (outs.take k++[s]++outs.drop k):=by
 have c:=h.1;refine ⟨by simp [c],fun j w o h1 h2=>?_⟩;rw [QS] at h1 h2;rcases Nat.lt_trichotomy j k with a | a | a
 ·rw [Ra ap,Q0,aV a] at h1 h2;exact h.2 j w o h1 h2
 ·subst a;rw [QQ ap] at h1 h2;rw [show j-(vs.take j).length=0 by simp;omega] at h1;rw [show j-(outs.take j).length=0 by simp;omega] at h2;cases h1
  cases h2
  exact b
 rw [QQ ap] at h1 h2;rw [show j-(vs.take k).length=(j-1-k)+1 by simp;omega,List.singleton_append,R7,List.getElem?_drop] at h1;rw [show j-(outs.take k).length=(j-1-k)+1 by simp;omega,List.singleton_append,R7,List.getElem?_drop] at h2;exact h.2 _ w o h1 h2
theorem JN (C:Mem)(n:Nat)(U:n<4):Pur cx.P 14 [.int .i64 n] C fun u D=>OutsIn D u ((bQ n).map aZ):=by
 have aW:maxLen<=9223372036854775807:=by simp [maxLen]
 have h8:2 ^ n<=8:=by
  have:∀ n<4,2 ^ n<=8:=by decide
  exact this n U
 refine Uk func14 76 U3 fun w0=>?_;refine Ua 1 [0] Z ?_;refine Ua 1 [0,3] Z ?_;refine Ua 1 [0,3,4] Z ?_;refine G.loop (fun fr C' f p=>∃ (i:Nat)(N:Value)(vs:List Value),(i<=n+1/\OutL C' vs ((List.range i).foldl (Mz n) [])/\Sl C' 1 N (vs.map fun x=>[x]))/\fr=[(0,[],.int .i64 n),(3,[],N),(4,[],.int .i64 i)]/\f=[]/\p=n+1-i) (hn_ [0,3,4] Z) ⟨0,.slice none 0 0,[],⟨Qm _,OutL.nil _,Sl.nil _ _⟩,Z,Z,Z⟩ (fun fr aX aY m _ s=>?_);obtain ⟨i,N,vs,⟨hi,V,ai⟩,rfl,rfl,rfl⟩:=s;refine Ua 3 [0,3,4,11] Z ?_;refine Ud (fun W=>?_) fun W=>?_
 ·have a0:i<=n:=by
   have:=aK W;omega
  have az:=Ci n i;have a1:i*2 ^ n<=3*8:=RX om_ h8;have aj:(List.range (i+1)).foldl (Mz n) []=(List.range (2 ^ n)).foldl (lA i) ((List.range i).foldl (Mz n) []):=mQ;obtain ⟨A,aB⟩:∃ A,(List.range i).foldl (Mz n) []=A:=⟨_,rfl⟩;rw [aB] at V az aj;refine Ua 1 [0,3,4,5] Z ?_;refine G.loop (fun fr C' f p=>∃ (b:Nat)(O:Value)(ws:List Value),(b<=2 ^ n/\OutL C' ws ((List.range b).foldl (lA i) A)/\Sl C' 1 O (ws.map fun x=>[x]))/\fr=[(0,[],.int .i64 n),(3,[],O),(4,[],.int .i64 i),(5,[],.int .i64 b)]/\f=[]/\p=2 ^ n-b) (hn_ [0,3,4,5] Z) ⟨0,N,vs,⟨Qm _,V.mono mup,ai.mono mup⟩,Z,Z,Z⟩ (fun fr a2 a3 m _ s=>?_);obtain ⟨b,O,ws,⟨hb,B,z⟩,rfl,rfl,rfl⟩:=s;refine Ub 2 Z fun R a=>?_;refine VL (n) Z Z Z Z Z Z (by first | exact .inl Z | exact .inr Z) Z om_ Z Z ?_;refine C4 1 [0,3,4,5,17] a Z ?_;refine Ud (fun X=>?_) fun X=>?_
  ·have aC:b<2 ^ n:=by
    have:=aK X;omega
   have ak:=tP (List.range b) i A;rw [Rf] at ak;have Y:(List.range (b+1)).foldl (lA i) A=lA i ((List.range b).foldl (lA i) A) b:=mQ;obtain ⟨g,aD⟩:∃ g,(List.range b).foldl (lA i) A=g:=⟨_,rfl⟩;rw [aD] at B ak Y;have aE:ws.length=g.length:=B.1;obtain ⟨A3,E,rfl,aF,a4,_⟩:=id z;rw [al] at z aF ⊢;refine Ua 1 [0,3,4,5,6] Z ?_;refine Ua 1 [0,3,4,5,6,7] Z ?_;refine G.nilArr 3 1 ?_;refine G.loop (fun fr C' f p=>∃ (j:Nat)(d:Option Addr)(n1 e:Nat),(j<=n)/\fr=[(0,[],.int .i64 n),(3,[],.slice A3 ws.length E),(4,[],.int .i64 i),(5,[],.int .i64 b),(6,[],.slice d n1 e),(7,[],.int .i64 j)]/\f=[.arr (.slice d n1 e) 3 1 ((List.range j).filter fun q=>b.testBit q).length ((((List.range j).filter fun q=>b.testBit q)).map aO).flatten]/\p=n-j) (hn_ [0,3,4,5,6,7] Z) ⟨0,none,0,0,Qm _,Z,Z,Z⟩ (fun fr a5 a6 m _ s=>?_);obtain ⟨j,d,n1,e,hj,rfl,rfl,rfl⟩:=s;refine Ua 3 [0,3,4,5,6,7,22] Z ?_;refine Ud (fun aa=>?_) fun aa=>?_
   ·have a7:j<n:=by
     have:=aK aa;omega
    have a8:((List.range j).filter fun q=>b.testBit q).length<=j:=by
     have:=RL (fun q=>b.testBit q) (List.range j)
     rwa [Rf] at this
    have Q:=Ka (b:=b) (j:=j);have a9:=Rm b (2 ^ j);refine Ub 2 Z fun R a=>?_;refine WA (b) (j) Z Z Z Z Z Z Z Z om_ Z Z ?_;refine V1 (b / 2 ^ j) (1) Z Z Z Z Z Z Z Z om_ om_ Z Z ?_;refine C4 1 [0,3,4,5,6,7,29] a Z ?_;refine Ud (fun ab=>?_) fun ab=>?_
    ·have ac:b.testBit j=true:=by
      rw [<- H0,<- yu];exact ab
     rw [ac,aV rfl] at Q;refine Ub 2 Z fun R a=>?_;refine Ux [[.int .i64 j]] U12 (fun ba _ _ aG=>?_);refine UF (j:=0) U11 aG Z aw (by show (((List.range j).filter fun q=>b.testBit q).length+1)*8<=_;omega) fl_ (fun am an ao=>?_);refine C4 1 [0,3,4,5,6,7] a Z ?_;refine Ub 1 Z fun R a=>?_;refine Ul _ U7 ?_;refine C4 1 [0,3,4,5,6,7] a Z ?_;refine Ut (L':=[.arr (.slice am an ao) 3 1 ((List.range (j+1)).filter fun q=>b.testBit q).length ((((List.range (j+1)).filter fun q=>b.testBit q)).map aO).flatten]) (by rw [Q,QZ,Q5,Qp];rfl) ?_;refine Un (m':=n-(j+1)) om_ mup (hn_ [0,3,4,5,6,7] Z) ⟨j+1,am,an,ao,om_,Z,Z,Z⟩
    have ac:b.testBit j=false:=by
     rw [<- H0,<- yu];exact ab
    rw [ac,aA dc_,QM] at Q;refine Ub 1 Z fun R a=>?_;refine Ul _ U7 ?_;refine C4 1 [0,3,4,5,6,7] a Z ?_;refine Ut (L':=[.arr (.slice d n1 e) 3 1 ((List.range (j+1)).filter fun q=>b.testBit q).length ((((List.range (j+1)).filter fun q=>b.testBit q)).map aO).flatten]) (by rw [Q]) ?_;refine Un (m':=n-(j+1)) om_ mup (hn_ [0,3,4,5,6,7] Z) ⟨j+1,d,n1,e,om_,Z,Z,Z⟩
   have aH:n=j:=by
    have:=Ql aa;omega
   subst aH;rw [HU n U b aC];refine VV af (fun _ _ aI _=>?_);cases aI
   refine Ua 4 [0,3,4,5,6,37] Z ?_;refine Ud (fun ad=>?_) fun ad=>?_
   ·have ae:(aZ b).length=i:=by
     have:((aZ b).length:Int)=i:=by simpa using ad
     omega
    refine G.freezeArr 0 ((aZ b).map aO) Z Z (mb _) (al _) (fun _ _ aq=>?_);refine Ua 3 [0,3,4,5,6,8] Z ?_;refine G.loop (fun fr C' f p=>∃ (k:Nat),(k<=g.length/\Dh g (aZ b) g.length=Dh g (aZ b) k)/\fr=[(0,[],.int .i64 n),(3,[],.slice A3 ws.length E),(4,[],.int .i64 i),(5,[],.int .i64 b),(6,[],.slice d (aZ b).length e),(8,[],.int .i64 k)]/\f=[]/\p=k+k) (hn_ [0,3,4,5,6,8] Z) ⟨ws.length,⟨by omega,by rw [aE]⟩,Z,Z,Z⟩ (fun fr bb bc m _ s=>?_);obtain ⟨k,⟨hk,hp⟩,rfl,rfl,rfl⟩:=s;obtain ⟨Aw,cw,ar,aL⟩:=nZ B (k-1);refine Ub 5 Z fun R a=>?_;refine Ul _ U7 ?_;refine D.index U10 (fun H=>⟨z.mono mup,(by have h:decide ((k:Int) > 0)=true:=H.1;have:=aK h;omega),(by have h:decide ((k:Int) > 0)=true:=H.1;have:=aK h;rw [show ((k:Int)-1).toNat=k-1 by omega];exact Bj om_ ar)⟩) fl_ Z (fun bd aM=>?_);refine UE U6 aM U3 ?_;refine Uh 3 Z ?_;refine UB U8 ?_;refine Uh 4 Z ?_;refine Ul _ U7 ?_;refine D.index U10 (fun H=>⟨z.mono mup,(by have h:(decide ((k:Int) > 0) && _)=true:=H.1;have:=aK (Rw.1 h).1;omega),(by have h:(decide ((k:Int) > 0) && _)=true:=H.1;have:=aK (Rw.1 h).1;rw [show ((k:Int)-1).toNat=k-1 by omega];exact Bj om_ ar)⟩) fl_ Z (fun be aN=>?_);refine UE U6 aN U3 ?_;refine Uz (fun hG=>JQ _ _ _ (aZ b) (g.getD (k-1) []) aq.m_ aL.m_ (by
     have h:(_ && (((g.getD (k-1) []).length:Int) == (i:Int)))=true:=hG.1;have:=eq_of_beq (Rw.1 h).2;omega)) U9 ?_
    refine UB U8 ?_;refine Ug [0,3,4,5,6,8,60] a Z ?_;refine Ud (fun h60=>?_) fun h60=>?_
    ·have S:0<k/\goE g (aZ b) (k-1)=true:=by
      obtain ⟨ha,ag⟩:=Rw.1 h60;obtain ⟨hc,hd⟩:=Rw.1 ha;have h1:=aK hc;have h2:=eq_of_beq hd;refine ⟨by omega,Rw.2 ⟨QC om_,ag⟩⟩
     refine Ub 1 Z fun R a=>?_;refine Ul _ U7 ?_;refine C4 1 [0,3,4,5,6,8] a Z ?_;rw [show ((k:Int)-1)=((k-1:Nat):Int) by omega];refine Un (m':=(k-1)+(k-1)) om_ mup (hn_ [0,3,4,5,6,8] Z) ⟨k-1,⟨by omega,by rw [hp,MM S.1 S.2]⟩,Z,Z,Z⟩
    have aP:Dh g (aZ b) k=k:=FQ (fun bf=>by
     refine Bool.eq_false_iff.2 fun S=>?_;obtain ⟨ha,ag⟩:=Rw.1 S;have h1:=aK ha;refine Bool.eq_false_iff.1 h60 (Rw.2 ⟨Rw.2 ⟨QC om_,RR.2 om_⟩,ag⟩))
    rw [aP] at hp;have aQ:O4 g (aZ b)=g.take k++[aZ b]++g.drop k:=by unfold O4;rw [hp]
    have T:=z.sub (l:=0) (h:=k) (m:=E) (Qm _) (by rw [al];omega) om_ (Qi _);have ah:=z.sub (l:=k) (h:=ws.length) (m:=E) om_ (by rw [al];omega) om_ (Qi _);rw [Ru] at T;have c:((ws.map fun x=>[x]).take k).length=k:=by rw [Qx,al];omega
    have t:(((ws.map fun x=>[x]).take ws.length).drop k).length=ws.length-k:=by rw [Sq,Qx,al];omega
    have F:=MZ B;refine G.cut (fun fr C' f p=>∃ (w:Value),(True)/\fr=[(0,[],.int .i64 n),(3,[],w),(4,[],.int .i64 i),(5,[],.int .i64 b)]/\f=[.arr w 50 1 (ws.length+1) (ws.take k++[.slice d (aZ b).length e]++ws.drop k)]) ?_ (fun fr bg bh p bi s=>?_)
    ·refine UV (.cut [1,2,3,5,8,9,10] (.alt 0 (.cut [] (.alt 4 (.fin [6,7,11,12]) (.alt 6 (.fin [4,7,11,12]) .stop))) (.alt 6 (.fin [0,4,7,11,12]) .stop))) [] Z Z kr_ (fun R hB a hH=>?_);refine Uh 2 Z ?_;refine UY 0 k E U12 (fun _=>⟨.inl ⟨Z,Z⟩,.inr ⟨_,Z⟩,.inl ⟨Z,Z⟩,by omega,by omega,Qi _⟩) U2 ?_;refine Uh 3 Z ?_;refine UY k ws.length E U12 (fun _=>⟨.inr ⟨_,Z⟩,.inl ⟨Z,Z⟩,.inl ⟨Z,Z⟩,by omega,by omega,Qi _⟩) U2 ?_;refine UK hH Z ⟨?_, ?_,trivial⟩
     ·refine Vi [] U12 fl_ (fun aR=>?_);refine UK hH Z ⟨?_, ?_,trivial⟩
      ·refine D.append (j:=0) U11 T.m_ (by rw [<- Sd];exact mU fun v o=>F v (List.take_subset _ _ o)) (by simp only [Qy,c,maxLen];omega) (by simp only [Qy,c];omega) fl_ (fun au=>?_);refine Ux [[.slice d (aZ b).length e]] U12 (fun av ax _ I=>?_);refine D.append (j:=0) U11 I.m_ Z (by simp only [Qy,c,aJ,maxLen];omega) (by simp only [Qy,c,aJ];omega) fl_ (fun ay=>?_);refine D.append (j:=0) U11 ah.m_ (by rw [QI (by rw [al];omega),<- List.map_drop];exact mU fun v o=>F v (List.drop_subset _ _ o)) (by simp only [Qy,c,t,aJ,maxLen];omega) (by simp only [Qy,c,t,aJ];omega) fl_ (fun J=>?_);refine C4 1 [0,3,4,5] a Z ?_;refine Ut (L':=[.arr J 50 1 (ws.length+1) (ws.take k++[Value.slice d (aZ b).length e]++ws.drop k)]) (by
        have K:(([]:List (List Value)).length+((ws.map fun x=>[x]).take k).length+([[Value.slice d (aZ b).length e]]:List (List Value)).length+(((ws.map fun x=>[x]).take ws.length).drop k).length)=ws.length+1:=by
         rw [c,t];simp;omega
        have L:((ws.map fun x=>[x]).take k).flatten=ws.take k:=by rw [<- Sd];exact row1
        have M:(((ws.map fun x=>[x]).take ws.length).drop k).flatten=ws.drop k:=by rw [QI (by rw [al];omega),<- List.map_drop];exact row1
        rw [K,L,M];rfl) ?_
       exact Uq 0 mup (hn_ [0,3,4,5] Z) ⟨_,trivial,Z,Z⟩
      refine Ux [[.slice d (aZ b).length e]] U12 (fun av ax _ I=>?_);refine D.append (j:=0) U11 T.m_ (by rw [<- Sd];exact mU fun v o=>F v (List.take_subset _ _ o)) (by simp only [Qy,c,maxLen];omega) (by simp only [Qy,c];omega) fl_ (fun au=>?_);refine D.append (j:=0) U11 I.m_ Z (by simp only [Qy,c,aJ,maxLen];omega) (by simp only [Qy,c,aJ];omega) fl_ (fun ay=>?_);refine D.append (j:=0) U11 ah.m_ (by rw [QI (by rw [al];omega),<- List.map_drop];exact mU fun v o=>F v (List.drop_subset _ _ o)) (by simp only [Qy,c,t,aJ,maxLen];omega) (by simp only [Qy,c,t,aJ];omega) fl_ (fun J=>?_);refine C4 1 [0,3,4,5] a Z ?_;refine Ut (L':=[.arr J 50 1 (ws.length+1) (ws.take k++[Value.slice d (aZ b).length e]++ws.drop k)]) (by
       have K:(([]:List (List Value)).length+((ws.map fun x=>[x]).take k).length+([[Value.slice d (aZ b).length e]]:List (List Value)).length+(((ws.map fun x=>[x]).take ws.length).drop k).length)=ws.length+1:=by
        rw [c,t];simp;omega
       have L:((ws.map fun x=>[x]).take k).flatten=ws.take k:=by rw [<- Sd];exact row1
       have M:(((ws.map fun x=>[x]).take ws.length).drop k).flatten=ws.drop k:=by rw [QI (by rw [al];omega),<- List.map_drop];exact row1
       rw [K,L,M];rfl) ?_
      exact Uq 0 mup (hn_ [0,3,4,5] Z) ⟨_,trivial,Z,Z⟩
     refine Ux [[.slice d (aZ b).length e]] U12 (fun av ax _ I=>?_);refine Vi [] U12 fl_ (fun aR=>?_);refine D.append (j:=0) U11 T.m_ (by rw [<- Sd];exact mU fun v o=>F v (List.take_subset _ _ o)) (by simp only [Qy,c,maxLen];omega) (by simp only [Qy,c];omega) fl_ (fun au=>?_);refine D.append (j:=0) U11 I.m_ Z (by simp only [Qy,c,aJ,maxLen];omega) (by simp only [Qy,c,aJ];omega) fl_ (fun ay=>?_);refine D.append (j:=0) U11 ah.m_ (by rw [QI (by rw [al];omega),<- List.map_drop];exact mU fun v o=>F v (List.drop_subset _ _ o)) (by simp only [Qy,c,t,aJ,maxLen];omega) (by simp only [Qy,c,t,aJ];omega) fl_ (fun J=>?_);refine C4 1 [0,3,4,5] a Z ?_;refine Ut (L':=[.arr J 50 1 (ws.length+1) (ws.take k++[Value.slice d (aZ b).length e]++ws.drop k)]) (by
      have K:(([]:List (List Value)).length+((ws.map fun x=>[x]).take k).length+([[Value.slice d (aZ b).length e]]:List (List Value)).length+(((ws.map fun x=>[x]).take ws.length).drop k).length)=ws.length+1:=by
       rw [c,t];simp;omega
      have L:((ws.map fun x=>[x]).take k).flatten=ws.take k:=by rw [<- Sd];exact row1
      have M:(((ws.map fun x=>[x]).take ws.length).drop k).flatten=ws.drop k:=by rw [QI (by rw [al];omega),<- List.map_drop];exact row1
      rw [K,L,M];rfl) ?_
     exact Uq 0 mup (hn_ [0,3,4,5] Z) ⟨_,trivial,Z,Z⟩
    obtain ⟨w,bj,rfl,rfl⟩:=s;refine Ub 1 Z fun R a=>?_;refine Ul _ U7 ?_;refine C4 1 [0,3,4,5] a Z ?_;refine G.freezeArr 0 ((ws.take k++[Value.slice d (aZ b).length e]++ws.drop k).map fun x=>[x]) rfl row1.symm (by intro r hr;obtain ⟨y,_,rfl⟩:=Qq.1 hr;rfl) ap (fun Cm bk aS=>?_);refine Un (m':=2 ^ n-(b+1)) om_ mup (hn_ [0,3,4,5] Z) ⟨b+1,w,ws.take k++[Value.slice d (aZ b).length e]++ws.drop k,⟨by omega,by rw [Y,lA,aV ae,aQ];exact Jz B.m_ aq.m_ hk,aS⟩,Z,Z,Z⟩
   have ae:¬ (aZ b).length=i:=by
    have:¬ ((aZ b).length:Int)=i:=by simpa using ad
    omega
   refine Ub 1 Z fun R a=>?_;refine Ul _ U7 ?_;refine C4 1 [0,3,4,5] a Z ?_;refine G.dropAll ?_;refine Un (m':=2 ^ n-(b+1)) om_ mup (hn_ [0,3,4,5] Z) ⟨b+1,.slice A3 ws.length E,ws,⟨by omega,by rw [Y,lA,aA ae];exact B.mono mup,z.mono mup⟩,Z,Z,Z⟩
  have aT:b=2 ^ n:=by
   have:=Ql X;omega
  subst aT;refine Ub 1 Z fun R a=>?_;refine Ul _ U7 ?_;refine C4 1 [0,3,4] a Z ?_;refine Un (m':=n+1-(i+1)) om_ mup (hn_ [0,3,4] Z) ⟨i+1,O,ws,⟨by omega,by rw [aj];exact B.mono mup,z.mono mup⟩,Z,Z,Z⟩
 have aU:i=n+1:=by
  have:=Ql W;omega
 subst aU;refine Ua 2 [2] Z ?_;refine Ui U2 ?_;exact ⟨Z,vs,by rw [<- H1 n U];exact V.mono mup,ai.mono mup⟩
theorem Ju:∀ n<4,∀ x<2 ^ n,∀ s<2 ^ n,Dj (aZ x) (aZ s)=(x &&& s == x):=by decide +kernel
theorem GO (C:Mem)(hT:Tabs C)(H:Value)(B:Bk)(I:List Rat)(b:Nat->List RowQ)(o:BookIn C H B)(h:Calm B I b)(ae:B.obs.length<=3) :
  Pur cx.P 23 [H] C fun u D=>OutsIn D u ((eI (hS B b) (bQ B.obs.length)).map aZ):=by
 have aD:maxLen<=9223372036854775807:=by simp [maxLen]
 have aE:=o;obtain ⟨v1,v2,tv,cv,ov,rfl,g1,g2,g3,g4,g5⟩:=id o;obtain ⟨B5,d5,rfl,_⟩:=id g5;obtain ⟨n,J⟩:∃ n,B.obs.length=n:=⟨_,rfl⟩;simp only [al,J] at o ae ⊢;have ag:=iS n;have h8:2 ^ n<=8:=by
  have:∀ n<4,2 ^ n<=8:=by decide
  exact this n om_
 obtain ⟨F,f⟩:∃ F:Nat->List Nat,∀ i,F i=((bQ n).take i).foldl (fu (hS B b)) []:=⟨_,fun _=>rfl⟩;have ah:F 0=[]:=by rw [f,List.take_zero];rfl
 have K:∀ {i s},(bQ n)[i]?=some s->F (i+1)=fu (hS B b) (F i) s:=fun {i s} hs=>by rw [f,f,qj hs]
 have aj:∀ i,i<=2 ^ n->(F i).length<=8:=fun i hi=>by
  rw [f];have h1:=jp (h:=hS B b) ((bQ n).take i) [];rw [Qx] at h1;simp only [Qy] at h1;omega
 have am:∀ i,∀ x∈F i,x<2 ^ n:=fun i x c=>by
  rw [f] at c;rcases ml _ _ c with h1 | h1
  ·cases h1
  exact fo (Rt h1)
 have an:F (2 ^ n)=eI (hS B b) (bQ n):=by rw [f,QI om_];rfl
 refine Uk func23 45 U3 fun w0=>Uf fun R a=>Uw U6 fun L=>C4 1 [1] a Z<|G.freeze 0 Z fun _ _ M=>Ua 1 [1,3] Z<|Ub 1 Z fun R a=>Uc (bkT M 1) U8<|Ue U6<|UG (JN _ n om_) U7 fl_ (fun aF _ _ ao=>?_);obtain ⟨vS,N,p⟩:=id ao;obtain ⟨O,Q,rfl,S,aG,_⟩:=id p;rw [al] at p S ⊢;have ap:vS.length=2 ^ n:=by rw [N.1,al,ag]
 rw [ap] at p S ⊢;refine C4 2 [1,3,12,13,14] a Z<|G.nilArr 50 1<|G.loop (fun fr C' q t=>∃ (i:Nat)(vs:List Value)(d:Option Addr)(n1 e:Nat),(i<=2 ^ n/\OutL C' vs ((F i).map aZ))/\fr=[(1,[],.pointer (some ⟨L,0,none⟩)),(3,[],.slice d n1 e),(12,[],.slice O (2 ^ n) Q),(13,[],.int .i64 ((2 ^ n:Nat):Int)),(14,[],.int .i64 i)]/\q=[.arr (.slice d n1 e) 50 1 vs.length vs]/\t=2 ^ n-i) (hn_ [1,3,12,13,14] Z) ⟨0,[],none,0,0,⟨Qm _,by rw [ah];exact OutL.nil _⟩,Z,Z,Z⟩ (fun fr aH aI m _ v=>?_);obtain ⟨i,vs,d,n1,e,⟨hi,k⟩,rfl,rfl,rfl⟩:=v;refine Ua 1 [1,3,12,13,14,15] Z<|Ud (fun w=>?_) fun w=>?_
 ·have T:i<2 ^ n:=by
   have:=aK w;omega
  obtain ⟨s,hs⟩:∃ s,(bQ n)[i]?=some s:=⟨(bQ n)[i]'om_,ak om_⟩;have U:s<2 ^ n:=fo (Qj hs);have aL:vs.length=(F i).length:=by rw [k.1,al]
  have aM:=aj i om_;obtain ⟨l,cs,V,r⟩:=nZ N i;have aq:((bQ n).map aZ).getD i []=aZ s:=by rw [ax,Qn,hs];rfl
  rw [aq] at V r;refine Uf fun R a=>Ur p.m_ U10 om_ (Bj om_ V) fl_ fun aN ar=>Uc ar U8<|C4 1 [1,3,5,12,13,14] a Z<|Ua 1 [1,3,5,6,12,13,14] Z<|VK 0 Z (fun A7 c7 e7 au _ _=>?_);cases e7
  refine Ua 3 [1,3,5,6,12,13,14,18,19,20] Z<|G.loop (fun fr C' q t=>∃ (j:Nat),(j<=vs.length)/\fr=[(1,[],.pointer (some ⟨L,0,none⟩)),(3,[],.slice d vs.length e),(5,[],.slice l (aZ s).length cs),(6,[],.bool (((F i).take j).all fun x=>!(x &&& s == x))),(12,[],.slice O (2 ^ n) Q),(13,[],.int .i64 ((2 ^ n:Nat):Int)),(14,[],.int .i64 i),(18,[],.slice d vs.length e),(19,[],.int .i64 vs.length),(20,[],.int .i64 j)]/\q=[.arr (.slice d vs.length e) 50 1 vs.length vs]/\t=vs.length-j) (hn_ [1,3,5,6,12,13,14,18,19,20] Z) ⟨0,Qm _,Z,Z,Z⟩ (fun fr aO aP m _ v=>?_);obtain ⟨j,hj,rfl,rfl,rfl⟩:=v;refine Ua 1 [1,3,5,6,12,13,14,18,19,20,21] Z<|Ud (fun y=>?_) fun y=>?_
  ·have W:j<vs.length:=by
    have:=aK y;omega
   obtain ⟨x,c⟩:∃ x,(F i)[j]?=some x:=⟨(F i)[j]'om_,ak om_⟩;have av:=am i x (Qj c);obtain ⟨X,Y,z,aa⟩:=nZ k j;have ay:((F i).map aZ).getD j []=aZ x:=by rw [ax,Qn,c];rfl
   rw [ay] at z aa;obtain ⟨g7,rfl⟩:∃ g,d=some ⟨g,0,none⟩:=⟨_,au om_⟩;refine Uf fun R a=>UI (j*1) U10 ai U2<|UW af U6 (fun _=>(show cq _ ((vs.drop (j*1)).take 1)=some (.slice X (aZ x).length Y) from by rw [Sf,QK W];rw [ax,ak W] at z;have az:vs[j]=.slice X (aZ x).length Y:=z;rw [az];rfl)) U2<|C4 1 [1,3,5,6,8,12,13,14,18,19,20] a Z<|Ub 4 Z fun R a=>UJ (fun _=>(JO _ _ _ (aZ x) (aZ s) aa.m_ r.m_)) U9<|Ue U6<|UB U8<|C4 1 [1,3,5,6,12,13,14,18,19,20] a Z ?_;rw [show (((F i).take j).all (fun x=>!(x &&& s == x)) && !Dj (aZ x) (aZ s))=((F i).take (j+1)).all (fun x=>!(x &&& s == x)) from by rw [Ju n om_ x av s U,QO,c,S2];simp];refine Uf fun R a=>Ul _ U7<|C4 1 [1,3,5,6,12,13,14,18,19,20] a Z<|Un (m':=vs.length-(j+1)) om_ mup (hn_ [1,3,5,6,12,13,14,18,19,20] Z) ⟨j+1,om_,Z,Z,Z⟩
  have aA:j=vs.length:=by
   have:=Ql y;omega
  subst aA;rw [QI om_];refine Ub 2 Z fun R a=>UE U6 (fun _=>PtrTo.blockT (Mem.get M mup) _ 5) U3<|Ue U6<|Uz (fun _=>(GD _ hT.m_ _ _ B I b (aZ s) o.m_ h (by rw [J];exact (HT om_ U).set) r.m_)) U9<|Ue U6<|UB U8<|Ug [1,3,5,12,13,14,38] a Z<|Ud (fun A=>?_) fun A=>?_
  ·have E:fu (hS B b) (F i) s=F i++[s]:=by
    have h1:=(Rw.1 A);have h2:ii B b (aZ s)=false:=by simpa using h1.2
    have h2:hS B b s=false:=h2;have h3:((F i).any fun x=>x &&& s == x)=false:=by
     rw [List.any_eq_false];intro x c;have:=QD.1 h1.1 x c;simpa using this
    unfold fu;rw [h2,h3];rfl
   refine Ub 2 Z fun R a=>Ux [[.slice l (aZ s).length cs]] U12 fun aQ _ _ aB=>UF (j:=0) U11 aB Z aw (by show (vs.length+1)*24<=_;omega) fl_ fun ab ac ad=>C4 1 [1,3,12,13,14] a Z<|Uf fun R a=>Ul _ U7<|C4 1 [1,3,12,13,14] a Z<|Ut (L':=[.arr (.slice ab ac ad) 50 1 (vs++[Value.slice l (aZ s).length cs]).length (vs++[Value.slice l (aZ s).length cs])]) (by rw [Qp];rfl)<|Un (m':=2 ^ n-(i+1)) om_ mup (hn_ [1,3,12,13,14] Z) ⟨i+1,vs++[Value.slice l (aZ s).length cs],ab,ac,ad,⟨by omega,by rw [K hs,E,QZ];exact k.m_.snoc r.m_⟩,Z,Z,Z⟩
  have E:fu (hS B b) (F i) s=F i:=by
   unfold fu;refine aV ?_;have h1:=S8.1 A;rcases h1 with h1 | h1
   ·obtain ⟨x,c,h2⟩:=SD.1 h1;rw [RN];exact .inl (SG.2 ⟨x,c,by simpa using h2⟩)
   rw [RN];have h2:ii B b (aZ s)=true:=by simpa using h1
   exact .inr h2
  refine Uf fun R a=>Ul _ U7<|C4 1 [1,3,12,13,14] a Z<|Un (m':=2 ^ n-(i+1)) om_ mup (hn_ [1,3,12,13,14] Z) ⟨i+1,vs,d,vs.length,e,⟨by omega,by rw [K hs,E];exact k.mono mup⟩,Z,Z,Z⟩
 have T:i=2 ^ n:=by
  have:=Ql w;omega
 subst T;rw [<- an];exact G.freezeArr 0 (vs.map fun x=>[x]) Z (lk vs) (lj vs) (al _) fun _ _ aC=>Ua 2 [2] Z<|Ui U2<|⟨Z,vs,k.mono mup,aC⟩
theorem OK {a b c d e:α}{l:List α}:(a::b::c::d::e::l).Perm (a::b::d::e::c::l):=.cons _ (.cons _ ((List.Perm.swap _ _ _).trans (.cons _ (.swap _ _ _))))
theorem Px (C:Mem)(o:Tabs C)(t:Value)(B:Bk)(w:List Rat)(k:Nat->List RowQ)(m:BookIn C t B)(h:Calm B w k)(U:B.obs.length<6) :
  Pur cx.P 20 [t] C fun u D=>∃ v,u=.tuple #[v,.int .i64 0]/\OutsIn D v ((eI (hS B k) (bQ B.obs.length)).map aZ):=by
 have aB:maxLen<=9223372036854775807:=by simp [maxLen]
 have aC:=wt U;have ab:=m;have ac:=jp (h:=hS B k) (bQ B.obs.length) [];rw [iS,Qy] at ac;obtain ⟨cs,z⟩:∃ cs,eI (hS B k) (bQ B.obs.length)=cs:=⟨_,rfl⟩;have ad:∀ x∈cs,x<32:=fun x b=>by have:=BV (z ▸ b);omega
 have aD:cs.length<=32:=by rw [<- z];unfold eI;omega
 have ag:=fun (D:Mem)(e:C.le D)=>tJ D (o.mono e) t B w k (ab.mono e) h om_;have V:=fun (D:Mem)(e:C.le D)(p q:Nat)(E:SrchIn D B p q)=>sk D (o.mono e) B w k p q E h U;simp only [z] at V ⊢;obtain ⟨v1,v2,tv,cv,ov,rfl,_⟩:=id m.ex;refine Vu kr_ func20 Z 33 Z Z fun w0=>Uf fun R a=>Uw U6 fun b1=>Uv U5 fun F=>Uv U5 fun H=>Ug [1,2,3] a Z<|G.freeze 2 Z fun _ _ ah=>UC [(1,3)] Z fun R a=>Uc (bkT ah 5) U8<|D.call (ag _ mup) Z (.inr dc_) U6 (Qo _) fl_ (fun aF _ aG _ ai=>?_);obtain ⟨p,q,rfl,E,rfl⟩:=ai;refine C4 5 [2,3,4,5] a Z<|Ua 2 [2,3,4,15] Z<|G.cond Z (fun aj=>absurd aj dc_) fun _=>Uf fun R a=>Uv U5 fun I=>Ug [2,3,4,6] a Z<|Ua 2 [2,3,6,18] Z ?_;have ak:=V _ mup p q E;refine G.nilArr 50 1<|We (ps:=[19,20]) (Lr:=[.obj I (.cells ⟨[.slice none 0 0]⟩ 45 (0,0)),.arr (.slice none 0 0) 50 1 0 [],.obj H (.cells ⟨[.int .i64 0]⟩ 46 (0,0)),.obj F (.cells ⟨[.slice none 0 0]⟩ 45 (0,0))]) Z Z kr_ ak (pkL [2,1,0,0,0] Z) (fun v l=>?_)
  (fun j d=>∃ (vs:List Value)(ls:List Lent)(A:Option Addr)(n c:Nat),vs.length=j/\(∀ x∈ls,x.wf)/\(∀ D,(∀ x∈ls,x.seen D)->OutL D vs ((cs.take j).map aZ))/\d=.obj I (.cells ⟨[.slice A n c]⟩ 45 (0,0))::.arr (.slice A n c) 50 1 vs.length vs::.obj H (.cells ⟨[.int .i64 0]⟩ 46 (0,0))::.obj F (.cells ⟨[.slice none 0 0]⟩ 45 (0,0))::ls.map Lent.ent)
  (fun _ _ _=>False)
  ⟨[],[],none,0,0,rfl,fun x b=>(by cases b),fun D _=>by rw [List.take_zero];exact OutL.nil _,rfl⟩ (fun v l=>?_)
  (fun j d W LA=>∃ x,cs[j]?=some x/\W=[(2,[],.pointer (some ⟨F,0,none⟩)),(3,[],.pointer (some ⟨H,0,none⟩)),(6,[],.pointer (some ⟨I,0,none⟩)),(7,[],.int .u64 (x:Nat)),(8,[],.int .i64 0)]/\LA=d)
  ?_ ?_ ?_ ?_
 ·obtain ⟨x,_,rfl⟩:=nQ l;rfl
 ·obtain ⟨x,_,rfl⟩:=nQ l;rfl
 ·intro l2 j v d W1 r l;obtain ⟨x,b,rfl⟩:=EG l;exact Ua 1 [2,3,6,7,20] Z<|Ua 1 [2,3,6,7,8] Z<|Wc [(2,[],_),(3,[],_),(6,[],_),(7,[],_),(8,[],_)] ⟨Z,Z,Z,Z,Z,trivial⟩ ⟨x,b,Z,Z⟩
 ·intro l2 j v d W LA W1 r l hA;obtain ⟨x,b,rfl,rfl⟩:=hA;obtain ⟨vs,ls,A,n,c,J,K,s,rfl⟩:=r;have X:=ad x (Qj b);have aH:j<cs.length:=(aE.1 b).1;have am:cs.take (j+1)=cs.take j++[x]:=by rw [List.take_add_one,b];rfl
  have Y:∀ v:Value,∀ y∈(Lent.arr v (aZ x).length 1 3 ((aZ x).map aO)::ls),y.wf:=fun v y hy=>by
   rcases Qw.1 hy with rfl | hy
   ·exact ⟨al _,mb _⟩
   exact K y hy
  have aa:∀ v:Value,∀ D,(∀ y∈(Lent.arr v (aZ x).length 1 3 ((aZ x).map aO)::ls),y.seen D)->OutL D (vs++[v]) ((cs.take (j+1)).map aZ):=fun v D e=>by
   rw [am,QZ];exact (s D (fun y hy=>e y (Qt _ hy))).snoc (e _ PH)
  refine Ua 2 [2,3,6,7,22] Z<|G.cond Z (fun an=>absurd an dc_) fun _=>VK 1 Z (fun A7 c7 e7 _ _ _=>?_);cases e7
  refine Uf fun R a=>Uj af U9<|C4 2 [2,3,6,7,26] a Z<|G.cond Z (fun ao=>absurd ao (fun h=>by have:=eq_of_beq h;omega)) fun _=>UV (.cut [1] (.alt 0 (.fin [2,3,4,5]) (.alt 2 (.fin [0,3,4,5]) .stop))) [(2,3)] Z Z kr_ fun R m a L=>Ue U6<|UK L Z ⟨?_, ?_,trivial⟩
  ·refine Uj af U9<|D.call (uq _ o.m_ x X) Z (.inr dc_) U6 (Qo _) fl_ (fun ap aq ar _ M=>?_);obtain ⟨f,g,i,rfl,rfl⟩:=M;refine Ux [[.slice f g i]] U12 fun au av _ N=>UF (j:=2) U11 N Z aw (by show (vs.length+1)*24<=_;omega) fl_ fun O Q S=>Um (j:=2) U12<|Ve [] trivial (a _ _ _ Z ?_);clear a m L R;exact G.perm _ OK<|Wj ⟨vs++[.slice f g i],.arr (.slice f g i) (aZ x).length 1 3 ((aZ x).map aO)::ls,O,Q,S,by rw [Qp,J];rfl,Y _,aa _,by rw [Qp];rfl⟩
  refine D.call (uq _ o.m_ x X) Z (.inr dc_) U6 (Qo _) fl_ (fun ap aq ar _ M=>?_);obtain ⟨f,g,i,rfl,rfl⟩:=M;refine Uj ae U9<|Ux [[.slice f g i]] U12 fun au av _ N=>UF (j:=2) U11 N Z aw (by show (vs.length+1)*24<=_;omega) fl_ fun O Q S=>Um (j:=2) U12<|Ve [] trivial (a _ _ _ Z ?_);clear a m L R;exact G.perm _ OK<|Wj ⟨vs++[.slice f g i],.arr (.slice f g i) (aZ x).length 1 3 ((aZ x).map aO)::ls,O,Q,S,by rw [Qp,J];rfl,Y _,aa _,by rw [Qp];rfl⟩
 ·intro T d r;obtain ⟨vs,ls,A,n,c,J,K,s,rfl⟩:=r;have ax:(EH cs).length=cs.length:=by unfold EH;rw [al]
  rw [ax,Qv] at s;exact Uf fun R a=>Uj ae U9<|Um (j:=4) U12<|Um (j:=4) U12<|Ug [2,3] a Z<|G.freezeArr 4 (vs.map fun x=>[x]) Z (lk vs) (lj vs) (al _) fun _ _ ay=>G.perm (L':=ls.map Lent.ent++[_,_,_,_]) (QV (l₁:=[_,_,_,_]))<|Vv ls K fun _ az aA=>Up<|G.perm (L':=[T].map qF++[_,_,_]) (pkL [2,0,0,0] Z)<|VW (Ds:=[T]) (.inl Z) (Lg ae af Z Z Z Z Z Z Z) ⟨Z,_,Z,vs,s _ aA,ay.mono az⟩
 intro T j cd d hj hX;exact hX.elim
theorem Gd (S:Sht)(l:List Sgt):(qZ S l).take 3=qZ S (l.take 3):=by
 unfold qZ;rw [<- Sd,List.take_range,Qx,show min 3 (min l.length 6)=min (min 3 l.length) 6 by omega];refine List.map_congr_left fun i a=>?_;have:=QE.1 a;rw [ax,ax,Q0,aV om_]
theorem sX (S:Sht)(H:Hts)(l:List Sgt):cA S H (l.take 3)={ cA S H l with obs:=(cA S H l).obs.take 3 }:=by
 unfold cA;simp only [Gd]
theorem Cd {n:Nat}:(.tuple #[v,.bool (decide ((n:Int)<=4) && true)]:Value)=.tuple #[v,.bool (decide (n<=4))]:=by
 rw [Bool.and_true,show decide ((n:Int)<=4)=decide (n<=4) from Q4.2 om_]
theorem NQ (C:Mem)(q:Tabs C)(v:Value)(S:Sht)(H:Hts)(l:List Sgt)(L:Ck C v S H l)(e:PlanR S H l) :
  Pur cx.P 12 [v] C fun u D=>∃ bv,u=.tuple #[bv,.bool (decide ((cD (S.kd % 8) S.a S.b S.h).length<=4))]/\BookIn D bv (cA S H (l.take 3)):=by
 obtain ⟨A,c,rfl,M⟩:=L;have N:=(fy (S.kd % 8) (Q2 _ dc_) S.a S.b S.h).1;refine Uk func12 26 U3 fun w0=>Uf fun R d=>Uw U6 fun T=>Uv U5 fun U=>C4 1 [1,2] d Z<|Uf fun R d=>Uj ae U9<|UM (Gs _ q.m_ S H _ l e.kd e.h M.m_ e.s N) U7 (fun V w _ x=>?_);obtain ⟨W,X,Y,cv,ov,rfl,i,k,n,o,p⟩:=id x;obtain ⟨y,z,rfl,_⟩:=id i;obtain ⟨B,E,rfl,_⟩:=id k;obtain ⟨F,G,rfl,_⟩:=id n;obtain ⟨I,J,rfl,_⟩:=id o;obtain ⟨r,f,rfl,O,aa,_⟩:=id p;simp only [al] at x i k n o p O ⊢;refine Uv U5 fun b4=>Um (j:=0) U12<|Ug [2,4] d Z<|Ub 1 Z fun R d=>Uj af U9<|C4 2 [2,4,10] d Z<|Ud (fun t=>?_) fun t=>?_
 ·have h3:3<(cA S H l).obs.length:=by
   have:=aK t;omega
  have K:=p.sub (l:=0) (h:=3) (m:=f) (Qm _) (by rw [al];omega) om_ (Qi _);rw [Ru,<- Sd] at K;have g:BookIn w (.agg ⟨[.slice y (cA S H l).pts.length z,.slice B (cA S H l).tris.length E,.slice F (cA S H l).terr.length G,.slice I (cA S H l).col.length J,.slice (if f=0 then r else r.map (·.add (0*11))) (3-0) (f-0)]⟩) (cA S H (l.take 3)):=by
   rw [sX];exact ⟨_,_,_,_,_,Z,i,k,n,o,K⟩
  refine Ub 1 Z fun R d=>Uj af U9<|UY 0 3 f U12 (fun _=>⟨.inl ⟨Z,Z⟩,.inr ⟨_,Z⟩,.inl ⟨Z,Z⟩,by omega,by omega,Qi _⟩) U2<|Ue U6<|Um (j:=0) U12<|Ug [2,4] d Z<|Uy [0,1,2,3,4,5,6,7,8,9,10,11,12] [] Z kr_ fun R Q d=>Uj af U9<|Uh 2 Z<|Uj af U9<|Uh 3 Z<|Uj af U9<|UJ (fun _=>((HR _ q.m_ _ S H (l.take 3) (fun s hs=>e.s s (List.take_subset _ _ hs)) g).ch _ mup)) U9<|Ue U6<|UB U8<|Um (j:=1) U12<|C4 1 [2,3] d Z<|Up (Vl af U5 ?_);exact ⟨Z,_,Cd,g.mono mup⟩
 have h3:¬ 3<(cA S H l).obs.length:=by
  have:=Ql t;omega
 have g:BookIn w (.agg ⟨[.slice y (cA S H l).pts.length z,.slice B (cA S H l).tris.length E,.slice F (cA S H l).terr.length G,.slice I (cA S H l).col.length J,.slice r (cA S H l).obs.length f]⟩) (cA S H (l.take 3)):=by
  rw [sX,QI om_];exact ⟨_,_,_,_,_,Z,i,k,n,o,p⟩
 refine Uy [0,1,2,3,4,5,6,7,8,9,10,11,12] [] Z kr_ fun R Q d=>Uj af U9<|Uh 2 Z<|Uj af U9<|Uh 3 Z<|Uj af U9<|UJ (fun _=>((HR _ q.m_ _ S H (l.take 3) (fun s hs=>e.s s (List.take_subset _ _ hs)) g).ch _ mup)) U9<|Ue U6<|UB U8<|Um (j:=1) U12<|C4 1 [2,3] d Z<|Up (Vl af U5 ?_);exact ⟨Z,_,Cd,g.mono mup⟩
theorem CY {B:Bk}{o:Obs}{p:Pt}{t:Tri}{z:Rat}(h:(cH B.col o).length<=2):(rowsO B o p t z).length<=8:=by
 unfold rowsO;split
 ·rw [Qp];split <;> split <;> simp
 split
 ·have:=Kd (c:=2) (f:=fun k=>[1, -1].map (iD (bs B) (bp B) k (atT t (wgt B.pts t p)) (kC o z))) (l:=cH B.col o) (fun k _=>by simp);omega
 have:=Kd (c:=4) (f:=fun k=>[1, -1].map (iD (bs B) (bp B) k (atT t fun j=>(slf B.pts t j).1) (qu o))++[1, -1].map (iD (bs B) (bp B) k (atT t fun j=>(slf B.pts t j).2) (jb o))) (l:=cH B.col o) (fun k _=>by simp);omega
theorem D8 (S:Sht)(H:Hts)(l:List Sgt)(c:∀ s∈l,SgtR s)(e:(cD (S.kd % 8) S.a S.b S.h).length<=4):Calm (cA S H l) (fsK (cD (S.kd % 8) S.a S.b S.h).length H) (roK S H l):=by
 have f:(cA S H l).obs.length=min l.length 6:=jJ S l;refine ⟨D7 S H l c, ?_,Ab Qb _,fun i g=>?_, ?_,fun i _=>?_,by omega⟩
 ·show 2*(cD (S.kd % 8) S.a S.b S.h).length<=12;omega
 ·have d:i<l.length:=by omega
  refine OA S H l _ i ?_;rw [ax,ak d];exact c _ (Rh d)
 ·have h1:=jB (bs (cA S H l)) (bp (cA S H l)) colK 1;have h2:bp (cA S H l)<=4:=e;show (bj (bs (cA S H l)) (bp (cA S H l)) colK 1).length<=24;omega
 refine CY ?_;unfold cH vL;refine QG (RL _ _) ?_;rw [Rf];exact Qi 2
theorem IP {D:Mem}(h:SmallO l D u):∃ A n c,u=.tuple #[.slice A n c,.bool (!l.isEmpty),.int .i64 0]/\(l=[]->n=0)/\(l≠[]->Sl D 1 (.slice A n c) ((aZ (l.headD 0)).map aO)):=by
 cases h with
 | none e=>subst e;exact ⟨none,0,0,rfl,fun _=>rfl,fun h=>absurd rfl h⟩
 | some x v e hs =>
  obtain ⟨A,c,rfl,_⟩:=id hs;cases l with
  | nil=>cases e
  | cons y l =>
   cases e
   exact ⟨A,_,c,Z,(fun h=>by cases h),fun _=>hs⟩
theorem wH {l:List α}(h:(!l.isEmpty)=true):l≠[]:=fun e=>by subst e;cases h
theorem ye (C:Mem)(e:Tabs C)(t:Value)(S:Sht)(H:Hts)(l:List Sgt)(K:Ck C t S H l)(u:PlanR S H l) :
  Gives cx.P 5 [t] C (.bool true):=by
 obtain ⟨A,c,rfl,L⟩:=id K;have ai:maxLen<=9223372036854775807:=by simp [maxLen]
 refine Uk func5 69 U3 fun w0=>Uf fun R d=>Uw U6 fun b1=>C4 1 [1] d Z<|G.freeze 0 Z fun _ _ M=>Uf fun R d=>Uo (Gz _ e.m_) U7<|C4 1 [1,12] d Z<|Ud (fun v=>?_) fun v=>?_
 ·exact absurd v dc_
 refine Uf fun R d=>Uc (bkT M 12) U8<|UM (NQ _ e.m_ _ S H l ⟨_,_,Z,L.mono mup⟩ u) U7 (fun aj _ _ N=>?_);obtain ⟨bv,rfl,f⟩:=N;have k:=D8 S H (l.take 3) (fun s hs=>u.s s (List.take_subset _ _ hs));have w:(cA S H (l.take 3)).obs.length<=3:=by
  show (qZ S (l.take 3)).length<=3;rw [jJ,Qx];omega
 obtain ⟨RO,O⟩:∃ RO,roK S H (l.take 3)=RO:=⟨_,rfl⟩;obtain ⟨fs,Q⟩:∃ fs,fsK (cD (S.kd % 8) S.a S.b S.h).length H=fs:=⟨_,rfl⟩;obtain ⟨B,x⟩:∃ B,cA S H (l.take 3)=B:=⟨_,rfl⟩;rw [O,Q,x] at k;rw [x] at f w;obtain ⟨m4,T⟩:∃ m,(cD (S.kd % 8) S.a S.b S.h).length=m:=⟨_,rfl⟩;rw [T] at k ⊢;obtain ⟨v1,v2,tv,cv,ov,rfl,U,V,W,X,Y⟩:=id f;obtain ⟨B1,d1,rfl,_⟩:=id U;obtain ⟨B2,d2,rfl,_⟩:=id V;obtain ⟨B3,d3,rfl,_⟩:=id W;obtain ⟨B4,d4,rfl,_⟩:=id X;obtain ⟨B5,d5,rfl,_⟩:=id Y;refine Uh 3 Z<|Uv U5 fun b3=>Um (j:=0) U12<|C4 1 [3,4] d Z<|Ua 2 [3,19] Z<|Ud (fun z=>?_) fun z=>?_
 ·exact Ua 1 [2] Z<|Ui U2<|⟨Z,Z⟩
 have h:=k (by simpa using z);obtain ⟨cs,g⟩:∃ cs,eI (hS B RO) (bQ B.obs.length)=cs:=⟨_,rfl⟩;have ak:cs.length<=8:=by
  have h1:=jp (h:=hS B RO) (bQ B.obs.length) [];rw [iS,Qy] at h1;have h8:∀ n<4,2 ^ n<=8:=by decide
  have h2:=h8 B.obs.length om_;rw [<- g];unfold eI;omega
 refine G.freeze 0 Z fun _ _ o=>Uf fun R d=>Uc (bkT o 5) U8<|UG (Px _ e.m_ _ B fs RO f.m_ h om_) U7 fl_ (fun am _ _ aa=>?_);obtain ⟨av,rfl,E⟩:=aa;rw [g] at E;refine C4 5 [3,5,6] d Z<|Uf fun R d=>Uc (bkT o 5) U8<|UG (qS _ e.m_ _ B fs RO f.m_ h om_) U7 fl_ (fun an _ _ F=>?_);rw [g] at F;obtain ⟨As,ns,ao,rfl,ab,ac⟩:=IP F;refine C4 7 [3,5,6,7,8,9] d Z<|Uf fun R d=>Uc (bkT o 5) U8<|UM (GO _ e.m_ _ B fs RO f.m_ h w) U7 (fun ap _ _ I=>?_);rw [g] at I;obtain ⟨vs,p,i⟩:=id I;obtain ⟨AW,cW,rfl,ad,aq,_⟩:=id i;have ae:vs.length=cs.length:=by rw [p.1,al]
 rw [al,ae] at i ad ⊢;obtain ⟨A0,c0,af,ag⟩:=nZ p 0;refine C4 1 [5,6,7,8,9,10] d Z<|Ub 2 Z fun R d=>Us (Bz _ _ _ (cs.map aZ) (cs.map aZ) E.m_ ⟨vs,p.mono mup,i.mono mup⟩ (by rw [al];omega)) U7 fl_<|Uh 4 Z<|UH U8<|Uh 6 Z<|UH U8<|Uh 3 Z<|UH U8<|Ug [7,8,10,51] d Z<|Ud (fun J=>?_) fun J=>?_
 ·exact absurd J (by cases cs <;> simp)
 refine Ub 6 Z fun R d=>UB U8<|Uh 5 Z<|D.index U10 (fun q=>⟨i.mono mup,by decide,(Bj (by have:=Q3.2 (wH q.1);omega) af)⟩) fl_ Z fun ar ah=>UE U6 ah U3<|Uz (fun q=>(by exact pT _ _ _ (aZ (cs.headD 0)) ((cs.map aZ).getD 0 []) ((ac (wH q.1)).mono mup) ag.m_)) U9<|UB U8<|UH U8<|C4 1 [2] d Z<|Ui U2<|⟨?_,Z⟩;cases cs with
 | nil=>rw [ab rfl];rfl
 | cons y r=>simp
end Go.Proofs.YthnpijdjlddpmaaGreatDoor
