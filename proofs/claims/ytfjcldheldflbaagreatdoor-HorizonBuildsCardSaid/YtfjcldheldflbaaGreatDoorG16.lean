/- Laws that the proofs of this seat share, part 16. -/
import Derived.Test.YtfjcldheldflbaaGreatDoorG15
import Derived.Test.YtfjcldheldflbaaGreatDoorShelf
set_option maxHeartbeats 4000000
namespace Go.Proofs.YtfjcldheldflbaaGreatDoor
open Go Go.Jog
set_option maxRecDepth 100000
variable {B:Bk}{RO:Nat->List RowQ}{p:Nat}{pt:Nat->Rat}{s:Nat}
theorem D6 {o:Obs}{p:Pt}{t:Tri}{z:Rat}(h:(cG B.col o).length<=2):(rowsO B o p t z).length<=8:=by
 unfold rowsO;split
 ·rw[Rf];split <;> split <;> simp
 split
 ·have:=KN (c:=2) (f:=fun k=>[1, -1].map (ii (bs B) (bp B) k (atT t (wgt B.pts t p)) (lG o z))) (l:=cG B.col o) (fun k _=>by simp);omega
 have:=KN (c:=4) (f:=fun k=>[1, -1].map (ii (bs B) (bp B) k (atT t fun j=>(slf B.pts t j).1) (rq o))++[1, -1].map (ii (bs B) (bp B) k (atT t fun j=>(slf B.pts t j).2) (jq o))) (l:=cG B.col o) (fun k _=>by simp);omega
theorem AR (S:Sht)(H:Hts)(l:List Sgt)(c:∀ s∈l,SgtR s):Calm (eF S H l) (fsK (cH (S.kd % 8) S.a S.b S.h).length H) (roK S H l):=by
 have e:=jX (S.kd % 8) S.a S.b S.h;have f:(eF S H l).obs.length=min l.length 6:=lZ S l;refine⟨EX S H l c, ?_,BG Q2 _,fun i g=>?_, ?_,fun i _=>?_,by omega⟩
 ·show 2*(cH (S.kd % 8) S.a S.b S.h).length<=12;omega
 ·have d:i<l.length:=by omega
  refine Ps S H l _ i ?_;rw[am,ai d];exact c _ (R6 d)
 ·have h1:=jO (bs (eF S H l)) (bp (eF S H l)) colK 1;have h2:bp (eF S H l)<=6:=e;show(bi (bs (eF S H l)) (bp (eF S H l)) colK 1).length<=24;omega
 refine D6 ?_;unfold cG wE;refine Rn (SS _ _) ?_;rw[Ss];exact Q7 2
def duL (rs:List (List Rat × Rat))(du:Nat->Rat):List Rat:=(List.range rs.length).map du
section
variable {n:Nat} {rs:List (List Rat × Rat)} {du:Nat->Rat}
theorem Mu {k:Nat}(h:k<rs.length):(duL rs du).getD k 0=du k:=Lp.map_range_getD h
theorem Oh:(duL rs du).length=rs.length:=by simp[duL]
theorem P8 (h:Lp.InfR (bU n rs) 20 du):∀ x∈duL rs du,QB 20 x:=fun x a=>by
 obtain⟨k,_,rfl⟩:=Ra.1 a;exact h.qd k
theorem JP {g:List Str}(i:tM n (rs.map di) g=0)(h:Lp.InfR (bU n rs) 20 du):LX n (rs.map di) g ((duL rs du).map qtx) rs (duL rs du)=0:=by
 have l:dV rs.length ((duL rs du).map qtx)=0:=gS.2 ⟨by rw[au,Oh],nW fun x c=>(P8 h x c).le dc_⟩;have m:(duL rs du).any (fun q=>decide (q<0))=false:=List.any_eq_false.2 fun x c=>by
  obtain⟨k,_,rfl⟩:=Ra.1 c;have:=h.pos k;simp only[Rj];grind
 have hs:zc rs.length ((duL rs du).map qtx) (duL rs du)=0:=by
  unfold zc;rw[aF (fun h=>h l),m];rfl
 unfold LX;rw[aF fun h2=>h2 i,aF fun h2=>h2 hs,aF];have e:EY rs (duL rs du) rs.length=Lp.sumN (fun r=>du r*(bU n rs).b r) rs.length:=Lp.sumN_congr fun k d=>by rw[Mu d];rfl
 have h1:Lp.sumN (fun r=>du r*(bU n rs).b r) rs.length<0:=h.bnd;rintro (h2|h2)
 ·rw[e]at h2;grind
 obtain⟨x,c,f⟩:=Tr.1 h2;obtain⟨j,o,rfl⟩:=Ra.1 c;rw[aF (Nat.not_lt_zero _)]at f;have p:Fh rs (duL rs du) j rs.length=Lp.sumN (fun r=>du r*(bU n rs).a r j) rs.length:=Lp.sumN_congr fun k d=>by rw[Mu d];rfl
 have s:Lp.sumN (fun r=>du r*(bU n rs).a r j) rs.length=0:=h.fac j (Rv.1 o);rw[p,s]at f;simp at f
end
theorem EQ (C:Mem)(x:Str):Gives cx.P 38 [af x] C (.bool (decide (x≠[48]))):=by
 refine UU Tryz.func38 5 U3 fun w0=>UM 1 [0] U<|UM 3 [2] U<|UT U2<|⟨?_,U⟩;congr 1;simp only[];by_cases h:x=[48]
 ·subst h;rfl
 rw[Rt h];simp[h]
theorem Jf (c:∀ j,QB 22 (pt j)):ug s p (jf s p pt)=0:=by
 have b:(jf s p pt).length=s:=by unfold jf chunks;simp
 unfold ug;rw[aJ b];refine ri fun j a=>?_;rw[b]at a;have e:(jf s p pt).getD j []=yB p (((List.range (s*p)).map pt).map qtx) j:=by
  unfold jf chunks;rw[am,Rb,RK a];rfl
 rw[e];have h1:(j+1)*p<=s*p:=RV _ a;have h2:(j+1)*p=j*p+p:=Nat.succ_mul _ _;unfold ou;rw[aJ (by unfold yB;rw[Tc,Ro,au,au,Ss];omega),Ru.2 fun x d=>?_]
 ·rfl
 have f:=So (Tw d);obtain⟨q,g,rfl⟩:=Ra.1 f;obtain⟨j,_,rfl⟩:=Ra.1 g;exact bA (c j)
theorem FH (a:∀ j,QB 22 (pt j)):IJ B (jf (bs B) (bp B) pt) ((List.range (bs B*bp B)).map pt):=fun _=>by
 refine⟨?_,by simp,fun x b=>?_⟩
 ·rw[<- FI,<- List.map_flatten,sw]
 obtain⟨j,_,rfl⟩:=Ra.1 b;exact(a j).le dc_
theorem DM (a:∀ j,QB 22 (pt j)):∀ l∈jf s p pt,∀ x∈l,x.length<=999998:=fun l b x c=>by
 obtain⟨j,_,rfl⟩:=Ra.1 b;have d:=So (Tw c);obtain⟨q,e,rfl⟩:=Ra.1 d;obtain⟨j,_,rfl⟩:=Ra.1 e;exact Rn (aZ (a j) dc_) dc_
theorem Ll {p:Lp.Sys}:(p.At fun j=>((List.range p.n).map pt).getD j 0) ↔ p.At pt:=by
 have e:∀ j,j<p.n->((List.range p.n).map pt).getD j 0=pt j:=fun j b=>by
  rw[am,Rb,RK b];rfl
 refine forall_congr' fun r=>imp_congr_right fun _=>?_;rw[show Lp.sumN (fun j=>p.a r j*(fun j=>((List.range p.n).map pt).getD j 0) j) p.n=Lp.sumN (fun j=>p.a r j*pt j) p.n from Lp.sumN_congr fun j b=>by show p.a r j*((List.range p.n).map pt).getD j 0=_;rw[e j b]]
theorem PY (a:∀ j,QB 22 (pt j)):N7 B RO (jf (bs B) (bp B) pt) ((List.range (bs B*bp B)).map pt)=if atB (od B RO) pt=true then 0 else 23:=by
 unfold N7;rw[aF (fun h=>h (Jf a))];have this:((od B RO).At fun j=>((List.range (bs B*bp B)).map pt).getD j 0) ↔ (od B RO).At pt:=Ll (p:=od B RO) (pt:=pt);by_cases h:(od B RO).At pt
 ·rw[aJ (this.2 h),aJ (AV.2 h)]
 rw[aF fun h2=>h (this.1 h2),aF fun h2=>h (AV.1 h2)]
theorem Fl (n:Nat):((List.replicate n (0:Rat)).map qtx).any (fun x=>decide (x≠[48]))=false:=List.any_eq_false.2 fun x a=>by
 obtain⟨q,b,rfl⟩:=Ra.1 a;rw[(List.mem_replicate.1 b).2,IX];decide
theorem Nf {n:Nat}{a:List RowQ}(h:∀ r∈a,r.f.length=n):∀ r∈(dx a).map di,r.1.length=n:=fun r hr=>by
 obtain⟨x,b,rfl⟩:=Ra.1 hr;obtain⟨y,hy,rfl⟩:=Ra.1 b;show(y.f.map qtx).length=_;rw[au];exact h y hy
theorem Iu {D:Mem}{u:Value}(h:BuiO B RO D u):∃ (A:Option Addr)(n c:Nat)(A2:Option Addr)(n2 c2:Nat)(a:Bool),u=.tuple #[.slice A n c,.agg ⟨[.slice A2 n2 c2]⟩,.bool a,i_ 0] /\
  ((a=true/\n2=0/\∃ pt,(od B RO).At pt/\Lp.CmD (bs B*bp B) 20 pt/\(∀ j,QB 20 (pt j))/\FieldsIn D (.slice A n c) (jf (bs B) (bp B) pt)) ∨
  (a=false/\n=0/\∃ du,Lp.InfR (od B RO) 20 du/\Sl D 1 (.slice A2 n2 c2) ((duL (dx (cq B RO)) du).map aQ))):=by
 cases h with
|yes pt v h1 h2 h3 h4 =>
  obtain⟨vs,_,_,h5⟩:=id h4;obtain⟨A,c,rfl,_⟩:=id h5;exact⟨_,_,_,_,_,_,true,U,.inl ⟨U,U,pt,h1,h2,h3,h4⟩⟩
|no du b h1 h2 =>
  obtain⟨A,c,rfl,_⟩:=id h2;refine⟨_,_,_,_,_,_,false,U,.inr ⟨U,U,du,h1, ?_⟩⟩;have e:duL (dx (cq B RO)) du=(List.range (cq B RO).length).map du:=by unfold duL;rw[dx,au]
  rw[e];exact h2
theorem Is (C:Mem)(f:Tabs C)(F:Value)(S:Sht)(H:Hts)(l:List Sgt)(hP:II C F S H l)(m:PlanR S H l):Gives cx.P 7 [F] C (.bool true):=by
 obtain⟨A,c,rfl,ac⟩:=hP;have hG:=(gK (S.kd % 8) (RU _ dc_) S.a S.b S.h).1;obtain⟨B,t⟩:∃ B,eF S H l=B:=⟨_,rfl⟩;have e:=AR S H l m.s;have I:=fun(D:Mem)(J:C.le D)=>G8 D (f.mono J) S H _ l m.kd m.h (ac.mono J) m.s hG;rw[t]at e I;generalize fsK (cH (S.kd % 8) S.a S.b S.h).length H=fs at e;generalize roK S H l=RO at e;have o:=cS B.obs.length;have K:=e.cnt o;have ar:=e.n12;have L:=e.rich.scol.1;refine UU Tryz.func7 106 U3 fun w0=>?_;refine UQ fun R d=>?_;refine Vd U6 (fun b1=>?_);refine C6 1 [1] d U ?_;clear d R;refine UQ fun R d=>?_;refine UZ (Hp _ f.m_) U7 ?_;refine C6 1 [1,13] d U ?_;clear d R;refine G.cd (fun M=>?_) fun M=>?_
 ·exact absurd M dc_
 refine G.freeze 0 U (fun _ _ ad=>?_);refine UQ fun R d=>?_;refine UO (bkT ad 12) U8 ?_;refine Vu (I _ mup) U7 (fun av _ _ g=>?_);obtain⟨v1,v2,tv,cv,ov,rfl,g1,g2,g3,g4,g5⟩:=id g;obtain⟨B1,d1,rfl,_⟩:=id g1;obtain⟨B2,d2,rfl,_⟩:=id g2;obtain⟨B3,d3,rfl,_⟩:=id g3;obtain⟨B4,d4,rfl,_⟩:=id g4;obtain⟨B5,d5,rfl,_⟩:=id g5;refine Ve U5 (fun b3=>?_);refine UX (j:=0) U12 ?_;refine US [3] d U ?_;clear d R;refine G.freeze 0 U (fun _ _ i=>?_);refine UQ fun R d=>?_;refine UO (bkT i 5) U8 ?_;refine Vu (xU _ f.m_ _ B fs RO g.m_ e) U7 (fun aw _ _ ae=>?_);obtain⟨lv,rfl,af⟩:=ae;refine C6 5 [3,4,5] d U ?_;clear d R;refine Vl [(1,3)] U (fun R d=>?_);refine UO (bkT i 5) U8 ?_;refine D.call (eZ _ f.m_ _ B fs RO g.m_ e) U (.inr dc_) U6 (Rh _) fl_ (fun ax _ ay _ ag=>?_);obtain⟨Ar,cr,bo,us,rfl,N,rfl⟩:=ag;refine UR 3 U ?_;refine Ve U5 (fun b6=>?_);refine UX (j:=0) U12 ?_;refine C6 1 [3,4,5,6,7] d U ?_;clear d R;refine G.freezeArr 1 (aD us (cq B RO)) U2 (bN _ _) (by rw[bk N.1]) (fun _ _ ah=>?_);rw[gp];refine G.freezeArr 1 ((List.replicate (bs B*bp B) (0:Rat)).map aQ) U2 bP ak (fun _ _ O=>?_);refine G.freeze 0 U (fun C7 _ k=>?_);have Q:=ig (RowsOk.m_ N) (ah.mono mup:Sl C7 2 _ _);refine UQ fun R d=>?_;refine UO (bkT i 5) U8 ?_;refine Vu (ye _ f.m_ _ B fs RO g.m_ e) U7 (fun az _ _ ai=>?_);obtain⟨As,V,cs,Ad,nd,cd,W,rfl,X⟩:=Iu ai;refine UR 5 U ?_;refine Ve U5 (fun b9=>?_);refine UP U6 ?_;refine UX (j:=0) U12 ?_;refine C6 2 [3,4,5,6,7,8,9,10,11] d U ?_;clear d R;refine G.freeze 0 U (fun _ _ u=>?_);refine UM 2 [3,4,6,7,8,9,10,11,34] U ?_;refine G.cd (fun Y=>?_) fun Y=>?_
 ·exact absurd Y dc_
 refine Vg [0,1,2,3,4,5,6,7,8,9,10,11,12,13,14,15,16,17,18,19,20,21,22,23,24,25,26,27,28,29,30,31,32] [] U kr_ (fun R t d=>?_);refine UR 5 U ?_;refine Vq U8 ?_;refine UR 2 U ?_;refine Vm U6 (fun _=>PtrTo.blockT (Mem.get k mup) _ 1) U3 ?_;refine Vm U6 (fun _=>PtrTo.blockT (Mem.get i mup) _ 5) U3 ?_;refine Vh (fun _=>(rB _ _ B g.m_ L om_)) U9 ?_;refine UP U6 ?_;refine Vq U8 ?_;refine UR 2 U ?_;refine Vm U6 (fun _=>PtrTo.blockT (Mem.get k mup) _ 1) U3 ?_;refine UP U6 ?_;refine Vh (fun _=>(wT _ _ _ _ Q.m_ af.T.m_ (by rw[au,dx,au];exact Rn K dc_) (fun r hr=>by rw[Nf e.rl r hr];omega))) U9 ?_;refine UP U6 ?_;refine Vq U8 ?_;refine UR 2 U ?_;refine Vm U6 (fun _=>PtrTo.blockT (Mem.get k mup) _ 1) U3 ?_;refine UP U6 ?_;refine Vm U6 (fun _=>PtrTo.blockT (Mem.get i mup) _ 5) U3 ?_;refine Vh (fun _=>(rB _ _ B g.m_ L om_)) U9 ?_;refine UP U6 ?_;refine Vq U8 ?_;refine UR 2 U ?_;refine Vm U6 (fun _=>PtrTo.blockT (Mem.get k mup) _ 1) U3 ?_;refine Vh (fun _=>(qB _ _ ((List.replicate (bs B*bp B) (0:Rat)).map qtx) 38 [] (fun x=>decide (x≠[48])) (by rw[<- fj];exact O.mono mup) kr_ (fun x _ D _=>EQ D x))) U9 ?_;refine Vq U8 ?_;refine US [3,6,8,9,10,74] d U ?_;clear d t R;refine G.cd (fun Z=>?_) fun Z=>?_
 ·exact absurd Z (by rw[Fl];simp)
 refine UM 1 [3,6,8,9,75] U ?_;refine G.cd (fun v=>?_) fun v=>?_
 ·have w:W=true:=v;subst w;obtain⟨aj,pt,al,am,an,aa⟩:nd=0/\∃ pt,(od B RO).At pt/\Lp.CmD (bs B*bp B) 20 pt/\(∀ j,QB 20 (pt j))/\FieldsIn _ (.slice As V cs) (jf (bs B) (bp B) pt):=by
   rcases X with⟨_,h⟩|⟨h,_⟩
   ·exact h
   cases h
  have p:∀ j,QB 22 (pt j):=fun j=>(an j).le dc_;have ao:atB (od B RO) pt=true:=AV.2 al;refine UQ fun R d=>?_;refine UO (bkT i 5) U8 ?_;refine UP U6 ?_;refine UY (Eo _ f.m_ _ _ B fs RO pt 20 g.m_ e aa.m_ dc_ am p) U7 fl_ ?_;refine UP U6 ?_;refine Vm U6 (fun _=>PtrTo.blockT (Mem.get i mup) _ 5) U3 ?_;refine UP U6 ?_;refine Vh (fun _=>(Hy _ f.m_ _ _ B fs RO (jf (bs B) (bp B) pt) ((List.range (bs B*bp B)).map pt) g.m_ e aa.m_ (DM p) (by unfold jf chunks;simp;have:=e.rich.scol.2;omega) (FH p))) U9 ?_;refine UP U6 ?_;refine Vk U8 ?_;refine UR 2 U ?_;refine Vm U6 (fun _=>PtrTo.blockT (Mem.get u mup) _ 1) U3 ?_;refine UR 2 U ?_;refine Vk U8 ?_;refine C6 1 [2] d U ?_;clear d R;refine UT U2 ?_;exact⟨by rw[PY p,ao];simp[aj],U⟩
 have w:W=false:=v;subst w;obtain⟨ap,du,hi,y⟩:V=0/\∃ du,Lp.InfR (od B RO) 20 du/\Sl _ 1 (.slice Ad nd cd) ((duL (dx (cq B RO)) du).map aQ):=by
  rcases X with⟨h,_⟩|⟨_,h⟩
  ·cases h
  exact h
 have hz:=Di (n:=bs B*bp B) (rows:=cq B RO) om_ (Rn K dc_) e.rl (e.rowI o) RI (xi _);have aq:=JP hz hi;have z:=P8 hi;have ab:∀ s∈(duL (dx (cq B RO)) du).map qtx,s.length<=999998:=fun s hs=>by
  obtain⟨q,hq,rfl⟩:=Ra.1 hs;exact Rn (aZ (z q hq) dc_) dc_
 rw[fj]at y;refine UN 4 U fun R d=>?_;refine Vm U6 (fun _=>PtrTo.blockT (Mem.get k mup) _ 3) U3 ?_;refine Vm U6 (fun _=>PtrTo.blockT (Mem.get u mup) _ 1) U3 ?_;refine Vh (fun _=>(qo _ f.m_ (bs B*bp B) _ _ _ _ ((List.replicate (bs B*bp B) (0:Rat)).map qtx) _ (dx (cq B RO)) (duL (dx (cq B RO)) du) Q.m_ (by rw[<- fj];exact O.mono mup) (Ga (e.rowI o)) (wd _) y.m_ ab (fun _=>⟨U,e.rowsQ o⟩) (fun _=>⟨U,fun x E=>(z x E).le dc_⟩))) U9 ?_;refine UP U6 ?_;refine Vk U8 ?_;refine UP U6 ?_;refine Vm U6 (fun _=>PtrTo.blockT (Mem.get i mup) _ 5) U3 ?_;refine Vm U6 (fun _=>PtrTo.blockT (Mem.get u mup) _ 1) U3 ?_;refine Vh (fun _=>(zT _ f.m_ _ _ B fs RO _ (duL (dx (cq B RO)) du) g.m_ e y.m_ ab (fun _=>⟨U,fun x E=>(z x E).le dc_⟩))) U9 ?_;refine UP U6 ?_;refine Vk U8 ?_;refine C6 1 [2] d U ?_;clear d R;refine UT U2 ?_;exact⟨by rw[aq];simp[ap],U⟩
end Go.Proofs.YtfjcldheldflbaaGreatDoor
