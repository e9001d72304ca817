/- Laws that the proofs of this seat share, part 15. -/
import Derived.Test.YthnpijdjlddpmaaGreatDoorG14
import Derived.Test.YthnpijdjlddpmaaGreatDoorShelf
set_option maxHeartbeats 4000000
namespace Go.Proofs.YthnpijdjlddpmaaGreatDoor
open Go Go.Jog
set_option maxRecDepth 100000
theorem NK:∀ n<4,∀ s<2 ^ n,(List.range n).filter (fun q=>!gz [q] (aX s))=aX (Ch (2 ^ n-1) s):=by decide +kernel
theorem J4 {p:Nat->Bool}{j:Nat}:(List.range (j+1)).filter p=(List.range j).filter p++(if p j then [j] else []):=by
 rw [Rs,RW];congr 1;simp only [List.filter_cons,List.filter_nil]
theorem OM {f:Type}{a b c d e:f}{l:List f}:(a::b::c::d::e::l).Perm (a::b::d::e::c::l):=.cons _ (.cons _ ((List.Perm.swap _ _ _).trans (.cons _ (.swap _ _ _))))
theorem Pw (C:Mem)(o:Tabs C)(t:Value)(B:Bk)(w:List Rat)(k:Nat->List RowQ)(m:BookIn C t B)(h:Calm B w k)(U:B.obs.length<6) :
  Pur cx.P 20 [t] C fun u D=>∃ v,u=.tuple #[v,.int .i64 0]/\OutsIn D v ((cZ (hS B k) (bH B.obs.length)).map aX):=by
 have aB:maxLen<=9223372036854775807:=by simp [maxLen]
 have aC:=wz U;have ab:=m;have ac:=qA (h:=hS B k) (bH B.obs.length) [];rw [lB,QW] at ac;obtain ⟨cs,z⟩:∃ cs,cZ (hS B k) (bH B.obs.length)=cs:=⟨_,rfl⟩;have ad:∀ x∈cs,x<32:=fun x b=>by have:=uR (z ▸ b);omega
 have aD:cs.length<=32:=by rw [<- z];unfold cZ;omega
 have ag:=fun (D:Mem)(e:C.le D)=>tJ D (o.mono e) t B w k (ab.mono e) h om_;have V:=fun (D:Mem)(e:C.le D)(p q:Nat)(E:SrchIn D B p q)=>sf D (o.mono e) B w k p q E h U;simp only [z] at V ⊢;obtain ⟨v1,v2,tv,cv,ov,rfl,_⟩:=id m.ex;refine Vv kr_ Tryz.func20 Z 33 Z Z fun w0=>Uf fun R a=>Uw U6 fun b1=>Uv U5 fun F=>Uv U5 fun H=>Ug [1,2,3] a Z<|G.freeze 2 Z fun _ _ ah=>UB [(1,3)] Z fun R a=>Uc (bkT ah 5) U8<|D.call (ag _ mup) Z (.inr dc_) U6 (Qo _) fl_ (fun aE _ aG _ ai=>?_);obtain ⟨p,q,rfl,E,rfl⟩:=ai;refine C4 5 [2,3,4,5] a Z<|Ua 2 [2,3,4,15] Z<|G.cond Z (fun aj=>absurd aj dc_) fun _=>Uf fun R a=>Uv U5 fun I=>Ug [2,3,4,6] a Z<|Ua 2 [2,3,6,18] Z ?_;have ak:=V _ mup p q E;refine G.nilArr 50 1<|Wd (ps:=[19,20]) (Lr:=[.obj I (.cells ⟨[.slice none 0 0]⟩ 45 (0,0)),.arr (.slice none 0 0) 50 1 0 [],.obj H (.cells ⟨[.int .i64 0]⟩ 46 (0,0)),.obj F (.cells ⟨[.slice none 0 0]⟩ 45 (0,0))]) Z Z kr_ ak (pkL [2,1,0,0,0] Z) (fun v l=>?_)
  (fun j d=>∃ (vs:List Value)(ls:List Lent)(A:Option Addr)(n c:Nat),vs.length=j/\(∀ x∈ls,x.wf)/\(∀ D,(∀ x∈ls,x.seen D)->OutL D vs ((cs.take j).map aX))/\d=.obj I (.cells ⟨[.slice A n c]⟩ 45 (0,0))::.arr (.slice A n c) 50 1 vs.length vs::.obj H (.cells ⟨[.int .i64 0]⟩ 46 (0,0))::.obj F (.cells ⟨[.slice none 0 0]⟩ 45 (0,0))::ls.map Lent.ent)
  (fun _ _ _=>False)
  ⟨[],[],none,0,0,rfl,fun x b=>(by cases b),fun D _=>by rw [List.take_zero];exact OutL.nil _,rfl⟩ (fun v l=>?_)
  (fun j d W LA=>∃ x,cs[j]?=some x/\W=[(2,[],.pointer (some ⟨F,0,none⟩)),(3,[],.pointer (some ⟨H,0,none⟩)),(6,[],.pointer (some ⟨I,0,none⟩)),(7,[],.int .u64 (x:Nat)),(8,[],.int .i64 0)]/\LA=d)
  ?_ ?_ ?_ ?_
 ·obtain ⟨x,_,rfl⟩:=nN l;rfl
 ·obtain ⟨x,_,rfl⟩:=nN l;rfl
 ·intro l2 j v d W1 r l;obtain ⟨x,b,rfl⟩:=EC l;exact Ua 1 [2,3,6,7,20] Z<|Ua 1 [2,3,6,7,8] Z<|Wb [(2,[],_),(3,[],_),(6,[],_),(7,[],_),(8,[],_)] ⟨Z,Z,Z,Z,Z,trivial⟩ ⟨x,b,Z,Z⟩
 ·intro l2 j v d W LA W1 r l hA;obtain ⟨x,b,rfl,rfl⟩:=hA;obtain ⟨vs,ls,A,n,c,J,K,s,rfl⟩:=r;have X:=ad x (Qi b);have aH:j<cs.length:=(aF.1 b).1;have al:cs.take (j+1)=cs.take j++[x]:=by rw [List.take_add_one,b];rfl
  have Y:∀ v:Value,∀ y∈(Lent.arr v (aX x).length 1 3 ((aX x).map aO)::ls),y.wf:=fun v y hy=>by
   rcases Qw.1 hy with rfl | hy
   ·exact ⟨aw _,jo _⟩
   exact K y hy
  have aa:∀ v:Value,∀ D,(∀ y∈(Lent.arr v (aX x).length 1 3 ((aX x).map aO)::ls),y.seen D)->OutL D (vs++[v]) ((cs.take (j+1)).map aX):=fun v D e=>by
   rw [al,QX];exact (s D (fun y hy=>e y (Qq _ hy))).snoc (e _ aL)
  refine Ua 2 [2,3,6,7,22] Z<|G.cond Z (fun am=>absurd am dc_) fun _=>VT 1 Z (fun A7 c7 e7 _ _ _=>?_);cases e7
  refine Uf fun R a=>Uj af U9<|C4 2 [2,3,6,7,26] a Z<|G.cond Z (fun an=>absurd an (fun h=>by have:=eq_of_beq h;omega)) fun _=>UW (.cut [1] (.alt 0 (.fin [2,3,4,5]) (.alt 2 (.fin [0,3,4,5]) .stop))) [(2,3)] Z Z kr_ fun R m a L=>Ue U6<|UL L Z ⟨?_, ?_,trivial⟩
  ·refine Uj af U9<|D.call (ut _ o.m_ x X) Z (.inr dc_) U6 (Qo _) fl_ (fun ao ap aq _ M=>?_);obtain ⟨f,g,i,rfl,rfl⟩:=M;refine Ux [[.slice f g i]] U12 fun ar au _ N=>UG (j:=2) U11 N Z ax (by show (vs.length+1)*24<=_;omega) fl_ fun O Q S=>Um (j:=2) U12<|Vf [] trivial (a _ _ _ Z ?_);clear a m L R;exact G.perm _ OM<|Wi ⟨vs++[.slice f g i],.arr (.slice f g i) (aX x).length 1 3 ((aX x).map aO)::ls,O,Q,S,by rw [Qp,J];rfl,Y _,aa _,by rw [Qp];rfl⟩
  refine D.call (ut _ o.m_ x X) Z (.inr dc_) U6 (Qo _) fl_ (fun ao ap aq _ M=>?_);obtain ⟨f,g,i,rfl,rfl⟩:=M;refine Uj ae U9<|Ux [[.slice f g i]] U12 fun ar au _ N=>UG (j:=2) U11 N Z ax (by show (vs.length+1)*24<=_;omega) fl_ fun O Q S=>Um (j:=2) U12<|Vf [] trivial (a _ _ _ Z ?_);clear a m L R;exact G.perm _ OM<|Wi ⟨vs++[.slice f g i],.arr (.slice f g i) (aX x).length 1 3 ((aX x).map aO)::ls,O,Q,S,by rw [Qp,J];rfl,Y _,aa _,by rw [Qp];rfl⟩
 ·intro T d r;obtain ⟨vs,ls,A,n,c,J,K,s,rfl⟩:=r;have av:(ED cs).length=cs.length:=by unfold ED;rw [aw]
  rw [av,Qv] at s;exact Uf fun R a=>Uj ae U9<|Um (j:=4) U12<|Um (j:=4) U12<|Ug [2,3] a Z<|G.freezeArr 4 (vs.map fun x=>[x]) Z (oC vs) (oB vs) (aw _) fun _ _ ay=>G.perm (L':=ls.map Lent.ent++[_,_,_,_]) (QT (l₁:=[_,_,_,_]))<|Vw ls K fun _ az aA=>Un<|G.perm (L':=[T].map qC++[_,_,_]) (pkL [2,0,0,0] Z)<|VV (Ds:=[T]) (.inl Z) (K9 ae af Z Z Z Z Z Z Z) ⟨Z,_,Z,vs,s _ aA,ay.mono az⟩
 intro T j cd d hj hX;exact hX.elim
theorem HU:∀ n<4,∀ s<2 ^ n,Ch (2 ^ n-1) s=2 ^ n-1-s:=by decide +kernel
theorem Nm:∀ n<4,∀ c<2 ^ n,∀ x<2 ^ n,((aX c).any fun i=>gz [i] (aX x))=(c &&& x != 0):=by decide +kernel
section
variable {B:Bk} {RO:Nat->List RowQ} {n:Nat}
theorem I4 (a:n<4)(e:B.obs.length=n):iV (hC B RO) (bH n)=iV (fun x=>hS B RO (2 ^ n-1-x)) (bH n):=mO _ _ fun x b=>by
 unfold hC;rw [e,HU n a x (eC b)]
theorem Nc (a:n<4)(e:B.obs.length=n):(∀ x∈iV (hC B RO) (bH n),x<2 ^ n/\(∀ c∈cZ (hS B RO) (bH n),(c &&& x != 0)=true)/\fu B RO (aX (Ch (2 ^ n-1) x))=true)/\(cZ (hS B RO) (bH n)=[]->iV (hC B RO) (bH n)=[0]):=by
 have h:=Nb a (Ge (B:=B) (RO:=RO) a);unfold JP at h;rw [<- I4 a e] at h;obtain ⟨h1,h2⟩:=SU.1 h;refine ⟨fun x b=>?_,fun h0=>?_⟩
 ·have d:x<2 ^ n:=by
   rcases tQ _ _ b with h | h
   ·cases h
   exact eC h
  obtain ⟨h3,h4⟩:=SU.1 (Qx.1 h1 x b);exact ⟨d,fun c f=>Qx.1 h3 c f,by rw [HU n a x d];exact h4⟩
 rw [h0] at h2;exact eq_of_beq h2
end
theorem Js {D:Mem}:OutL D [.slice none 0 0] [[]]:=⟨rfl,fun j v o h1 h2=>by
 cases j with
 | zero=>cases h1;cases h2;exact Sl.nil _ _
 | succ j=>cases h1⟩
theorem Nd (C:Mem)(F:Tabs C)(pv:Value)(S:Sht)(H:Hts)(l:List Sgt)(hP:Ck C pv S H l)(ai:PlanR S H l) :
  Gives cx.P 6 [pv] C (.bool true):=by
 obtain ⟨A,c,rfl,aS⟩:=id hP;have bs:maxLen<=9223372036854775807:=by simp [maxLen]
 refine Uk Tryz.func6 130 U3 fun w0=>?_;refine Uf fun R d=>?_;refine Uw U6 (fun b1=>?_);refine C4 1 [1] d Z ?_;clear d R;refine G.freeze 0 Z (fun _ _ aT=>?_);refine Uf fun R d=>?_;refine Uo (Gu _ F.m_) U7 ?_;refine C4 1 [1,23] d Z ?_;clear d R;refine Ud (fun aj=>?_) fun aj=>?_
 ·exact absurd aj dc_
 refine Uf fun R d=>?_;refine Uc (bkT aT 12) U8 ?_;refine UM (NR _ F.m_ _ S H l ⟨_,_,Z,aS.mono mup⟩ ai) U7 (fun bt _ _ aU=>?_);obtain ⟨bv,rfl,f⟩:=aU;have U:=D5 S H (l.take 3) (fun s hs=>ai.s s (List.take_subset _ _ hs));have am:(cm S H (l.take 3)).obs.length<=3:=by
  show (qT S (l.take 3)).length<=3;rw [jI,Qz];omega
 obtain ⟨RO,aW⟩:∃ RO,roK S H (l.take 3)=RO:=⟨_,rfl⟩;obtain ⟨fs,aY⟩:∃ fs,fsK (cD (S.kd % 8) S.a S.b S.h).length H=fs:=⟨_,rfl⟩;obtain ⟨B,an⟩:∃ B,cm S H (l.take 3)=B:=⟨_,rfl⟩;rw [aW,aY,an] at U;rw [an] at f am;obtain ⟨m4,aZ⟩:∃ m,(cD (S.kd % 8) S.a S.b S.h).length=m:=⟨_,rfl⟩;rw [aZ] at U ⊢;obtain ⟨v1,v2,tv,cv,ov,rfl,g1,g2,g3,g4,g5⟩:=id f;obtain ⟨B1,d1,rfl,_⟩:=id g1;obtain ⟨B2,d2,rfl,_⟩:=id g2;obtain ⟨B3,d3,rfl,_⟩:=id g3;obtain ⟨B4,d4,rfl,_⟩:=id g4;obtain ⟨B5,d5,rfl,_⟩:=id g5;obtain ⟨n,I⟩:∃ n,B.obs.length=n:=⟨_,rfl⟩;simp only [aw,I] at f am ⊢;refine Uh 3 Z ?_;refine Uv U5 (fun J=>?_);refine Um (j:=0) U12 ?_;refine C4 1 [3,4] d Z ?_;clear d R;refine Ua 2 [3,30] Z ?_;refine Ud (fun ao=>?_) fun ao=>?_
 ·refine Ua 1 [2] Z ?_;refine Ui U2 ?_;exact ⟨Z,Z⟩
 have h:=U (by simpa using ao);have a0:=f;obtain ⟨ap,aq⟩:=Nc (B:=B) (RO:=RO) (n:=n) om_ I;have a1:=fun (s:Nat)(hs:s<2 ^ n)=>JU (B:=B) (RO:=RO) (n:=n) om_ hs;have V:∀ x∈cZ (hS B RO) (bH n),x<2 ^ n:=fun x hx=>uR hx;obtain ⟨cs,N⟩:∃ cs,cZ (hS B RO) (bH n)=cs:=⟨_,rfl⟩;obtain ⟨rs,W⟩:∃ rs,iV (hC B RO) (bH n)=rs:=⟨_,rfl⟩;rw [N,W] at ap aq;rw [N] at V;have bu:rs.length<=8:=by
  have h1:=tR (h:=hC B RO) (bH n) [];rw [lB,QW] at h1;have h8:∀ n<4,2 ^ n<=8:=by decide
  have h2:=h8 n om_;rw [<- W];unfold iV;omega
 refine G.freeze 0 Z (fun _ _ K=>?_);refine Uf fun R d=>?_;refine Uc (bkT K 5) U8 ?_;refine UH (Pw _ F.m_ _ B fs RO f.m_ h om_) U7 fl_ (fun bw _ _ a2=>?_);obtain ⟨av,rfl,ar⟩:=a2;rw [I,N] at ar;obtain ⟨vs,X,O⟩:=id ar;obtain ⟨D,E,rfl,a3,bx,_⟩:=id O;have a4:vs.length=cs.length:=by rw [X.1,aw]
 rw [aw] at O a3 ⊢;refine C4 5 [3,5,6] d Z ?_;clear d R;refine Uf fun R d=>?_;refine Uc (bkT K 5) U8 ?_;refine UH (ta _ F.m_ _ B fs RO f.m_ h om_) U7 fl_ (fun bz _ _ a5=>?_);obtain ⟨rv,rfl,Q⟩:=a5;rw [I,W] at Q;obtain ⟨ws,au,Y⟩:=id Q;obtain ⟨o,t,rfl,a6,bA,_⟩:=id Y;have bB:ws.length=rs.length:=by rw [au.1,aw]
 rw [aw] at Y a6 Q ⊢;refine C4 5 [3,5,6,7,8] d Z ?_;clear d R;refine Ub 5 Z fun R d=>?_;refine UF U8 ?_;refine Ug [3,5,7,46] d Z ?_;clear d R;refine Ud (fun ay=>?_) fun ay=>?_
 ·exact absurd ay dc_
 refine Ua 3 [3,5,7,49] Z ?_;refine G.cut (fun fr C' e v=>(True)/\fr=[(3,[],.pointer (some ⟨J,0,none⟩)),(5,[],.slice D vs.length E),(7,[],.slice o ws.length t)]/\e=[]) ?_ (fun fr _ bC v _ w=>?_)
 ·refine Ud (fun az=>?_) fun az=>?_
  ·have a7:0<vs.length:=by
    have:=aV az;omega
   obtain ⟨c0,aa⟩:∃ c0,cs[0]?=some c0:=⟨_,ak om_⟩;have aB:=V c0 (Qi aa);obtain ⟨Ax,bD,aC,aD⟩:=uh X 0;have a8:(cs.map aX).getD 0 []=aX c0:=by rw [al,Ql,aa];rfl
   rw [a8] at aC aD;have aE:=a1 c0 aB;rw [N,SM.2 (Qi aa)] at aE;refine Uy [0,1,2,3,4,5,6,7,8,9] [(4,1),(0,0)] Z kr_ (fun R f d=>?_);refine Vc (fun _=>((bkT K 5).mono f)) U9 ?_;refine Ue U6 ?_;refine Us O.m_ U10 om_ (FY a7 aC) fl_ (fun bE a9=>?_);refine Uc a9 U8 ?_;refine Uz (fun _=>(O3 _ F.m_ _ _ B fs RO (aX c0) a0.m_ h (by rw [I];exact zm om_ aB) aD.m_)) U9 ?_;refine Uh 5 Z ?_;refine Ug [3,5,7,9,10] d Z ?_;clear d f R;refine Ub 5 Z fun R d=>?_;refine UF U8 ?_;refine Ug [3,5,7,63] d Z ?_;clear d R;refine Ud (fun aF=>?_) fun aF=>?_
   ·exact absurd aF (by rw [aE];decide)
   refine Uq 0 (Mem.le.refl _) (hn_ [3,5,7] Z) ⟨trivial,Z,Z⟩
  refine Uq 0 (Mem.le.refl _) (hn_ [3,5,7] Z) ⟨trivial,Z,Z⟩
 obtain ⟨bF,rfl,rfl⟩:=w;refine Ua 3 [3,5,7,64,65,66] Z ?_;refine G.loop (fun fr C' e v=>∃ (i:Nat),(i<=ws.length)/\fr=[(3,[],.pointer (some ⟨J,0,none⟩)),(5,[],.slice D vs.length E),(7,[],.slice o ws.length t),(64,[],.slice o ws.length t),(65,[],.int .i64 ws.length),(66,[],.int .i64 i)]/\e=[]/\v=ws.length-i) (hn_ [3,5,7,64,65,66] Z) ⟨0,Qn _,Z,Z,Z⟩ (fun fr bG bI m _ w=>?_);obtain ⟨i,hi,rfl,rfl,rfl⟩:=w;refine Ua 1 [3,5,7,64,65,66,67] Z ?_;refine Ud (fun aG=>?_) fun aG=>?_
 ·have ba:i<ws.length:=by
   have:=aV aG;omega
  obtain ⟨y,hy⟩:∃ y,rs[i]?=some y:=⟨_,ak om_⟩;obtain ⟨ab,bb,bc⟩:=ap y (Qi hy);obtain ⟨Ay,cy,aI,ac⟩:=uh au i;have bd:(rs.map aX).getD i []=aX y:=by rw [al,Ql,hy];rfl
  rw [bd] at aI ac;refine Uf fun R d=>?_;refine Us Y.m_ U10 om_ (FY ba aI) fl_ (fun bJ be=>?_);refine Uc be U8 ?_;refine C4 1 [3,5,7,12,64,65,66] d Z ?_;clear d R;refine Ua 3 [3,5,7,12,64,65,66,70,71,72] Z ?_;refine G.loop (fun fr C' e v=>∃ (j:Nat),(j<=vs.length)/\fr=[(3,[],.pointer (some ⟨J,0,none⟩)),(5,[],.slice D vs.length E),(7,[],.slice o ws.length t),(12,[],.slice Ay (aX y).length cy),(64,[],.slice o ws.length t),(65,[],.int .i64 ws.length),(66,[],.int .i64 i),(70,[],.slice D vs.length E),(71,[],.int .i64 vs.length),(72,[],.int .i64 j)]/\e=[]/\v=vs.length-j) (hn_ [3,5,7,12,64,65,66,70,71,72] Z) ⟨0,Qn _,Z,Z,Z⟩ (fun fr bK bL m _ w=>?_);obtain ⟨j,hj,rfl,rfl,rfl⟩:=w;refine Ua 1 [3,5,7,12,64,65,66,70,71,72,73] Z ?_;refine Ud (fun aJ=>?_) fun aJ=>?_
  ·have bf:j<vs.length:=by
    have:=aV aJ;omega
   obtain ⟨z,hz⟩:∃ z,cs[j]?=some z:=⟨_,ak om_⟩;have bg:=V z (Qi hz);have bh:=bb z (Qi hz);obtain ⟨Az,cz,aK,aL⟩:=uh X j;have bi:(cs.map aX).getD j []=aX z:=by rw [al,Ql,hz];rfl
   rw [bi] at aK aL;have bM:(aX z).length<=5:=QE (RE _ _) (Nat.le_of_eq (Rh));refine Uf fun R d=>?_;refine Us O.m_ U10 om_ (FY bf aK) fl_ (fun bN bj=>?_);refine Uc bj U8 ?_;refine C4 1 [3,5,7,12,14,64,65,66,70,71,72] d Z ?_;clear d R;refine Ua 1 [3,5,7,12,14,15,64,65,66,70,71,72] Z ?_;refine Ua 3 [3,5,7,12,15,64,65,66,70,71,72,76,77,78] Z ?_;refine G.loop (fun fr C' e v=>∃ (k:Nat),(k<=(aX z).length)/\fr=[(3,[],.pointer (some ⟨J,0,none⟩)),(5,[],.slice D vs.length E),(7,[],.slice o ws.length t),(12,[],.slice Ay (aX y).length cy),(15,[],.bool (((aX z).take k).any fun i=>gz [i] (aX y))),(64,[],.slice o ws.length t),(65,[],.int .i64 ws.length),(66,[],.int .i64 i),(70,[],.slice D vs.length E),(71,[],.int .i64 vs.length),(72,[],.int .i64 j),(76,[],.slice Az (aX z).length cz),(77,[],.int .i64 (aX z).length),(78,[],.int .i64 k)]/\e=[]/\v=(aX z).length-k) (hn_ [3,5,7,12,15,64,65,66,70,71,72,76,77,78] Z) ⟨0,Qn _,Z,Z,Z⟩ (fun fr bO bP m _ w=>?_);obtain ⟨k,hk,rfl,rfl,rfl⟩:=w;refine Ua 1 [3,5,7,12,15,64,65,66,70,71,72,76,77,78,79] Z ?_;refine Ud (fun ad=>?_) fun ad=>?_
   ·have ae:k<(aX z).length:=by
     have:=aV ad;omega
    obtain ⟨u,hu⟩:∃ u,(aX z)[k]?=some u:=⟨_,ak ae⟩;refine Uf fun R d=>?_;refine Us aL.m_ U10 om_ (qg hu) fl_ (fun bQ bk=>?_);refine Uc bk U8 ?_;refine C4 1 [3,5,7,12,15,17,64,65,66,70,71,72,76,77,78] d Z ?_;clear d R;refine Ub 3 Z fun R d=>?_;refine Vr [[.int .i64 (u:Nat)]] U12 fl_ U2 (fun bR _ _ bl=>?_);refine Ue U6 ?_;refine Uz (fun hg=>(by exact By _ _ _ [u] (aX y) ((bl hg).mono mup) ac.m_)) U9 ?_;refine UF U8 ?_;refine C4 1 [3,5,7,12,15,64,65,66,70,71,72,76,77,78] d Z ?_;clear d R;rw [show ((((aX z).take k).any fun i=>gz [i] (aX y)) || gz [u] (aX y))=((aX z).take (k+1)).any (fun i=>gz [i] (aX y)) from by rw [QJ,hu,List.any_append];simp];refine Uf fun R d=>?_;refine Ul _ U7 ?_;refine C4 1 [3,5,7,12,15,64,65,66,70,71,72,76,77,78] d Z ?_;clear d R;refine Up (m':=(aX z).length-(k+1)) om_ mup (hn_ [3,5,7,12,15,64,65,66,70,71,72,76,77,78] Z) ⟨k+1,om_,Z,Z,Z⟩
   have ae:k=(aX z).length:=by
    have:=Qm ad;omega
   subst ae;rw [Qv,Nm n om_ z bg y ab,bh];refine Ua 2 [3,5,7,12,64,65,66,70,71,72,91] Z ?_;refine Ud (fun aM=>?_) fun aM=>?_
   ·exact absurd aM dc_
   refine Uf fun R d=>?_;refine Ul _ U7 ?_;refine C4 1 [3,5,7,12,64,65,66,70,71,72] d Z ?_;clear d R;refine Up (m':=vs.length-(j+1)) om_ mup (hn_ [3,5,7,12,64,65,66,70,71,72] Z) ⟨j+1,om_,Z,Z,Z⟩
  skip
  refine Ua 1 [3,5,7,12,18,64,65,66] Z ?_;refine Ua 1 [3,5,7,12,18,19,64,65,66] Z ?_;refine G.nilArr 3 1 ?_;refine G.loop (fun fr C' e v=>∃ (g:Nat)(L:Option Addr)(n1 M:Nat),(g<=n)/\fr=[(3,[],.pointer (some ⟨J,0,none⟩)),(5,[],.slice D vs.length E),(7,[],.slice o ws.length t),(12,[],.slice Ay (aX y).length cy),(18,[],.slice L n1 M),(19,[],.int .i64 g),(64,[],.slice o ws.length t),(65,[],.int .i64 ws.length),(66,[],.int .i64 i)]/\e=[.arr (.slice L n1 M) 3 1 ((List.range g).filter fun q=>!gz [q] (aX y)).length ((((List.range g).filter fun q=>!gz [q] (aX y))).map aO).flatten]/\v=n-g) (hn_ [3,5,7,12,18,19,64,65,66] Z) ⟨0,none,0,0,Qn _,Z,Z,Z⟩ (fun fr bS bT m _ w=>?_);obtain ⟨g,L,n1,M,bU,rfl,rfl,rfl⟩:=w;refine Ub 2 Z fun R d=>?_;refine Uc (bkT K 1) U8 ?_;refine C4 2 [3,5,7,12,18,19,64,65,66,97] d Z ?_;clear d R;refine Ud (fun ag=>?_) fun ag=>?_
  ·have bV:g<n:=by
    have:=aV ag;omega
   have bW:((List.range g).filter fun q=>!gz [q] (aX y)).length<=g:=by
    have:=RE (fun q=>!gz [q] (aX y)) (List.range g)
    rwa [Rh] at this
   have T:=J4 (p:=fun q=>!gz [q] (aX y)) (j:=g);refine Ub 1 Z fun R d=>?_;refine Ux [[.int .i64 g]] U12 (fun bX _ _ bm=>?_);refine Ue U6 ?_;refine Uo (By _ _ _ [g] (aX y) bm.m_ ac.m_) U7 ?_;refine C4 1 [3,5,7,12,18,19,64,65,66,104] d Z ?_;clear d R;refine Ud (fun ah=>?_) fun ah=>?_
   ·rw [aH (by exact ah)] at T;refine Ub 2 Z fun R d=>?_;refine Ux [[.int .i64 g]] U12 (fun bY _ _ bn=>?_);refine UG (j:=0) U11 bn Z ax (by show (((List.range g).filter fun q=>!gz [q] (aX y)).length+1)*8<=_;omega) fl_ (fun aN aP aQ=>?_);refine C4 1 [3,5,7,12,18,19,64,65,66] d Z ?_;clear d R;refine Ub 1 Z fun R d=>?_;refine Ul _ U7 ?_;refine C4 1 [3,5,7,12,18,19,64,65,66] d Z ?_;clear d R;refine Ut (L':=[.arr (.slice aN aP aQ) 3 1 ((List.range (g+1)).filter fun q=>!gz [q] (aX y)).length ((((List.range (g+1)).filter fun q=>!gz [q] (aX y))).map aO).flatten]) (by rw [T,QX,Q8,Qp];rfl) ?_;refine Up (m':=n-(g+1)) om_ mup (hn_ [3,5,7,12,18,19,64,65,66] Z) ⟨g+1,aN,aP,aQ,om_,Z,Z,Z⟩
   rw [aA (by rw [ah];decide),QI] at T;refine Ub 1 Z fun R d=>?_;refine Ul _ U7 ?_;refine C4 1 [3,5,7,12,18,19,64,65,66] d Z ?_;clear d R;refine Ut (L':=[.arr (.slice L n1 M) 3 1 ((List.range (g+1)).filter fun q=>!gz [q] (aX y)).length ((((List.range (g+1)).filter fun q=>!gz [q] (aX y))).map aO).flatten]) (by rw [T]) ?_;refine Up (m':=n-(g+1)) om_ mup (hn_ [3,5,7,12,18,19,64,65,66] Z) ⟨g+1,L,n1,M,om_,Z,Z,Z⟩
  have bo:n=g:=by
   have:=Qm ag;omega
  subst bo;rw [NK n om_ y ab];refine VU af (fun _ _ bp _=>?_);cases bp
  refine G.freezeArr 0 ((aX (Ch (2 ^ n-1) y)).map aO) Z Z (jo _) (aw _) (fun _ _ bq=>?_);refine Uf fun R d=>?_;refine Uc (bkT K 5) U8 ?_;refine Ue U6 ?_;refine Ur (oq _ F.m_ _ _ B fs RO (aX (Ch (2 ^ n-1) y)) f.m_ h (by rw [I];exact zm om_ (BU n om_ y ab)) bq.m_) U7 fl_ ?_;refine C4 5 [3,5,7,20,21,64,65,66] d Z ?_;clear d R;refine Ub 5 Z fun R d=>?_;refine UF U8 ?_;refine Ug [3,5,7,64,65,66,120] d Z ?_;clear d R;refine Ud (fun aR=>?_) fun aR=>?_
  ·exact absurd aR (by rw [bc];decide)
  refine Uf fun R d=>?_;refine Ul _ U7 ?_;refine C4 1 [3,5,7,64,65,66] d Z ?_;clear d R;refine Up (m':=ws.length-(i+1)) om_ mup (hn_ [3,5,7,64,65,66] Z) ⟨i+1,om_,Z,Z,Z⟩
 skip
 refine Ub 5 Z fun R d=>?_;refine Vr [[.slice none 0 0]] U12 fl_ U2 (fun bZ _ _ br=>?_);refine Uz (fun hg=>(by exact Bx _ _ _ (rs.map aX) [[]] Q.m_ ⟨[.slice none 0 0],Js,(br hg).mono mup⟩ (by rw [aw];omega))) U9 ?_;refine UF U8 ?_;refine C4 1 [2] d Z ?_;clear d R;refine Ui U2 ?_;refine ⟨?_,Z⟩;cases cs with
 | nil=>rw [aq rfl];simp [aX]
 | cons y r =>
  have:vs.length=r.length+1:=a4;rw [this];simp
end Go.Proofs.YthnpijdjlddpmaaGreatDoor
