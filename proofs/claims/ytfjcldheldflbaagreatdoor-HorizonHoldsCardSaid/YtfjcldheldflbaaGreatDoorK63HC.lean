/- FOR ANY PLAN, ANY TWO DESCRIBED SURFACES AND ANY PLACE HorizonHolds ANSWERS true, and leaves them as they were. -/
import Derived.Test.YtfjcldheldflbaaGreatDoorG16
import Derived.Test.YtfjcldheldflbaaGreatDoorShelf
namespace Go.Proofs.YtfjcldheldflbaaGreatDoor
open Go Go.Jog Go.ChangeShapes Go.WideShapes Go.ChangeAt Go.RowKit
set_option maxRecDepth 100000
set_option maxHeartbeats 40000000
namespace lawHorizonHolds
theorem KL (a:Os)(b:Array Value):laidMetH Tryz.prog Rows.horizonHoldsRow.laid ((qS a).forCall (fun _ _=>0) ⟨#[],b,[]⟩).memory :=
 laidMet_of_run' 8 kr_ kr_
theorem Li (H:Type)(k:TypeId × Value->H)(W:World)(I:Nat)(d:Array Value)(u J:List (DataW H))(K:List MemPlace)
  (h:∀ (j:Nat) t v,Tryz.f6.params[j]?=some t->d[j]?=some v->Value.okWide Tryz.prog W .any I t v)
  (w:DataW.Whole k Tryz.prog Tryz.f6.params.toList Rows.horizonHoldsSpec.vars false W d.toList u J K) (L:laidMet Tryz.prog Rows.horizonHoldsRow.laid W) :
  Calls Tryz.prog 6 d W fun e y=>∃ v,e=.returned v/\Rows.horizonHoldsSpec.post k Tryz.prog Tryz.f6 false true false false W d v y:=by
 have f:=w;obtain ⟨p,q,M,N,rfl,ah,ai⟩:=w;have z:DataW.TrodAll k Tryz.prog W 0 (fun _=>true) true Tryz.f6.params.toList d.toList u p:=M;rw [Tryz.params6] at z h;obtain ⟨m,aj,d0,al,A,q0,am,rfl,rfl,h0,O⟩:=trodAll_cons z;obtain ⟨o,an,d1,ao,B,q1,ap,rfl,rfl,h1,P⟩:=trodAll_cons O;obtain ⟨r,aq,d2,ar,C,q2,au,rfl,rfl,h2,Q⟩:=trodAll_cons P;obtain ⟨rfl,rfl,rfl⟩:=trodAll_nil Q;obtain rfl:d=#[m,o,r]:=by cases d;simp_all
 obtain ⟨rfl,rfl⟩:=trodVars_none N;obtain ⟨R,T,V,Y,Z⟩:∃ S G l,IW (rW W) m S G l/\PlanR S G l:=by
  obtain ⟨cs,rfl,_⟩:=okWide_struct Tryz.underlying31 (h 0 31 m rfl rfl);obtain ⟨n,g⟩:=(id h0);exact NQ g
 obtain ⟨D,rfl,E⟩:∃ X:Hts × Hts,o=.agg ⟨HF X.1++HF X.2⟩/\Jb X.1/\Jb X.2:=by
  obtain ⟨⟨cs⟩,rfl,F⟩:=uL Tryz.underlying90 (h 1 90 o rfl rfl);have hc:Tryz.prog.cellsOf 90=14:=by kernel_rfl
  obtain ⟨n,g⟩:=(id h1);have hl:cs.length=14:=by rw [hc] at F;exact F
  obtain ⟨X,e,hr⟩:=Ah hl g;exact ⟨X,congrArg (fun x=>Value.agg ⟨x⟩) e,hr⟩
 obtain ⟨aa,ab,rfl⟩:∃ a b:Str,r=.agg ⟨[ae a,ae b]⟩:=by
  obtain ⟨⟨cs⟩,rfl,_⟩:=okWide_struct Tryz.underlying34 (h 2 34 r rfl rfl);obtain ⟨n,g⟩:=(id h2);obtain ⟨a,b,hr⟩:=Kg g;exact ⟨a,b,congrArg (fun x=>Value.agg ⟨x⟩) hr⟩
 simp only [RQ] at f;have ac:∀ x∈A,x.block<W.heap.size:=fun x c=>f.lt x (by simp [c]);have ad:∀ x∈B,x.block<W.heap.size:=fun x c=>f.lt x (by simp [c]);have af:∀ x∈C,x.block<W.heap.size:=fun x c=>f.lt x (by simp [c]);have ag:=Aj (ED (rW W) (Nb L) _ aa ab R T D.1 D.2 V Y Z E.1 E.2);refine Calls.mono ag fun e y ⟨he,i⟩=>?_;subst he;refine ⟨_,U,uH (pa:=A++(B++(C++([])))) (pv:=[]) f (fun _ _ _=>trodAll_cons_mk (shut_bool Tryz.underlying4 _) trodAll_mk0) (fun sp s=>?_) (fun _ _=>rfl) ak i (ok_one kr_ U (okWide_bool_mk Tryz.underlying4 _))⟩;exact trodAll_cons_mk (WideElems.Trod_stays uY kr_ (QL kr_) h0 (fun x c=>i.same (ac x c)) (fun x c=>s x (by simp [c]))) (trodAll_cons_mk (WideElems.Trod_stays uY kr_ (QL kr_) h1 (fun x c=>i.same (ad x c)) (fun x c=>s x (by simp [c]))) (trodAll_cons_mk (WideElems.Trod_stays uY kr_ (QL kr_) h2 (fun x c=>i.same (af x c)) (fun x c=>s x (by simp [c]))) (trodAll_mk0)))
theorem Q3 (a:Os){H:Type}(b:TypeId × Value->H):∃ c,DataW.whole b Tryz.prog ((qS a).forCall (fun _ _=>0) ⟨#[],#[.agg ⟨[.int .u8 0,.int .i8 0,.int .i8 0,.bool false,.int .i8 0,.int .i8 0,.int .i8 0,.int .i8 0,.int .i8 0,.int .i8 0,.bool false,.slice none 0 0]⟩,.agg ⟨[.int .i8 0,.int .i8 0,.int .i8 0,.int .i8 0,.int .i8 0,.int .i8 0,.bool false,.int .i8 0,.int .i8 0,.int .i8 0,.int .i8 0,.int .i8 0,.int .i8 0,.bool false]⟩,.agg ⟨[.string ⟨#[]⟩,.string ⟨#[]⟩]⟩],[]⟩).memory Tryz.f6.params.toList Rows.horizonHoldsSpec.vars false (#[.agg ⟨[.int .u8 0,.int .i8 0,.int .i8 0,.bool false,.int .i8 0,.int .i8 0,.int .i8 0,.int .i8 0,.int .i8 0,.int .i8 0,.bool false,.slice none 0 0]⟩,.agg ⟨[.int .i8 0,.int .i8 0,.int .i8 0,.int .i8 0,.int .i8 0,.int .i8 0,.bool false,.int .i8 0,.int .i8 0,.int .i8 0,.int .i8 0,.int .i8 0,.int .i8 0,.bool false]⟩,.agg ⟨[.string ⟨#[]⟩,.string ⟨#[]⟩]⟩]:Array Value).toList 8=some ([.agg [.agg [.lit (.int .u8 0),.agg [.lit (.int .i8 0),.lit (.int .i8 0)],.lit (.bool false)],.agg [.agg [.lit (.int .i8 0),.lit (.int .i8 0),.lit (.int .i8 0),.lit (.int .i8 0),.lit (.int .i8 0),.lit (.int .i8 0)],.lit (.bool false)],.nil],.agg [.agg [.agg [.lit (.int .i8 0),.lit (.int .i8 0),.lit (.int .i8 0),.lit (.int .i8 0),.lit (.int .i8 0),.lit (.int .i8 0)],.lit (.bool false)],.agg [.agg [.lit (.int .i8 0),.lit (.int .i8 0),.lit (.int .i8 0),.lit (.int .i8 0),.lit (.int .i8 0),.lit (.int .i8 0)],.lit (.bool false)]],.agg [.lit (.string []),.lit (.string [])]],[],c) :=
 ⟨[],by kernel_rfl⟩
theorem Qb (b:Os)(c:b.Started)(H:Type)(a:TypeId × Value->H)(F:Stop.Interp) :
  ReturnsInHanded {} Tryz.checked b 6 .any ((OpenSpec.ofChange Rows.horizonHoldsSpec).preRow a Tryz.prog Tryz.f6 Rows.horizonHoldsRow.domain false Rows.horizonHoldsRow.laid) (((OpenSpec.ofChange Rows.horizonHoldsSpec).at F).post a Tryz.prog Tryz.f6 false true false false):=by
 obtain ⟨m,d⟩:=Q3 b a;refine returnsInHanded_of_row (C:=Tryz.checked) (s:=OpenSpec.ofChange Rows.horizonHoldsSpec) own c kr_ Tryz.func6
  (witness_row_at (enc:=a) (C:=Tryz.checked) false (qS b) #[.agg ⟨[.int .u8 0,.int .i8 0,.int .i8 0,.bool false,.int .i8 0,.int .i8 0,.int .i8 0,.int .i8 0,.int .i8 0,.int .i8 0,.bool false,.slice none 0 0]⟩,.agg ⟨[.int .i8 0,.int .i8 0,.int .i8 0,.int .i8 0,.int .i8 0,.int .i8 0,.bool false,.int .i8 0,.int .i8 0,.int .i8 0,.int .i8 0,.int .i8 0,.int .i8 0,.bool false]⟩,.agg ⟨[.string ⟨#[]⟩,.string ⟨#[]⟩]⟩] rfl kr_ kr_ kr_
   (OpenSpec.preRow_of_cond 8 d kr_ (fun k e=>by cases e) kr_ (KL b _))) ?_
 intro W f args ds g h i j _ _ _ l _ _;exact Li H a W f args ds g h i j l
theorem Rk {a b:Bool}(h:a=true)(k:b=true):(a && b)=true:=by rw [h,k];rfl
theorem said:Rows.HorizonHoldsSaid :=
 OpenClaim.holds_of_cond 6 Tryz.f6 rfl rfl rfl rfl rfl rfl rfl ⟨rfl,rfl,rfl,rfl,rfl⟩ rfl rfl rfl rfl rfl (by as_aux_lemma=>kernel_rfl) Tryz.func6 (by unfold joinedFacts;(repeat' (with_reducible refine Rk ?_ ?_));all_goals (as_aux_lemma=>kernel_rfl))
  (QL (by as_aux_lemma=>kernel_rfl)) (by unfold Func.isWrapper;first | (rw [aM aq];kernel_rfl) | (rw [aF aq];exact ⟨rfl,rfl⟩))
  (fun os a H enc _ F=>by rw [OpenClaim.pre_eq_preRow];exact Qb os a H enc F)
theorem plain (f : FuncId) (a : Func) (c : Tryz.pinned.checked.prog.funcNamed "klippe/klippelaw26.HorizonHolds" = some f) (d : Tryz.pinned.checked.prog.funcs[f]? = some a) :
  true=Tryz.pinned.checked.prog.looks []/\∀ (j:Nat) t,a.params[j]?=some t->Tryz.pinned.checked.prog.wantsStandIn t=false:=by
 obtain rfl : f = 6 := Sx ((show Tryz.prog.funcNamed "klippe/klippelaw26.HorizonHolds" = some 6 by kernel_rfl).symm.trans c) |>.symm;obtain rfl:a=Tryz.f6:=(Sx (Tryz.func6.symm.trans d)).symm;refine ⟨by kernel_rfl,fun j t b=>?_⟩;rw [Tryz.params6] at b;have hm:=Array.mem_of_getElem? b;simp only [List.mem_toArray,RC,Ss,TS] at hm;rcases hm with rfl | rfl | rfl
 ·exact (show Tryz.prog.wantsStandIn 31=false by kernel_rfl)
 ·exact (show Tryz.prog.wantsStandIn 90=false by kernel_rfl)
 exact (show Tryz.prog.wantsStandIn 34=false by kernel_rfl)
end lawHorizonHolds
theorem horizonHolds_card:Rows.HorizonHoldsCardSaid :=
 Claim7.holds_tied_plain_at .later [] _ _ _ _ lawHorizonHolds.said (fun _ h=>by cases h) (by as_aux_lemma=>kernel_rfl) (fun _ h=>by cases h) horizonHolds_row_tie (by as_aux_lemma=>kernel_rfl) ⟨by as_aux_lemma=>kernel_rfl,by as_aux_lemma=>kernel_rfl⟩ (by as_aux_lemma=>kernel_rfl) (by as_aux_lemma=>kernel_rfl) lawHorizonHolds.plain (by as_aux_lemma=>kernel_rfl)
#print axioms horizonHolds_card
end Go.Proofs.YtfjcldheldflbaaGreatDoor
