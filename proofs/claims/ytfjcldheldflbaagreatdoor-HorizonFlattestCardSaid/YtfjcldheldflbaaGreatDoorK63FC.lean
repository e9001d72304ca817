import Derived.Test.YtfjcldheldflbaaGreatDoorG17
namespace Go.Proofs.YtfjcldheldflbaaGreatDoor
open Go Go.Jog Go.ChangeShapes Go.WideShapes Go.ChangeAt Go.RowKit
set_option maxRecDepth 100000
set_option maxHeartbeats 40000000
namespace lawHorizonFlattest
theorem Ln (a:Os)(b:Array Value):laidMetH Tryz.prog Rows.horizonFlattestRow.laid ((rq a).forCall (fun _ _=>0) ⟨#[],b,[]⟩).memory :=
 laidMet_of_run' 8 kr_ kr_
theorem LZ (H:Type)(c:TypeId × Value->H)(W:World)(s:Nat)(a:Array Value)(g u:List (DataW H))(w:List MemPlace)
  (h:∀ (j:Nat) t v,Tryz.f8.params[j]?=some t->a[j]?=some v->Value.okWide Tryz.prog W .any s t v)
  (i:DataW.Whole c Tryz.prog Tryz.f8.params.toList Rows.horizonFlattestSpec.vars false W a.toList g u w) (y:laidMet Tryz.prog Rows.horizonFlattestRow.laid W) :
  Calls Tryz.prog 8 a W fun e k=>∃ v,e=.returned v/\Rows.horizonFlattestSpec.post c Tryz.prog Tryz.f8 false true false false W a v k:=by
 have d:=i;obtain ⟨p,q,z,A,rfl,O,P⟩:=i;have m:DataW.TrodAll c Tryz.prog W 0 (fun _=>true) true Tryz.f8.params.toList a.toList g p:=z;rw [Tryz.params8] at m h;obtain ⟨f,Q,R,T,o,V,X,rfl,rfl,h0,B⟩:=trodAll_cons m;obtain ⟨rfl,rfl,rfl⟩:=trodAll_nil B;obtain rfl:a=#[f]:=by cases a;simp_all
 obtain ⟨rfl,rfl⟩:=trodVars_none A;obtain ⟨C,D,E,F,I⟩:∃ S G l,PlanIn (sx W) f S G l/\PlanR S G l:=by
  obtain ⟨cs,rfl,_⟩:=okWide_struct Tryz.underlying31 (h 0 31 f rfl rfl);obtain ⟨n,J⟩:=(id h0);exact OD J
 simp only [SF] at d;have K:∀ x∈o,x.block<W.heap.size:=fun x b=>d.lt x (by simp [b]);have L:=AK (AO (sx W) (NO y) _ C D E F I);refine Calls.mono L fun e k ⟨M,r⟩=>?_;subst M;refine ⟨_,U,uV (pa:=o++([])) (pv:=[]) d (fun _ _ _=>trodAll_cons_mk (shut_bool Tryz.underlying4 _) trodAll_mk0) (fun Y N=>?_) (fun _ _=>rfl) al r (ok_one kr_ U (okWide_bool_mk Tryz.underlying4 _))⟩;exact trodAll_cons_mk (WideElems.Trod_stays Lo kr_ (RD kr_) h0 (fun x b=>r.same (K x b)) (fun x b=>N x (by simp [b]))) (trodAll_mk0)
theorem RW (a:Os){H:Type}(b:TypeId × Value->H):∃ c,DataW.whole b Tryz.prog ((rq a).forCall (fun _ _=>0) ⟨#[],#[.agg ⟨[.int .u8 0,.int .i8 0,.int .i8 0,.bool false,.int .i8 0,.int .i8 0,.int .i8 0,.int .i8 0,.int .i8 0,.int .i8 0,.bool false,.slice none 0 0]⟩],[]⟩).memory Tryz.f8.params.toList Rows.horizonFlattestSpec.vars false (#[.agg ⟨[.int .u8 0,.int .i8 0,.int .i8 0,.bool false,.int .i8 0,.int .i8 0,.int .i8 0,.int .i8 0,.int .i8 0,.int .i8 0,.bool false,.slice none 0 0]⟩]:Array Value).toList 8=some ([.agg [.agg [.lit (.int .u8 0),.agg [.lit (.int .i8 0),.lit (.int .i8 0)],.lit (.bool false)],.agg [.agg [.lit (.int .i8 0),.lit (.int .i8 0),.lit (.int .i8 0),.lit (.int .i8 0),.lit (.int .i8 0),.lit (.int .i8 0)],.lit (.bool false)],.nil]],[],c) :=
 ⟨[],by kernel_rfl⟩
theorem QZ (b:Os)(c:b.Started)(H:Type)(a:TypeId × Value->H)(F:Stop.Interp) :
  ReturnsInHanded {} Tryz.checked b 8 .any ((OpenSpec.ofChange Rows.horizonFlattestSpec).preRow a Tryz.prog Tryz.f8 Rows.horizonFlattestRow.domain false Rows.horizonFlattestRow.laid) (((OpenSpec.ofChange Rows.horizonFlattestSpec).at F).post a Tryz.prog Tryz.f8 false true false false):=by
 obtain ⟨m,d⟩:=RW b a;refine returnsInHanded_of_row (C:=Tryz.checked) (s:=OpenSpec.ofChange Rows.horizonFlattestSpec) own c kr_ Tryz.func8
  (witness_row_at (enc:=a) (C:=Tryz.checked) false (rq b) #[.agg ⟨[.int .u8 0,.int .i8 0,.int .i8 0,.bool false,.int .i8 0,.int .i8 0,.int .i8 0,.int .i8 0,.int .i8 0,.int .i8 0,.bool false,.slice none 0 0]⟩] rfl kr_ kr_ kr_
   (OpenSpec.preRow_of_cond 8 d kr_ (fun k e=>by cases e) kr_ (Ln b _))) ?_
 intro W f args ds g h i j _ _ _ l _ _;exact LZ H a W f args ds g h i j l
theorem Sd {a b:Bool}(h:a=true)(k:b=true):(a && b)=true:=by rw [h,k];rfl
theorem said:Rows.HorizonFlattestSaid :=
 OpenClaim.holds_of_cond 8 Tryz.f8 rfl rfl rfl rfl rfl rfl rfl ⟨rfl,rfl,rfl,rfl,rfl⟩ rfl rfl rfl rfl rfl (by as_aux_lemma=>kernel_rfl) Tryz.func8 (by unfold joinedFacts;(repeat' (with_reducible refine Sd ?_ ?_));all_goals (as_aux_lemma=>kernel_rfl))
  (RD (by as_aux_lemma=>kernel_rfl)) (by unfold Func.isWrapper;first | (rw [aK ap];kernel_rfl) | (rw [aF ap];exact ⟨rfl,rfl⟩))
  (fun os a H enc _ F=>by rw [OpenClaim.pre_eq_preRow];exact QZ os a H enc F)
theorem plain (f : FuncId) (a : Func) (b : Tryz.pinned.checked.prog.funcNamed "klippe/klippelaw26.HorizonFlattest" = some f) (c : Tryz.pinned.checked.prog.funcs[f]? = some a) :
  true=Tryz.pinned.checked.prog.looks []/\∀ (j:Nat) t,a.params[j]?=some t->Tryz.pinned.checked.prog.wantsStandIn t=false:=by
 obtain rfl : f = 8 := TO ((show Tryz.prog.funcNamed "klippe/klippelaw26.HorizonFlattest" = some 8 by kernel_rfl).symm.trans b) |>.symm;obtain rfl:a=Tryz.f8:=(TO (Tryz.func8.symm.trans c)).symm;refine ⟨by kernel_rfl,fun j t ht=>?_⟩;rw [Tryz.params8] at ht;have hm:=Array.mem_of_getElem? ht;simp only [List.mem_toArray,Sw,Tp,UG] at hm;subst hm
 ·exact (show Tryz.prog.wantsStandIn 31=false by kernel_rfl)
end lawHorizonFlattest
theorem horizonFlattest_card:Rows.HorizonFlattestCardSaid :=
 Claim7.holds_tied_plain_at .later [] _ _ _ _ lawHorizonFlattest.said (fun _ h=>by cases h) (by as_aux_lemma=>kernel_rfl) (fun _ h=>by cases h) horizonFlattest_row_tie (by as_aux_lemma=>kernel_rfl) ⟨by as_aux_lemma=>kernel_rfl,by as_aux_lemma=>kernel_rfl⟩ (by as_aux_lemma=>kernel_rfl) (by as_aux_lemma=>kernel_rfl) lawHorizonFlattest.plain (by as_aux_lemma=>kernel_rfl)
#print axioms horizonFlattest_card
end Go.Proofs.YtfjcldheldflbaaGreatDoor
