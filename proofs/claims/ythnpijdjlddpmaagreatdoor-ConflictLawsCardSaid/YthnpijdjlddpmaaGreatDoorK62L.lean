/- FOR ANY PLAN ConflictLaws ANSWERS true, and leaves it as it was. -/
import Derived.Test.YthnpijdjlddpmaaGreatDoorG15
import Derived.Test.YthnpijdjlddpmaaGreatDoorShelf
namespace Go.Proofs.YthnpijdjlddpmaaGreatDoor
open Go Go.Jog Go.ChangeShapes Go.WideShapes Go.ChangeAt Go.RowKit
set_option maxRecDepth 100000
set_option maxHeartbeats 40000000
namespace lawConflictLaws
theorem JQ (a:Os)(b:Array Value):laidMetH Tryz.prog Rows.conflictLawsRow.laid ((pQ a).forCall (fun _ _=>0) ⟨#[],b,[]⟩).memory :=
 laidMet_of_run' 8 kr_ kr_
theorem Ks (H:Type)(c:TypeId × Value->H)(W:World)(s:Nat)(a:Array Value)(g u:List (DataW H))(w:List MemPlace)
  (h:∀ (j:Nat) t v,Tryz.f6.params[j]?=some t->a[j]?=some v->Value.okWide Tryz.prog W .any s t v)
  (i:DataW.Whole c Tryz.prog Tryz.f6.params.toList Rows.conflictLawsSpec.vars false W a.toList g u w) (y:laidMet Tryz.prog Rows.conflictLawsRow.laid W) :
  Calls Tryz.prog 6 a W fun e k=>∃ v,e=.returned v/\Rows.conflictLawsSpec.post c Tryz.prog Tryz.f6 false true false false W a v k:=by
 have d:=i;obtain ⟨p,q,z,A,rfl,O,P⟩:=i;have m:DataW.TrodAll c Tryz.prog W 0 (fun _=>true) true Tryz.f6.params.toList a.toList g p:=z;rw [Tryz.params6] at m h;obtain ⟨f,Q,R,T,o,U,V,rfl,rfl,h0,B⟩:=trodAll_cons m;obtain ⟨rfl,rfl,rfl⟩:=trodAll_nil B;obtain rfl:a=#[f]:=by cases a;simp_all
 obtain ⟨rfl,rfl⟩:=trodVars_none A;obtain ⟨C,D,E,F,I⟩:∃ S G l,Ck (rk W) f S G l/\PlanR S G l:=by
  obtain ⟨cs,rfl,_⟩:=okWide_struct Tryz.underlying31 (h 0 31 f rfl rfl);obtain ⟨n,J⟩:=(id h0);exact MH J
 simp only [QI] at d;have K:∀ x∈o,x.block<W.heap.size:=fun x b=>d.lt x (by simp [b]);have L:=yH (Nd (rk W) (Mc y) _ C D E F I);refine Calls.mono L fun e k ⟨M,r⟩=>?_;subst M;refine ⟨_,Z,ud (pa:=o++([])) (pv:=[]) d (fun _ _ _=>trodAll_cons_mk (shut_bool Tryz.underlying4 _) trodAll_mk0) (fun X N=>?_) (fun _ _=>rfl) am r (ok_one kr_ Z (okWide_bool_mk Tryz.underlying4 _))⟩;exact trodAll_cons_mk (WideElems.Trod_stays JR kr_ (aV kr_) h0 (fun x b=>r.same (K x b)) (fun x b=>N x (by simp [b]))) (trodAll_mk0)
theorem PQ (a:Os){H:Type}(b:TypeId × Value->H):∃ c,DataW.whole b Tryz.prog ((pQ a).forCall (fun _ _=>0) ⟨#[],#[.agg ⟨[.int .u8 0,.int .i8 0,.int .i8 0,.bool false,.int .i8 0,.int .i8 0,.int .i8 0,.int .i8 0,.int .i8 0,.int .i8 0,.bool false,.slice none 0 0]⟩],[]⟩).memory Tryz.f6.params.toList Rows.conflictLawsSpec.vars false (#[.agg ⟨[.int .u8 0,.int .i8 0,.int .i8 0,.bool false,.int .i8 0,.int .i8 0,.int .i8 0,.int .i8 0,.int .i8 0,.int .i8 0,.bool false,.slice none 0 0]⟩]:Array Value).toList 8=some ([.agg [.agg [.lit (.int .u8 0),.agg [.lit (.int .i8 0),.lit (.int .i8 0)],.lit (.bool false)],.agg [.agg [.lit (.int .i8 0),.lit (.int .i8 0),.lit (.int .i8 0),.lit (.int .i8 0),.lit (.int .i8 0),.lit (.int .i8 0)],.lit (.bool false)],.nil]],[],c) :=
 ⟨[],by kernel_rfl⟩
theorem O1 (b:Os)(c:b.Started)(H:Type)(a:TypeId × Value->H)(F:Stop.Interp) :
  ReturnsInHanded {} Tryz.checked b 6 .any ((OpenSpec.ofChange Rows.conflictLawsSpec).preRow a Tryz.prog Tryz.f6 Rows.conflictLawsRow.domain false Rows.conflictLawsRow.laid) (((OpenSpec.ofChange Rows.conflictLawsSpec).at F).post a Tryz.prog Tryz.f6 false true false false):=by
 obtain ⟨m,d⟩:=PQ b a;refine returnsInHanded_of_row (C:=Tryz.checked) (s:=OpenSpec.ofChange Rows.conflictLawsSpec) own c kr_ Tryz.func6
  (witness_row_at (enc:=a) (C:=Tryz.checked) false (pQ b) #[.agg ⟨[.int .u8 0,.int .i8 0,.int .i8 0,.bool false,.int .i8 0,.int .i8 0,.int .i8 0,.int .i8 0,.int .i8 0,.int .i8 0,.bool false,.slice none 0 0]⟩] rfl kr_ kr_ kr_
   (OpenSpec.preRow_of_cond 8 d kr_ (fun k e=>by cases e) kr_ (JQ b _))) ?_
 intro W f args ds g h i j _ _ _ l _ _;exact Ks H a W f args ds g h i j l
theorem Qd {a b:Bool}(h:a=true)(k:b=true):(a && b)=true:=by rw [h,k];rfl
theorem said:Rows.ConflictLawsSaid :=
 OpenClaim.holds_of_cond 6 Tryz.f6 rfl rfl rfl rfl rfl rfl rfl ⟨rfl,rfl,rfl,rfl,rfl⟩ rfl rfl rfl rfl rfl (by as_aux_lemma=>kernel_rfl) Tryz.func6 (by unfold joinedFacts;(repeat' (with_reducible refine Qd ?_ ?_));all_goals (as_aux_lemma=>kernel_rfl))
  (aV (by as_aux_lemma=>kernel_rfl)) (by unfold Func.isWrapper;first | (rw [aH aq];kernel_rfl) | (rw [aA aq];exact ⟨rfl,rfl⟩))
  (fun os a H enc _ F=>by rw [OpenClaim.pre_eq_preRow];exact O1 os a H enc F)
theorem plain (f : FuncId) (a : Func) (c : Tryz.pinned.checked.prog.funcNamed "klippe/klippelaw27.ConflictLaws" = some f) (d : Tryz.pinned.checked.prog.funcs[f]? = some a) :
  true=Tryz.pinned.checked.prog.looks []/\∀ (j:Nat) t,a.params[j]?=some t->Tryz.pinned.checked.prog.wantsStandIn t=false:=by
 obtain rfl : f = 6 := RR ((show Tryz.prog.funcNamed "klippe/klippelaw27.ConflictLaws" = some 6 by kernel_rfl).symm.trans c) |>.symm;obtain rfl:a=Tryz.f6:=(RR (Tryz.func6.symm.trans d)).symm;refine ⟨by kernel_rfl,fun j t b=>?_⟩;rw [Tryz.params6] at b;have hm:=Array.mem_of_getElem? b;simp only [List.mem_toArray,Qw,Rk,SI] at hm;subst hm
 ·exact (show Tryz.prog.wantsStandIn 31=false by kernel_rfl)
end lawConflictLaws
theorem conflictLaws_card:Rows.ConflictLawsCardSaid :=
 Claim7.holds_tied_plain_at .later [] _ _ _ _ lawConflictLaws.said (fun _ h=>by cases h) kr_ (fun _ h=>by cases h) conflictLaws_row_tie rfl ⟨rfl,rfl⟩ kr_ rfl lawConflictLaws.plain kr_
#print axioms conflictLaws_card
end Go.Proofs.YthnpijdjlddpmaaGreatDoor
