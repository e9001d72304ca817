/- FOR ANY PLAN HorizonPrograms ANSWERS true, and leaves it as it was. -/
import Derived.Test.YtfjcldheldflbaaGreatDoorG15
import Derived.Test.YtfjcldheldflbaaGreatDoorShelf
namespace Go.Proofs.YtfjcldheldflbaaGreatDoor
open Go Go.Jog Go.ChangeShapes Go.WideShapes Go.ChangeAt Go.RowKit
set_option maxRecDepth 100000
set_option maxHeartbeats 40000000
namespace lawHorizonPrograms
theorem I1 (a:Os)(b:Array Value):laidMetH Tryz.prog Rows.horizonProgramsRow.laid ((pG a).forCall (fun _ _=>0) ⟨#[],b,[]⟩).memory :=
 laidMet_of_run' 8 kr_ kr_
theorem Jy (H:Type)(c:TypeId × Value->H)(W:World)(s:Nat)(a:Array Value)(g u:List (DataW H))(w:List MemPlace)
  (h:∀ (j:Nat) t v,Tryz.f4.params[j]?=some t->a[j]?=some v->Value.okWide Tryz.prog W .any s t v)
  (i:DataW.Whole c Tryz.prog Tryz.f4.params.toList Rows.horizonProgramsSpec.vars false W a.toList g u w) (y:laidMet Tryz.prog Rows.horizonProgramsRow.laid W) :
  Calls Tryz.prog 4 a W fun e k=>∃ v,e=.returned v/\Rows.horizonProgramsSpec.post c Tryz.prog Tryz.f4 false true false false W a v k:=by
 have d:=i;obtain ⟨p,q,z,A,rfl,O,P⟩:=i;have m:DataW.TrodAll c Tryz.prog W 0 (fun _=>true) true Tryz.f4.params.toList a.toList g p:=z;rw [Tryz.params4] at m h;obtain ⟨f,Q,R,T,o,U,V,rfl,rfl,h0,B⟩:=trodAll_cons m;obtain ⟨rfl,rfl,rfl⟩:=trodAll_nil B;obtain rfl:a=#[f]:=by cases a;simp_all
 obtain ⟨rfl,rfl⟩:=trodVars_none A;obtain ⟨C,D,E,F,I⟩:∃ S G l,Hj (qN W) f S G l/\PlanR S G l:=by
  obtain ⟨cs,rfl,_⟩:=okWide_struct Tryz.underlying31 (h 0 31 f rfl rfl);obtain ⟨n,J⟩:=(id h0);exact LK J
 simp only [PF] at d;have K:∀ x∈o,x.block<W.heap.size:=fun x b=>d.lt x (by simp [b]);have L:=yz (yi (qN W) (K4 y) _ C D E F I);refine Calls.mono L fun e k ⟨M,r⟩=>?_;subst M;refine ⟨_,Z,tE (pa:=o++([])) (pv:=[]) d (fun _ _ _=>trodAll_cons_mk (shut_bool Tryz.underlying4 _) trodAll_mk0) (fun X N=>?_) (fun _ _=>rfl) am r (ok_one kr_ Z (okWide_bool_mk Tryz.underlying4 _))⟩;exact trodAll_cons_mk (WideElems.Trod_stays I2 kr_ (OD kr_) h0 (fun x b=>r.same (K x b)) (fun x b=>N x (by simp [b]))) (trodAll_mk0)
theorem OV (a:Os){H:Type}(b:TypeId × Value->H):∃ c,DataW.whole b Tryz.prog ((pG a).forCall (fun _ _=>0) ⟨#[],#[.agg ⟨[.int .u8 0,.int .i8 0,.int .i8 0,.bool false,.int .i8 0,.int .i8 0,.int .i8 0,.int .i8 0,.int .i8 0,.int .i8 0,.bool false,.slice none 0 0]⟩],[]⟩).memory Tryz.f4.params.toList Rows.horizonProgramsSpec.vars false (#[.agg ⟨[.int .u8 0,.int .i8 0,.int .i8 0,.bool false,.int .i8 0,.int .i8 0,.int .i8 0,.int .i8 0,.int .i8 0,.int .i8 0,.bool false,.slice none 0 0]⟩]:Array Value).toList 8=some ([.agg [.agg [.lit (.int .u8 0),.agg [.lit (.int .i8 0),.lit (.int .i8 0)],.lit (.bool false)],.agg [.agg [.lit (.int .i8 0),.lit (.int .i8 0),.lit (.int .i8 0),.lit (.int .i8 0),.lit (.int .i8 0),.lit (.int .i8 0)],.lit (.bool false)],.nil]],[],c) :=
 ⟨[],by kernel_rfl⟩
theorem N2 (b:Os)(c:b.Started)(H:Type)(a:TypeId × Value->H)(F:Stop.Interp) :
  ReturnsInHanded {} Tryz.checked b 4 .any ((OpenSpec.ofChange Rows.horizonProgramsSpec).preRow a Tryz.prog Tryz.f4 Rows.horizonProgramsRow.domain false Rows.horizonProgramsRow.laid) (((OpenSpec.ofChange Rows.horizonProgramsSpec).at F).post a Tryz.prog Tryz.f4 false true false false):=by
 obtain ⟨m,d⟩:=OV b a;refine returnsInHanded_of_row (C:=Tryz.checked) (s:=OpenSpec.ofChange Rows.horizonProgramsSpec) own c kr_ Tryz.func4
  (witness_row_at (enc:=a) (C:=Tryz.checked) false (pG b) #[.agg ⟨[.int .u8 0,.int .i8 0,.int .i8 0,.bool false,.int .i8 0,.int .i8 0,.int .i8 0,.int .i8 0,.int .i8 0,.int .i8 0,.bool false,.slice none 0 0]⟩] rfl kr_ kr_ kr_
   (OpenSpec.preRow_of_cond 8 d kr_ (fun k e=>by cases e) kr_ (I1 b _))) ?_
 intro W f args ds g h i j _ _ _ l _ _;exact Jy H a W f args ds g h i j l
theorem Pa {a b:Bool}(h:a=true)(k:b=true):(a && b)=true:=by rw [h,k];rfl
theorem said:Rows.HorizonProgramsSaid :=
 OpenClaim.holds_of_cond 4 Tryz.f4 rfl rfl rfl rfl rfl rfl rfl ⟨rfl,rfl,rfl,rfl,rfl⟩ rfl rfl rfl rfl rfl (by as_aux_lemma=>kernel_rfl) Tryz.func4 (by unfold joinedFacts;(repeat' (with_reducible refine Pa ?_ ?_));all_goals (as_aux_lemma=>kernel_rfl))
  (OD (by as_aux_lemma=>kernel_rfl)) (by unfold Func.isWrapper;first | (rw [aL aq];kernel_rfl) | (rw [aF aq];exact ⟨rfl,rfl⟩))
  (fun os a H enc _ F=>by rw [OpenClaim.pre_eq_preRow];exact N2 os a H enc F)
theorem plain (f : FuncId) (a : Func) (c : Tryz.pinned.checked.prog.funcNamed "klippe/klippelaw26.HorizonPrograms" = some f) (d : Tryz.pinned.checked.prog.funcs[f]? = some a) :
  true=Tryz.pinned.checked.prog.looks []/\∀ (j:Nat) t,a.params[j]?=some t->Tryz.pinned.checked.prog.wantsStandIn t=false:=by
 obtain rfl : f = 4 := QS ((show Tryz.prog.funcNamed "klippe/klippelaw26.HorizonPrograms" = some 4 by kernel_rfl).symm.trans c) |>.symm;obtain rfl:a=Tryz.f4:=(QS (Tryz.func4.symm.trans d)).symm;refine ⟨by kernel_rfl,fun j t b=>?_⟩;rw [Tryz.params4] at b;have hm:=Array.mem_of_getElem? b;simp only [List.mem_toArray,Ps,Qh,Rz] at hm;subst hm
 ·exact (show Tryz.prog.wantsStandIn 31=false by kernel_rfl)
end lawHorizonPrograms
theorem horizonPrograms_card:Rows.HorizonProgramsCardSaid :=
 Claim7.holds_tied_plain_at .later [] _ _ _ _ lawHorizonPrograms.said (fun _ h=>by cases h) kr_ (fun _ h=>by cases h) horizonPrograms_row_tie rfl ⟨rfl,rfl⟩ kr_ rfl lawHorizonPrograms.plain kr_
#print axioms horizonPrograms_card
end Go.Proofs.YtfjcldheldflbaaGreatDoor
