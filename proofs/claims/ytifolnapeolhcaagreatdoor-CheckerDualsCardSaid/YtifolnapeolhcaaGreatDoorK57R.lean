/- FOR ANY PLAN OF A LINEAR PROGRAM AND ANY CHANGE OF ITS RESULT CheckerDuals ANSWERS true, and leaves them as they were. -/
import Derived.Test.YtifolnapeolhcaaGreatDoorG11
import Derived.Test.YtifolnapeolhcaaGreatDoorShelf
namespace Go.Proofs.YtifolnapeolhcaaGreatDoor
open Go Go.Jog Go.ChangeShapes Go.WideShapes Go.ChangeAt Go.RowKit
set_option maxRecDepth 100000
set_option maxHeartbeats 40000000

namespace lawCheckerDuals
theorem laid_met (os:Os)(args:Array Value):laidMetH Tryz.prog Rows.checkerDualsRow.laid ((laidWorld os).forCall (fun _ _=>0) ⟨#[],args,[]⟩).memory :=
 laidMet_of_run' 8 kr_ kr_
theorem contract (H:Type)(enc:TypeId × Value->H)(W:World)(base:Nat)(args:Array Value)(ds gs:List (DataW H))(before:List MemPlace)
  (hval:∀ (j:Nat) t v,Tryz.f3.params[j]?=some t->args[j]?=some v->Value.okWide Tryz.prog W .any base t v)
  (hW:DataW.Whole enc Tryz.prog Tryz.f3.params.toList Rows.checkerDualsSpec.vars false W args.toList ds gs before) (hL:laidMet Tryz.prog Rows.checkerDualsRow.laid W) :
  Calls Tryz.prog 3 args W fun e W'=>∃ v,e=.returned v/\Rows.checkerDualsSpec.post enc Tryz.prog Tryz.f3 false true false false W args v W':=by
 have hW':=hW
 obtain ⟨p,q,hA0,hV,rfl,hfz,hnd⟩:=hW
 have hA:DataW.TrodAll enc Tryz.prog W 0 (fun _=>true) true Tryz.f3.params.toList args.toList ds p:=hA0
 rw [Tryz.params3] at hA hval
 obtain ⟨v0,vs0,d0,ds0,p0,q0,hargs0,rfl,rfl,h0,r0⟩:=trodAll_cons hA
 obtain ⟨v1,vs1,d1,ds1,p1,q1,hargs1,rfl,rfl,h1,r1⟩:=trodAll_cons r0
 obtain ⟨rfl,rfl,rfl⟩:=trodAll_nil r1
 obtain rfl:args=#[v0,v1]:=by cases args;simp_all
 obtain ⟨rfl,rfl⟩:=trodVars_none hV
 obtain ⟨pv0,pr0,rows0,oa0,ob0,oc0,rfl,hr0,hok0,ga0,gb0,gc0,hv0⟩:∃ (v:Nat)(vr:Value)(rows:List PRow)(o0 o1 o2:Int),v0=.agg ⟨[.int .u8 v,vr,.int .i8 o0,.int .i8 o1,.int .i8 o2]⟩/\Sl (memOf W) 4 vr (rows.map PRow.enc)/\(∀ r∈rows,r.ok)/\i8R o0/\i8R o1/\i8R o2/\v<256:=by
  obtain ⟨cs,rfl,_⟩:=okWide_struct Tryz.underlying26 (hval 0 26 v0 rfl rfl)
  obtain ⟨n,hn⟩:=(id h0)
  obtain ⟨v,vr,rows,o0,o1,o2,e,hr,hok,g0,g1,g2,hv⟩:=plan7_of hn
  exact ⟨v,vr,rows,o0,o1,o2,congrArg (fun x=>Value.agg ⟨x⟩) e,hr,hok,g0,g1,g2,hv⟩
 obtain ⟨how1,at1,sb1,rfl,hh1,ha1⟩:∃ (how at_:Nat)(s:Str),v1=.agg ⟨[.int .u8 how,.int .u8 at_,strV s]⟩/\how<256/\at_<256:=by
  obtain ⟨cs,rfl,_⟩:=okWide_struct Tryz.underlying29 (hval 1 29 v1 rfl rfl)
  obtain ⟨n,hn⟩:=(id h1)
  obtain ⟨how,at_,s,e,g0,g1⟩:=spoil7_of hn
  exact ⟨how,at_,s,congrArg (fun x=>Value.agg ⟨x⟩) e,g0,g1⟩
 simp only [List.append_nil] at hW'
 have hlt0:∀ x∈p0,x.block<W.heap.size:=fun x hx=>hW'.lt x (by simp [hx])
 have hlt1:∀ x∈p1,x.block<W.heap.size:=fun x hx=>hW'.lt x (by simp [hx])
 have main:=gives_below (lduals_fn (memOf W) (tabs_of hL) pv0 how1 at1 pr0 rows0 oa0 ob0 oc0 sb1 hr0 hok0 ga0 gb0 gc0 hv0 hh1 ha1)
 refine Calls.mono main fun e W' ⟨he,hb⟩=>?_
 subst he
 refine ⟨_,rfl,post_of_below (pa:=p0++(p1++([]))) (pv:=[]) hW' (fun _ _ _=>trodAll_cons_mk (shut_bool Tryz.underlying4 _) trodAll_mk0) (fun sp hsp=>?_) (fun _ _=>rfl) (by simp) hb (ok_one kr_ rfl (okWide_bool_mk Tryz.underlying4 _))⟩
 exact trodAll_cons_mk (WideElems.Trod_stays laidOut' kr_ (of_decide_eq_true kr_) h0 (fun x hx=>hb.same (hlt0 x hx)) (fun x hx=>hsp x (by simp [hx]))) (trodAll_cons_mk (WideElems.Trod_stays laidOut' kr_ (of_decide_eq_true kr_) h1 (fun x hx=>hb.same (hlt1 x hx)) (fun x hx=>hsp x (by simp [hx]))) (trodAll_mk0))

theorem reads (os:Os){H:Type}(enc:TypeId × Value->H):∃ places,DataW.whole enc Tryz.prog ((laidWorld os).forCall (fun _ _=>0) ⟨#[],#[.agg ⟨[.int .u8 0,.slice none 0 0,.int .i8 0,.int .i8 0,.int .i8 0]⟩,.agg ⟨[.int .u8 0,.int .u8 0,.string ⟨#[]⟩]⟩],[]⟩).memory Tryz.f3.params.toList Rows.checkerDualsSpec.vars false (#[.agg ⟨[.int .u8 0,.slice none 0 0,.int .i8 0,.int .i8 0,.int .i8 0]⟩,.agg ⟨[.int .u8 0,.int .u8 0,.string ⟨#[]⟩]⟩]:Array Value).toList 8=some ([.agg [.lit (.int .u8 0),.nil,.agg [.lit (.int .i8 0),.lit (.int .i8 0),.lit (.int .i8 0)]],.agg [.lit (.int .u8 0),.lit (.int .u8 0),.lit (.string [])]],[],places) :=
 ⟨[],by kernel_rfl⟩

theorem lifted (os:Os)(started:os.Started)(H:Type)(enc:TypeId × Value->H)(F:Stop.Interp) :
  ReturnsInHanded {} Tryz.checked os 3 .any ((OpenSpec.ofChange Rows.checkerDualsSpec).preRow enc Tryz.prog Tryz.f3 Rows.checkerDualsRow.domain false Rows.checkerDualsRow.laid) (((OpenSpec.ofChange Rows.checkerDualsSpec).at F).post enc Tryz.prog Tryz.f3 false true false false):=by
 obtain ⟨places,hx⟩:=reads os enc
 refine returnsInHanded_of_row (C:=Tryz.checked) (s:=OpenSpec.ofChange Rows.checkerDualsSpec) own started kr_ Tryz.func3
  (witness_row_at (enc:=enc) (C:=Tryz.checked) false (laidWorld os) #[.agg ⟨[.int .u8 0,.slice none 0 0,.int .i8 0,.int .i8 0,.int .i8 0]⟩,.agg ⟨[.int .u8 0,.int .u8 0,.string ⟨#[]⟩]⟩] rfl kr_ kr_ kr_
   (OpenSpec.preRow_of_cond 8 hx kr_ (fun k hk=>by cases hk) kr_ (laid_met os _))) ?_
 intro W base args ds gs before hval hW _ _ _ hL _ _
 exact contract H enc W base args ds gs before hval hW hL

theorem bothB {a b:Bool}(h:a=true)(k:b=true):(a && b)=true:=by rw [h,k];rfl
theorem said:Rows.CheckerDualsSaid :=
 OpenClaim.holds_of_cond 3 Tryz.f3 rfl rfl rfl rfl rfl rfl rfl ⟨rfl,rfl,rfl,rfl,rfl⟩ rfl rfl rfl rfl rfl (by as_aux_lemma=>kernel_rfl) Tryz.func3 (by unfold joinedFacts;(repeat' (with_reducible refine bothB ?_ ?_));all_goals (as_aux_lemma=>kernel_rfl))
  (of_decide_eq_true (by as_aux_lemma=>kernel_rfl)) (by unfold Func.isWrapper;first | (rw [if_pos (by decide +kernel)];kernel_rfl) | (rw [if_neg (by decide +kernel)];exact ⟨rfl,rfl⟩))
  (fun os started H enc _ F=>by rw [OpenClaim.pre_eq_preRow];exact lifted os started H enc F)

theorem plain (f : FuncId) (fn : Func) (hf : Tryz.pinned.checked.prog.funcNamed "klippe/klippelaw55.CheckerDuals" = some f) (hfn : Tryz.pinned.checked.prog.funcs[f]? = some fn) :
  true=Tryz.pinned.checked.prog.looks []/\∀ (j:Nat) t,fn.params[j]?=some t->Tryz.pinned.checked.prog.wantsStandIn t=false:=by
 obtain rfl : f = 3 := Option.some.inj ((show Tryz.prog.funcNamed "klippe/klippelaw55.CheckerDuals" = some 3 by kernel_rfl).symm.trans hf) |>.symm
 obtain rfl:fn=Tryz.f3:=(Option.some.inj (Tryz.func3.symm.trans hfn)).symm
 refine ⟨by kernel_rfl,fun j t ht=>?_⟩
 rw [Tryz.params3] at ht
 have hm:=Array.mem_of_getElem? ht
 simp only [List.mem_toArray,List.mem_cons,List.not_mem_nil,or_false] at hm
 rcases hm with rfl | rfl
 ·exact (show Tryz.prog.wantsStandIn 26=false by kernel_rfl)
 ·exact (show Tryz.prog.wantsStandIn 29=false by kernel_rfl)
end lawCheckerDuals

theorem checkerDuals_card:Rows.CheckerDualsCardSaid :=
 Claim7.holds_tied_plain_at .later [] _ _ _ _ lawCheckerDuals.said (fun _ h=>by cases h) kr_ (fun _ h=>by cases h) checkerDuals_row_tie rfl ⟨rfl,rfl⟩ kr_ rfl lawCheckerDuals.plain kr_
#print axioms checkerDuals_card
end Go.Proofs.YtifolnapeolhcaaGreatDoor
