/- FOR ANY PLAN OF A CORRELATION AND ANY CHANGE OF ITS ALIGNMENT OR POTENTIALS CheckerAlignments ANSWERS true, and leaves them as they were. -/
import Derived.Test.YtjhmlnebikbdbaaGreatDoorG10
import Derived.Test.YtjhmlnebikbdbaaGreatDoorShelf
namespace Go.Proofs.YtjhmlnebikbdbaaGreatDoor
open Go Go.Jog Go.ChangeShapes Go.WideShapes Go.ChangeAt Go.RowKit
set_option maxRecDepth 100000
set_option maxHeartbeats 40000000

namespace lawCheckerAlignments
theorem laid_met (os:Os)(args:Array Value):laidMetH Tryz.prog Rows.checkerAlignmentsRow.laid ((laidWorld os).forCall (fun _ _=>0) ⟨#[],args,[]⟩).memory :=
 laidMet_of_run' 8 kr_ kr_
theorem contract (H:Type)(enc:TypeId × Value->H)(W:World)(base:Nat)(args:Array Value)(ds gs:List (DataW H))(before:List MemPlace)
  (hval:∀ (j:Nat) t v,Tryz.f3.params[j]?=some t->args[j]?=some v->Value.okWide Tryz.prog W .any base t v)
  (hW:DataW.Whole enc Tryz.prog Tryz.f3.params.toList Rows.checkerAlignmentsSpec.vars false W args.toList ds gs before) (hL:laidMet Tryz.prog Rows.checkerAlignmentsRow.laid W) :
  Calls Tryz.prog 3 args W fun e W'=>∃ v,e=.returned v/\Rows.checkerAlignmentsSpec.post enc Tryz.prog Tryz.f3 false true false false W args v W':=by
 have hW':=hW
 obtain ⟨p,q,hA0,hV,rfl,hfz,hnd⟩:=hW
 have hA:DataW.TrodAll enc Tryz.prog W 0 (fun _=>true) true Tryz.f3.params.toList args.toList ds p:=hA0
 rw [Tryz.params3] at hA hval
 obtain ⟨v0,vs0,d0,ds0,p0,q0,hargs0,rfl,rfl,h0,r0⟩:=trodAll_cons hA
 obtain ⟨v1,vs1,d1,ds1,p1,q1,hargs1,rfl,rfl,h1,r1⟩:=trodAll_cons r0
 obtain ⟨rfl,rfl,rfl⟩:=trodAll_nil r1
 obtain rfl:args=#[v0,v1]:=by cases args;simp_all
 obtain ⟨rfl,rfl⟩:=trodVars_none hV
 obtain ⟨vl0,vr0,l0,r0,ks0,rfl,hl0,hr0,hlb0,hrb0,hk0⟩:∃ (vl vr:Value)(l r:List Dp.Bit)(ks:KS),v0=.agg ⟨[vl,vr,.int .u8 ks.a,.int .u8 ks.b,.int .u8 ks.c,.int .u8 ks.d]⟩/\Sl (memOf W) 3 vl (l.map df)/\Sl (memOf W) 3 vr (r.map df)/\(∀ b∈l,BitR b)/\(∀ b∈r,BitR b)/\ks.R:=by
  obtain ⟨cs,rfl,_⟩:=okWide_struct Tryz.underlying25 (hval 0 25 v0 rfl rfl)
  obtain ⟨n,hn⟩:=(id h0)
  obtain ⟨vl,vr,l,r,ks,e,g⟩:=plan44_of hn
  exact ⟨vl,vr,l,r,ks,congrArg (fun x=>Value.agg ⟨x⟩) e,g⟩
 obtain ⟨how1,at1,nx1,sb1,rfl,hh1,ha1,hn1⟩:∃ (how at_ next:Nat)(s:Str),v1=.agg ⟨[.int .u8 how,.int .u8 at_,.int .u8 next,strV s]⟩/\how<256/\at_<256/\next<256:=by
  obtain ⟨cs,rfl,_⟩:=okWide_struct Tryz.underlying28 (hval 1 28 v1 rfl rfl)
  obtain ⟨n,hn⟩:=(id h1)
  obtain ⟨how,at_,next,s,e,g0,g1,g2⟩:=slip_of hn
  exact ⟨how,at_,next,s,congrArg (fun x=>Value.agg ⟨x⟩) e,g0,g1,g2⟩
 simp only [List.append_nil] at hW'
 have hlt0:∀ x∈p0,x.block<W.heap.size:=fun x hx=>hW'.lt x (by simp [hx])
 have hlt1:∀ x∈p1,x.block<W.heap.size:=fun x hx=>hW'.lt x (by simp [hx])
 have main:=gives_below (lalign_fn (memOf W) (tabs_of hL) vl0 vr0 l0 r0 ks0 hk0 hl0 hr0 hlb0 hrb0 how1 at1 nx1 hh1 ha1 hn1 sb1)
 refine Calls.mono main fun e W' ⟨he,hb⟩=>?_
 subst he
 refine ⟨_,rfl,post_of_below (pa:=p0++(p1++([]))) (pv:=[]) hW' (fun _ _ _=>trodAll_cons_mk (shut_bool Tryz.underlying4 _) trodAll_mk0) (fun sp hsp=>?_) (fun _ _=>rfl) (by simp) hb (ok_one kr_ rfl (okWide_bool_mk Tryz.underlying4 _))⟩
 exact trodAll_cons_mk (WideElems.Trod_stays laidOut' kr_ (of_decide_eq_true kr_) h0 (fun x hx=>hb.same (hlt0 x hx)) (fun x hx=>hsp x (by simp [hx]))) (trodAll_cons_mk (WideElems.Trod_stays laidOut' kr_ (of_decide_eq_true kr_) h1 (fun x hx=>hb.same (hlt1 x hx)) (fun x hx=>hsp x (by simp [hx]))) (trodAll_mk0))

theorem reads (os:Os){H:Type}(enc:TypeId × Value->H):∃ places,DataW.whole enc Tryz.prog ((laidWorld os).forCall (fun _ _=>0) ⟨#[],#[.agg ⟨[.slice none 0 0,.slice none 0 0,.int .u8 0,.int .u8 0,.int .u8 0,.int .u8 0]⟩,.agg ⟨[.int .u8 0,.int .u8 0,.int .u8 0,.string ⟨#[]⟩]⟩],[]⟩).memory Tryz.f3.params.toList Rows.checkerAlignmentsSpec.vars false (#[.agg ⟨[.slice none 0 0,.slice none 0 0,.int .u8 0,.int .u8 0,.int .u8 0,.int .u8 0]⟩,.agg ⟨[.int .u8 0,.int .u8 0,.int .u8 0,.string ⟨#[]⟩]⟩]:Array Value).toList 8=some ([.agg [.nil,.nil,.agg [.lit (.int .u8 0),.lit (.int .u8 0),.lit (.int .u8 0),.lit (.int .u8 0)]],.agg [.lit (.int .u8 0),.lit (.int .u8 0),.lit (.int .u8 0),.lit (.string [])]],[],places) :=
 ⟨[],by kernel_rfl⟩

theorem lifted (os:Os)(started:os.Started)(H:Type)(enc:TypeId × Value->H)(F:Stop.Interp) :
  ReturnsInHanded {} Tryz.checked os 3 .any ((OpenSpec.ofChange Rows.checkerAlignmentsSpec).preRow enc Tryz.prog Tryz.f3 Rows.checkerAlignmentsRow.domain false Rows.checkerAlignmentsRow.laid) (((OpenSpec.ofChange Rows.checkerAlignmentsSpec).at F).post enc Tryz.prog Tryz.f3 false true false false):=by
 obtain ⟨places,hx⟩:=reads os enc
 refine returnsInHanded_of_row (C:=Tryz.checked) (s:=OpenSpec.ofChange Rows.checkerAlignmentsSpec) own started kr_ Tryz.func3
  (witness_row_at (enc:=enc) (C:=Tryz.checked) false (laidWorld os) #[.agg ⟨[.slice none 0 0,.slice none 0 0,.int .u8 0,.int .u8 0,.int .u8 0,.int .u8 0]⟩,.agg ⟨[.int .u8 0,.int .u8 0,.int .u8 0,.string ⟨#[]⟩]⟩] rfl kr_ kr_ kr_
   (OpenSpec.preRow_of_cond 8 hx kr_ (fun k hk=>by cases hk) kr_ (laid_met os _))) ?_
 intro W base args ds gs before hval hW _ _ _ hL _ _
 exact contract H enc W base args ds gs before hval hW hL

theorem bothB {a b:Bool}(h:a=true)(k:b=true):(a && b)=true:=by rw [h,k];rfl
theorem said:Rows.CheckerAlignmentsSaid :=
 OpenClaim.holds_of_cond 3 Tryz.f3 rfl rfl rfl rfl rfl rfl rfl ⟨rfl,rfl,rfl,rfl,rfl⟩ rfl rfl rfl rfl rfl (by as_aux_lemma=>kernel_rfl) Tryz.func3 (by unfold joinedFacts;(repeat' (with_reducible refine bothB ?_ ?_));all_goals (as_aux_lemma=>kernel_rfl))
  (of_decide_eq_true (by as_aux_lemma=>kernel_rfl)) (by unfold Func.isWrapper;first | (rw [if_pos (by decide +kernel)];kernel_rfl) | (rw [if_neg (by decide +kernel)];exact ⟨rfl,rfl⟩))
  (fun os started H enc _ F=>by rw [OpenClaim.pre_eq_preRow];exact lifted os started H enc F)

theorem plain (f : FuncId) (fn : Func) (hf : Tryz.pinned.checked.prog.funcNamed "klippe/klippelaw55.CheckerAlignments" = some f) (hfn : Tryz.pinned.checked.prog.funcs[f]? = some fn) :
  true=Tryz.pinned.checked.prog.looks []/\∀ (j:Nat) t,fn.params[j]?=some t->Tryz.pinned.checked.prog.wantsStandIn t=false:=by
 obtain rfl : f = 3 := Option.some.inj ((show Tryz.prog.funcNamed "klippe/klippelaw55.CheckerAlignments" = some 3 by kernel_rfl).symm.trans hf) |>.symm
 obtain rfl:fn=Tryz.f3:=(Option.some.inj (Tryz.func3.symm.trans hfn)).symm
 refine ⟨by kernel_rfl,fun j t ht=>?_⟩
 rw [Tryz.params3] at ht
 have hm:=Array.mem_of_getElem? ht
 simp only [List.mem_toArray,List.mem_cons,List.not_mem_nil,or_false] at hm
 rcases hm with rfl | rfl
 ·exact (show Tryz.prog.wantsStandIn 25=false by kernel_rfl)
 ·exact (show Tryz.prog.wantsStandIn 28=false by kernel_rfl)
end lawCheckerAlignments

theorem checkerAlignments_card:Rows.CheckerAlignmentsCardSaid :=
 Claim7.holds_tied_plain_at .later [] _ _ _ _ lawCheckerAlignments.said (fun _ h=>by cases h) kr_ (fun _ h=>by cases h) checkerAlignments_row_tie rfl ⟨rfl,rfl⟩ kr_ rfl lawCheckerAlignments.plain kr_
#print axioms checkerAlignments_card
end Go.Proofs.YtjhmlnebikbdbaaGreatDoor
