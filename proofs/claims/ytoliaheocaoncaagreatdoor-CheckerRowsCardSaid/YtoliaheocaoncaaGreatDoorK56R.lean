/- FOR ANY NUMBER, ANY ROWS AND ANY MULTIPLIERS CheckerRows ANSWERS true, and leaves them as they were. -/
import Derived.Test.YtoliaheocaoncaaGreatDoorG8
import Derived.Test.YtoliaheocaoncaaGreatDoorShelf
namespace Go.Proofs.YtoliaheocaoncaaGreatDoor
open Go Go.Jog Go.ChangeShapes Go.WideShapes Go.ChangeAt Go.RowKit
set_option maxRecDepth 100000
set_option maxHeartbeats 40000000

namespace lawCheckerRows
theorem laid_met (os:Os)(args:Array Value):laidMetH Tryz.prog Rows.checkerRowsRow.laid ((laidWorld os).forCall (fun _ _=>0) ⟨#[],args,[]⟩).memory :=
 laidMet_of_run' 8 (by kernel_rfl) (by kernel_rfl)
theorem contract (H:Type)(enc:TypeId × Value->H)(W:World)(base:Nat)(args:Array Value)(ds gs:List (DataW H))(before:List MemPlace)
  (hval:∀ (j:Nat) t v,Tryz.f3.params[j]?=some t->args[j]?=some v->Value.okWide Tryz.prog W .any base t v)
  (hW:DataW.Whole enc Tryz.prog Tryz.f3.params.toList Rows.checkerRowsSpec.vars false W args.toList ds gs before) (hL:laidMet Tryz.prog Rows.checkerRowsRow.laid W) :
  Calls Tryz.prog 3 args W fun e W'=>∃ v,e=.returned v/\Rows.checkerRowsSpec.post enc Tryz.prog Tryz.f3 false true false false W args v W':=by
 have hW':=hW
 obtain ⟨p,q,hA0,hV,rfl,hfz,hnd⟩:=hW
 have hA:DataW.TrodAll enc Tryz.prog W 0 (fun _=>true) true Tryz.f3.params.toList args.toList ds p:=hA0
 rw [Tryz.params3] at hA hval
 obtain ⟨v0,vs0,d0,ds0,p0,q0,hargs0,rfl,rfl,h0,r0⟩:=trodAll_cons hA
 obtain ⟨v1,vs1,d1,ds1,p1,q1,hargs1,rfl,rfl,h1,r1⟩:=trodAll_cons r0
 obtain ⟨v2,vs2,d2,ds2,p2,q2,hargs2,rfl,rfl,h2,r2⟩:=trodAll_cons r1
 obtain ⟨rfl,rfl,rfl⟩:=trodAll_nil r2
 obtain rfl:args=#[v0,v1,v2]:=by cases args;simp_all
 obtain ⟨rfl,rfl⟩:=trodVars_none hV
 obtain ⟨a0,rfl⟩:=okWide_int Tryz.underlying3 (hval 0 3 v0 rfl rfl)
 obtain ⟨a1,len1,cap1,rfl⟩:=okWide_slice Tryz.underlying22 (hval 1 22 v1 rfl rfl)
 obtain ⟨l1,hl1⟩:∃ l:List (List Str × Str),RowsIn (memOf W) (.slice a1 len1 cap1) l:=by
  obtain ⟨n,hn⟩:=(id h1)
  exact rows_of hn
 obtain ⟨a2,len2,cap2,rfl⟩:=okWide_slice Tryz.underlying23 (hval 2 23 v2 rfl rfl)
 obtain ⟨l2,hl2⟩:∃ l:List Str,Sl (memOf W) 1 (.slice a2 len2 cap2) (l.map encS):=by
  obtain ⟨n,hn⟩:=(id h2)
  exact ratL_of hn
 simp only [List.append_nil] at hW'
 have hlt0:∀ x∈p0,x.block<W.heap.size:=fun x hx=>hW'.lt x (by simp [hx])
 have hlt1:∀ x∈p1,x.block<W.heap.size:=fun x hx=>hW'.lt x (by simp [hx])
 have hlt2:∀ x∈p2,x.block<W.heap.size:=fun x hx=>hW'.lt x (by simp [hx])
 have main:=gives_below (lrows_fn (memOf W) (tabs_of hL) a0 _ _ l1 l2 hl1 hl2)
 refine Calls.mono main fun e W' ⟨he,hb⟩=>?_
 subst he
 refine ⟨_,rfl,post_of_below (pa:=p0++(p1++(p2++([])))) (pv:=[]) hW' (fun _ _ _=>trodAll_cons_mk (shut_bool Tryz.underlying4 _) trodAll_mk0) (fun sp hsp=>?_) (fun _ _=>rfl) (by simp) hb (ok_one (by kernel_rfl) rfl (okWide_bool_mk Tryz.underlying4 _))⟩
 exact trodAll_cons_mk (WideElems.Trod_stays laidOut' (by kernel_rfl) (of_decide_eq_true (by kernel_rfl)) h0 (fun x hx=>hb.same (hlt0 x hx)) (fun x hx=>hsp x (by simp [hx]))) (trodAll_cons_mk (WideElems.Trod_stays laidOut' (by kernel_rfl) (of_decide_eq_true (by kernel_rfl)) h1 (fun x hx=>hb.same (hlt1 x hx)) (fun x hx=>hsp x (by simp [hx]))) (trodAll_cons_mk (WideElems.Trod_stays laidOut' (by kernel_rfl) (of_decide_eq_true (by kernel_rfl)) h2 (fun x hx=>hb.same (hlt2 x hx)) (fun x hx=>hsp x (by simp [hx]))) (trodAll_mk0)))

theorem reads (os:Os){H:Type}(enc:TypeId × Value->H):∃ places,DataW.whole enc Tryz.prog ((laidWorld os).forCall (fun _ _=>0) ⟨#[],#[.int .i64 0,.slice none 0 0,.slice none 0 0],[]⟩).memory Tryz.f3.params.toList Rows.checkerRowsSpec.vars false (#[.int .i64 0,.slice none 0 0,.slice none 0 0]:Array Value).toList 8=some ([.lit (.int .i64 0),.nil,.nil],[],places) :=
 ⟨[],by kernel_rfl⟩

theorem lifted (os:Os)(started:os.Started)(H:Type)(enc:TypeId × Value->H)(F:Stop.Interp) :
  ReturnsInHanded {} Tryz.checked os 3 .any ((OpenSpec.ofChange Rows.checkerRowsSpec).preRow enc Tryz.prog Tryz.f3 Rows.checkerRowsRow.domain false Rows.checkerRowsRow.laid) (((OpenSpec.ofChange Rows.checkerRowsSpec).at F).post enc Tryz.prog Tryz.f3 false true false false):=by
 obtain ⟨places,hx⟩:=reads os enc
 refine returnsInHanded_of_row (C:=Tryz.checked) (s:=OpenSpec.ofChange Rows.checkerRowsSpec) own started (by kernel_rfl) Tryz.func3
  (witness_row_at (enc:=enc) (C:=Tryz.checked) false (laidWorld os) #[.int .i64 0,.slice none 0 0,.slice none 0 0] rfl (by kernel_rfl) (by kernel_rfl) (by kernel_rfl)
   (OpenSpec.preRow_of_cond 8 hx (by kernel_rfl) (fun k hk=>by cases hk) (by kernel_rfl) (laid_met os _))) ?_
 intro W base args ds gs before hval hW _ _ _ hL _ _
 exact contract H enc W base args ds gs before hval hW hL

theorem bothB {a b:Bool}(h:a=true)(k:b=true):(a && b)=true:=by rw [h,k];rfl
theorem said:Rows.CheckerRowsSaid :=
 OpenClaim.holds_of_cond 3 Tryz.f3 rfl rfl rfl rfl rfl rfl rfl ⟨rfl,rfl,rfl,rfl,rfl⟩ rfl rfl rfl rfl rfl (by as_aux_lemma=>kernel_rfl) Tryz.func3 (by unfold joinedFacts;(repeat' (with_reducible refine bothB ?_ ?_));all_goals (as_aux_lemma=>kernel_rfl))
  (of_decide_eq_true (by as_aux_lemma=>kernel_rfl)) (by unfold Func.isWrapper;first | (rw [if_pos (by decide +kernel)];kernel_rfl) | (rw [if_neg (by decide +kernel)];exact ⟨rfl,rfl⟩))
  (fun os started H enc _ F=>by rw [OpenClaim.pre_eq_preRow];exact lifted os started H enc F)

theorem plain (f : FuncId) (fn : Func) (hf : Tryz.pinned.checked.prog.funcNamed "klippe/klippelaw55.CheckerRows" = some f) (hfn : Tryz.pinned.checked.prog.funcs[f]? = some fn) :
  true=Tryz.pinned.checked.prog.looks []/\∀ (j:Nat) t,fn.params[j]?=some t->Tryz.pinned.checked.prog.wantsStandIn t=false:=by
 obtain rfl : f = 3 := Option.some.inj ((show Tryz.prog.funcNamed "klippe/klippelaw55.CheckerRows" = some 3 by kernel_rfl).symm.trans hf) |>.symm
 obtain rfl:fn=Tryz.f3:=(Option.some.inj (Tryz.func3.symm.trans hfn)).symm
 refine ⟨by kernel_rfl,fun j t ht=>?_⟩
 rw [Tryz.params3] at ht
 have hm:=Array.mem_of_getElem? ht
 simp only [List.mem_toArray,List.mem_cons,List.not_mem_nil,or_false] at hm
 rcases hm with rfl | rfl | rfl
 ·exact (show Tryz.prog.wantsStandIn 3=false by kernel_rfl)
 ·exact (show Tryz.prog.wantsStandIn 22=false by kernel_rfl)
 ·exact (show Tryz.prog.wantsStandIn 23=false by kernel_rfl)
end lawCheckerRows

theorem checkerRows_card:Rows.CheckerRowsCardSaid :=
 Claim7.holds_tied_plain_at .later [] _ _ _ _ lawCheckerRows.said (fun _ h=>by cases h) (by kernel_rfl) (fun _ h=>by cases h) checkerRows_row_tie rfl ⟨rfl,rfl⟩ (by kernel_rfl) rfl lawCheckerRows.plain (by kernel_rfl)
#print axioms checkerRows_card
end Go.Proofs.YtoliaheocaoncaaGreatDoor
