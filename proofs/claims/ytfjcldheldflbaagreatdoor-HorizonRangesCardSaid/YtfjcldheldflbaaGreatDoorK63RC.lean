/- FOR ANY PLAN, SURFACE AND PLACE HorizonRanges ANSWERS true, and leaves them as they were. -/
import Derived.Test.YtfjcldheldflbaaGreatDoorG16
import Derived.Test.YtfjcldheldflbaaGreatDoorShelf
namespace Go.Proofs.YtfjcldheldflbaaGreatDoor
open Go Go.Jog Go.ChangeShapes Go.WideShapes Go.ChangeAt Go.RowKit
set_option maxRecDepth 100000
set_option maxHeartbeats 40000000
namespace lawHorizonRanges
theorem Jf (a:Os)(b:Array Value):laidMetH Tryz.prog Rows.horizonRangesRow.laid ((pK a).forCall (fun _ _=>0) ⟨#[],b,[]⟩).memory :=
 laidMet_of_run' 8 kr_ kr_
theorem JM (H:Type)(i:TypeId × Value->H)(W:World)(D:Nat)(d:Array Value)(s E:List (DataW H))(F:List MemPlace)
  (g:∀ (j:Nat) t v,Tryz.f3.params[j]?=some t->d[j]?=some v->Value.okWide Tryz.prog W .any D t v)
  (u:DataW.Whole i Tryz.prog Tryz.f3.params.toList Rows.horizonRangesSpec.vars false W d.toList s E F) (I:laidMet Tryz.prog Rows.horizonRangesRow.laid W) :
  Calls Tryz.prog 3 d W fun e w=>∃ v,e=.returned v/\Rows.horizonRangesSpec.post i Tryz.prog Tryz.f3 false true false false W d v w:=by
 have f:=u;obtain ⟨p,q,J,K,rfl,ac,ad⟩:=u;have y:DataW.TrodAll i Tryz.prog W 0 (fun _=>true) true Tryz.f3.params.toList d.toList s p:=J;rw [Tryz.params3] at y g;obtain ⟨k,ae,d0,ag,z,q0,ah,rfl,rfl,h0,L⟩:=trodAll_cons y;obtain ⟨A,ai,d1,aj,B,q1,ak,rfl,rfl,h1,M⟩:=trodAll_cons L;obtain ⟨m,al,d2,an,C,q2,ao,rfl,rfl,h2,N⟩:=trodAll_cons M;obtain ⟨rfl,rfl,rfl⟩:=trodAll_nil N;obtain rfl:d=#[k,A,m]:=by cases d;simp_all
 obtain ⟨rfl,rfl⟩:=trodVars_none K;obtain ⟨O,P,Q,R,T⟩:∃ S G l,Hv (qT W) k S G l/\PlanR S G l:=by
  obtain ⟨cs,rfl,_⟩:=okWide_struct Tryz.underlying31 (g 0 31 k rfl rfl);obtain ⟨n,o⟩:=(id h0);exact Mb o
 obtain ⟨a1,rfl⟩:=okWide_int Tryz.underlying3 (g 1 3 A rfl rfl);obtain ⟨U,V,rfl⟩:∃ a b:Str,m=.agg ⟨[af a,af b]⟩:=by
  obtain ⟨⟨cs⟩,rfl,_⟩:=okWide_struct Tryz.underlying34 (g 2 34 m rfl rfl);obtain ⟨n,o⟩:=(id h2);obtain ⟨a,b,hr⟩:=IL o;exact ⟨a,b,congrArg (fun x=>Value.agg ⟨x⟩) hr⟩
 simp only [P3] at f;have X:∀ x∈z,x.block<W.heap.size:=fun x c=>f.lt x (by simp [c]);have Y:∀ x∈B,x.block<W.heap.size:=fun x c=>f.lt x (by simp [c]);have aa:∀ x∈C,x.block<W.heap.size:=fun x c=>f.lt x (by simp [c]);have ab:=yL (E1 (qT W) (Lj I) _ a1 U V O P Q R T);refine Calls.mono ab fun e w ⟨he,h⟩=>?_;subst he;refine ⟨_,Z,tN (pa:=z++(B++(C++([])))) (pv:=[]) f (fun _ _ _=>trodAll_cons_mk (shut_bool Tryz.underlying4 _) trodAll_mk0) (fun sp r=>?_) (fun _ _=>rfl) am h (ok_one kr_ Z (okWide_bool_mk Tryz.underlying4 _))⟩;exact trodAll_cons_mk (WideElems.Trod_stays ue kr_ (aY kr_) h0 (fun x c=>h.same (X x c)) (fun x c=>r x (by simp [c]))) (trodAll_cons_mk (WideElems.Trod_stays ue kr_ (aY kr_) h1 (fun x c=>h.same (Y x c)) (fun x c=>r x (by simp [c]))) (trodAll_cons_mk (WideElems.Trod_stays ue kr_ (aY kr_) h2 (fun x c=>h.same (aa x c)) (fun x c=>r x (by simp [c]))) (trodAll_mk0)))
theorem Pg (a:Os){H:Type}(b:TypeId × Value->H):∃ c,DataW.whole b Tryz.prog ((pK a).forCall (fun _ _=>0) ⟨#[],#[.agg ⟨[.int .u8 0,.int .i8 0,.int .i8 0,.bool false,.int .i8 0,.int .i8 0,.int .i8 0,.int .i8 0,.int .i8 0,.int .i8 0,.bool false,.slice none 0 0]⟩,.int .i64 0,.agg ⟨[.string ⟨#[]⟩,.string ⟨#[]⟩]⟩],[]⟩).memory Tryz.f3.params.toList Rows.horizonRangesSpec.vars false (#[.agg ⟨[.int .u8 0,.int .i8 0,.int .i8 0,.bool false,.int .i8 0,.int .i8 0,.int .i8 0,.int .i8 0,.int .i8 0,.int .i8 0,.bool false,.slice none 0 0]⟩,.int .i64 0,.agg ⟨[.string ⟨#[]⟩,.string ⟨#[]⟩]⟩]:Array Value).toList 8=some ([.agg [.agg [.lit (.int .u8 0),.agg [.lit (.int .i8 0),.lit (.int .i8 0)],.lit (.bool false)],.agg [.agg [.lit (.int .i8 0),.lit (.int .i8 0),.lit (.int .i8 0),.lit (.int .i8 0),.lit (.int .i8 0),.lit (.int .i8 0)],.lit (.bool false)],.nil],.lit (.int .i64 0),.agg [.lit (.string []),.lit (.string [])]],[],c) :=
 ⟨[],by kernel_rfl⟩
theorem Oo (b:Os)(c:b.Started)(H:Type)(a:TypeId × Value->H)(F:Stop.Interp) :
  ReturnsInHanded {} Tryz.checked b 3 .any ((OpenSpec.ofChange Rows.horizonRangesSpec).preRow a Tryz.prog Tryz.f3 Rows.horizonRangesRow.domain false Rows.horizonRangesRow.laid) (((OpenSpec.ofChange Rows.horizonRangesSpec).at F).post a Tryz.prog Tryz.f3 false true false false):=by
 obtain ⟨m,d⟩:=Pg b a;refine returnsInHanded_of_row (C:=Tryz.checked) (s:=OpenSpec.ofChange Rows.horizonRangesSpec) own c kr_ Tryz.func3
  (witness_row_at (enc:=a) (C:=Tryz.checked) false (pK b) #[.agg ⟨[.int .u8 0,.int .i8 0,.int .i8 0,.bool false,.int .i8 0,.int .i8 0,.int .i8 0,.int .i8 0,.int .i8 0,.int .i8 0,.bool false,.slice none 0 0]⟩,.int .i64 0,.agg ⟨[.string ⟨#[]⟩,.string ⟨#[]⟩]⟩] rfl kr_ kr_ kr_
   (OpenSpec.preRow_of_cond 8 d kr_ (fun k e=>by cases e) kr_ (Jf b _))) ?_
 intro W f args ds g h i j _ _ _ l _ _;exact JM H a W f args ds g h i j l
theorem Px {a b:Bool}(h:a=true)(k:b=true):(a && b)=true:=by rw [h,k];rfl
theorem said:Rows.HorizonRangesSaid :=
 OpenClaim.holds_of_cond 3 Tryz.f3 rfl rfl rfl rfl rfl rfl rfl ⟨rfl,rfl,rfl,rfl,rfl⟩ rfl rfl rfl rfl rfl (by as_aux_lemma=>kernel_rfl) Tryz.func3 (by unfold joinedFacts;(repeat' (with_reducible refine Px ?_ ?_));all_goals (as_aux_lemma=>kernel_rfl))
  (aY (by as_aux_lemma=>kernel_rfl)) (by unfold Func.isWrapper;first | (rw [aK aq];kernel_rfl) | (rw [aG aq];exact ⟨rfl,rfl⟩))
  (fun os a H enc _ F=>by rw [OpenClaim.pre_eq_preRow];exact Oo os a H enc F)
theorem plain (f : FuncId) (a : Func) (c : Tryz.pinned.checked.prog.funcNamed "klippe/klippelaw26.HorizonRanges" = some f) (d : Tryz.pinned.checked.prog.funcs[f]? = some a) :
  true=Tryz.pinned.checked.prog.looks []/\∀ (j:Nat) t,a.params[j]?=some t->Tryz.pinned.checked.prog.wantsStandIn t=false:=by
 obtain rfl : f = 3 := Rf ((show Tryz.prog.funcNamed "klippe/klippelaw26.HorizonRanges" = some 3 by kernel_rfl).symm.trans c) |>.symm;obtain rfl:a=Tryz.f3:=(Rf (Tryz.func3.symm.trans d)).symm;refine ⟨by kernel_rfl,fun j t b=>?_⟩;rw [Tryz.params3] at b;have hm:=Array.mem_of_getElem? b;simp only [List.mem_toArray,PQ,QF,R0] at hm;rcases hm with rfl | rfl | rfl
 ·exact (show Tryz.prog.wantsStandIn 31=false by kernel_rfl)
 ·exact (show Tryz.prog.wantsStandIn 3=false by kernel_rfl)
 exact (show Tryz.prog.wantsStandIn 34=false by kernel_rfl)
end lawHorizonRanges
theorem horizonRanges_card:Rows.HorizonRangesCardSaid :=
 Claim7.holds_tied_plain_at .later [] _ _ _ _ lawHorizonRanges.said (fun _ h=>by cases h) kr_ (fun _ h=>by cases h) horizonRanges_row_tie rfl ⟨rfl,rfl⟩ kr_ rfl lawHorizonRanges.plain kr_
#print axioms horizonRanges_card
end Go.Proofs.YtfjcldheldflbaaGreatDoor
