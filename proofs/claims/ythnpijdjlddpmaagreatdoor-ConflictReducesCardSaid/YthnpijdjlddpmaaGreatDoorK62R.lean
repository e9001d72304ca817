/- FOR ANY PLAN AND ANY SET ConflictReduces ANSWERS true, and leaves them as they were. -/
import Derived.Test.YthnpijdjlddpmaaGreatDoorG15
import Derived.Test.YthnpijdjlddpmaaGreatDoorShelf
namespace Go.Proofs.YthnpijdjlddpmaaGreatDoor
open Go Go.Jog Go.ChangeShapes Go.WideShapes Go.ChangeAt Go.RowKit
set_option maxRecDepth 100000
set_option maxHeartbeats 40000000
namespace lawConflictReduces
theorem Kd (a:Os)(b:Array Value):laidMetH Tryz.prog Rows.conflictReducesRow.laid ((pX a).forCall (fun _ _=>0) ⟨#[],b,[]⟩).memory :=
 laidMet_of_run' 8 kr_ kr_
theorem KO (H:Type)(f:TypeId × Value->H)(W:World)(A:Nat)(c:Array Value)(o B:List (DataW H))(C:List MemPlace)
  (g:∀ (j:Nat) t v,Tryz.f7.params[j]?=some t->c[j]?=some v->Value.okWide Tryz.prog W .any A t v)
  (r:DataW.Whole f Tryz.prog Tryz.f7.params.toList Rows.conflictReducesSpec.vars false W c.toList o B C) (D:laidMet Tryz.prog Rows.conflictReducesRow.laid W) :
  Calls Tryz.prog 7 c W fun e s=>∃ v,e=.returned v/\Rows.conflictReducesSpec.post f Tryz.prog Tryz.f7 false true false false W c v s:=by
 have d:=r;obtain ⟨p,q,E,F,rfl,U,V⟩:=r;have u:DataW.TrodAll f Tryz.prog W 0 (fun _=>true) true Tryz.f7.params.toList c.toList o p:=E;rw [Tryz.params7] at u g;obtain ⟨h,X,Y,aa,w,q0,ab,rfl,rfl,h0,I⟩:=trodAll_cons u;obtain ⟨i,ac,d1,ad,y,q1,ae,rfl,rfl,h1,J⟩:=trodAll_cons I;obtain ⟨rfl,rfl,rfl⟩:=trodAll_nil J;obtain rfl:c=#[h,i]:=by cases c;simp_all
 obtain ⟨rfl,rfl⟩:=trodVars_none F;obtain ⟨K,L,M,N,O⟩:∃ S G l,CE (rt W) h S G l/\PlanR S G l:=by
  obtain ⟨cs,rfl,_⟩:=okWide_struct Tryz.underlying31 (g 0 31 h rfl rfl);obtain ⟨n,k⟩:=(id h0);exact Na k
 obtain ⟨l1,rfl⟩:∃ b:UInt8,i=.int .u8 b.toNat:=by
  obtain ⟨k1,rfl⟩:=okWide_int Tryz.underlying5 (g 1 5 i rfl rfl);obtain ⟨n,k⟩:=(id h1);exact OG k
 simp only [Rf] at d;have P:∀ x∈w,x.block<W.heap.size:=fun x a=>d.lt x (by simp [a]);have Q:∀ x∈y,x.block<W.heap.size:=fun x a=>d.lt x (by simp [a]);have R:=yL (Dl (rt W) (MD D) _ K L M l1.toNat l1.toNat_lt N O);refine Calls.mono R fun e s ⟨T,m⟩=>?_;subst T;refine ⟨_,Z,uf (pa:=w++(y++([]))) (pv:=[]) d (fun _ _ _=>trodAll_cons_mk (shut_bool Tryz.underlying4 _) trodAll_mk0) (fun sp z=>?_) (fun _ _=>rfl) am m (ok_one kr_ Z (okWide_bool_mk Tryz.underlying4 _))⟩;exact trodAll_cons_mk (WideElems.Trod_stays BK kr_ (aJ kr_) h0 (fun x a=>m.same (P x a)) (fun x a=>z x (by simp [a]))) (trodAll_cons_mk (WideElems.Trod_stays BK kr_ (aJ kr_) h1 (fun x a=>m.same (Q x a)) (fun x a=>z x (by simp [a]))) (trodAll_mk0))
theorem Qj (a:Os){H:Type}(b:TypeId × Value->H):∃ c,DataW.whole b Tryz.prog ((pX a).forCall (fun _ _=>0) ⟨#[],#[.agg ⟨[.int .u8 0,.int .i8 0,.int .i8 0,.bool false,.int .i8 0,.int .i8 0,.int .i8 0,.int .i8 0,.int .i8 0,.int .i8 0,.bool false,.slice none 0 0]⟩,.int .u8 0],[]⟩).memory Tryz.f7.params.toList Rows.conflictReducesSpec.vars false (#[.agg ⟨[.int .u8 0,.int .i8 0,.int .i8 0,.bool false,.int .i8 0,.int .i8 0,.int .i8 0,.int .i8 0,.int .i8 0,.int .i8 0,.bool false,.slice none 0 0]⟩,.int .u8 0]:Array Value).toList 8=some ([.agg [.agg [.lit (.int .u8 0),.agg [.lit (.int .i8 0),.lit (.int .i8 0)],.lit (.bool false)],.agg [.agg [.lit (.int .i8 0),.lit (.int .i8 0),.lit (.int .i8 0),.lit (.int .i8 0),.lit (.int .i8 0),.lit (.int .i8 0)],.lit (.bool false)],.nil],.lit (.int .u8 0)],[],c) :=
 ⟨[],by kernel_rfl⟩
theorem Pv (b:Os)(c:b.Started)(H:Type)(a:TypeId × Value->H)(F:Stop.Interp) :
  ReturnsInHanded {} Tryz.checked b 7 .any ((OpenSpec.ofChange Rows.conflictReducesSpec).preRow a Tryz.prog Tryz.f7 Rows.conflictReducesRow.domain false Rows.conflictReducesRow.laid) (((OpenSpec.ofChange Rows.conflictReducesSpec).at F).post a Tryz.prog Tryz.f7 false true false false):=by
 obtain ⟨m,d⟩:=Qj b a;refine returnsInHanded_of_row (C:=Tryz.checked) (s:=OpenSpec.ofChange Rows.conflictReducesSpec) own c kr_ Tryz.func7
  (witness_row_at (enc:=a) (C:=Tryz.checked) false (pX b) #[.agg ⟨[.int .u8 0,.int .i8 0,.int .i8 0,.bool false,.int .i8 0,.int .i8 0,.int .i8 0,.int .i8 0,.int .i8 0,.int .i8 0,.bool false,.slice none 0 0]⟩,.int .u8 0] rfl kr_ kr_ kr_
   (OpenSpec.preRow_of_cond 8 d kr_ (fun k e=>by cases e) kr_ (Kd b _))) ?_
 intro W f args ds g h i j _ _ _ l _ _;exact KO H a W f args ds g h i j l
theorem QH {a b:Bool}(h:a=true)(k:b=true):(a && b)=true:=by rw [h,k];rfl
theorem said:Rows.ConflictReducesSaid :=
 OpenClaim.holds_of_cond 7 Tryz.f7 rfl rfl rfl rfl rfl rfl rfl ⟨rfl,rfl,rfl,rfl,rfl⟩ rfl rfl rfl rfl rfl (by as_aux_lemma=>kernel_rfl) Tryz.func7 (by unfold joinedFacts;(repeat' (with_reducible refine QH ?_ ?_));all_goals (as_aux_lemma=>kernel_rfl))
  (aJ (by as_aux_lemma=>kernel_rfl)) (by unfold Func.isWrapper;first | (rw [aW aq];kernel_rfl) | (rw [az aq];exact ⟨rfl,rfl⟩))
  (fun os a H enc _ F=>by rw [OpenClaim.pre_eq_preRow];exact Pv os a H enc F)
theorem plain (f : FuncId) (a : Func) (c : Tryz.pinned.checked.prog.funcNamed "klippe/klippelaw27.ConflictReduces" = some f) (d : Tryz.pinned.checked.prog.funcs[f]? = some a) :
  true=Tryz.pinned.checked.prog.looks []/\∀ (j:Nat) t,a.params[j]?=some t->Tryz.pinned.checked.prog.wantsStandIn t=false:=by
 obtain rfl : f = 7 := Ss ((show Tryz.prog.funcNamed "klippe/klippelaw27.ConflictReduces" = some 7 by kernel_rfl).symm.trans c) |>.symm;obtain rfl:a=Tryz.f7:=(Ss (Tryz.func7.symm.trans d)).symm;refine ⟨by kernel_rfl,fun j t b=>?_⟩;rw [Tryz.params7] at b;have hm:=Array.mem_of_getElem? b;simp only [List.mem_toArray,Q3,RU,Tk] at hm;rcases hm with rfl | rfl
 ·exact (show Tryz.prog.wantsStandIn 31=false by kernel_rfl)
 exact (show Tryz.prog.wantsStandIn 5=false by kernel_rfl)
end lawConflictReduces
theorem conflictReduces_card:Rows.ConflictReducesCardSaid :=
 Claim7.holds_tied_plain_at .later [] _ _ _ _ lawConflictReduces.said (fun _ h=>by cases h) kr_ (fun _ h=>by cases h) conflictReduces_row_tie rfl ⟨rfl,rfl⟩ kr_ rfl lawConflictReduces.plain kr_
#print axioms conflictReduces_card
end Go.Proofs.YthnpijdjlddpmaaGreatDoor
