/- FOR ANY PLAN AND ANY SLIP HorizonErrors ANSWERS true, and leaves them as they were. -/
import Derived.Test.YtfjcldheldflbaaGreatDoorG17
import Derived.Test.YtfjcldheldflbaaGreatDoorShelf
namespace Go.Proofs.YtfjcldheldflbaaGreatDoor
open Go Go.Jog Go.ChangeShapes Go.WideShapes Go.ChangeAt Go.RowKit
set_option maxRecDepth 100000
set_option maxHeartbeats 40000000
namespace lawHorizonErrors
theorem IZ (a:Os)(b:Array Value):laidMetH Tryz.prog Rows.horizonErrorsRow.laid ((pF a).forCall (fun _ _=>0) ⟨#[],b,[]⟩).memory :=
 laidMet_of_run' 8 kr_ kr_
theorem Jv (H:Type)(i:TypeId × Value->H)(W:World)(z:Nat)(c:Array Value)(s A:List (DataW H))(B:List MemPlace)
  (g:∀ (j:Nat) t v,Tryz.f10.params[j]?=some t->c[j]?=some v->Value.okWide Tryz.prog W .any z t v)
  (u:DataW.Whole i Tryz.prog Tryz.f10.params.toList Rows.horizonErrorsSpec.vars false W c.toList s A B) (C:laidMet Tryz.prog Rows.horizonErrorsRow.laid W) :
  Calls Tryz.prog 10 c W fun e w=>∃ v,e=.returned v/\Rows.horizonErrorsSpec.post i Tryz.prog Tryz.f10 false true false false W c v w:=by
 have d:=u;obtain ⟨p,q,D,E,rfl,V,X⟩:=u;have y:DataW.TrodAll i Tryz.prog W 0 (fun _=>true) true Tryz.f10.params.toList c.toList s p:=D;rw [Tryz.params10] at y g;obtain ⟨k,Y,d0,aa,p0,q0,ab,rfl,rfl,h0,F⟩:=trodAll_cons y;obtain ⟨m,ac,d1,ad,p1,q1,ae,rfl,rfl,h1,I⟩:=trodAll_cons F;obtain ⟨o,af,d2,ag,p2,q2,ah,rfl,rfl,h2,J⟩:=trodAll_cons I;obtain ⟨rfl,rfl,rfl⟩:=trodAll_nil J;obtain rfl:c=#[k,m,o]:=by cases c;simp_all
 obtain ⟨rfl,rfl⟩:=trodVars_none E;obtain ⟨K,L,M,N,O⟩:∃ S G l,Hd (qS W) k S G l/\PlanR S G l:=by
  obtain ⟨cs,rfl,_⟩:=okWide_struct Tryz.underlying31 (g 0 31 k rfl rfl);obtain ⟨n,f⟩:=(id h0);exact LV f
 obtain ⟨l1,rfl⟩:∃ b:UInt8,m=.int .u8 b.toNat:=by
  obtain ⟨k1,rfl⟩:=okWide_int Tryz.underlying5 (g 1 5 m rfl rfl);obtain ⟨n,f⟩:=(id h1);exact K4 f
 obtain ⟨l2,rfl⟩:∃ b:UInt8,o=.int .u8 b.toNat:=by
  obtain ⟨k2,rfl⟩:=okWide_int Tryz.underlying5 (g 2 5 o rfl rfl);obtain ⟨n,f⟩:=(id h2);exact K4 f
 simp only [PY] at d;have P:∀ x∈p0,x.block<W.heap.size:=fun x a=>d.lt x (by simp [a]);have Q:∀ x∈p1,x.block<W.heap.size:=fun x a=>d.lt x (by simp [a]);have R:∀ x∈p2,x.block<W.heap.size:=fun x a=>d.lt x (by simp [a]);have T:=yx (CK (qS W) (K9 C) _ K L M l1.toNat l2.toNat l1.toNat_lt l2.toNat_lt N O);refine Calls.mono T fun e w ⟨U,h⟩=>?_;subst U;refine ⟨_,Z,tI (pa:=p0++(p1++(p2++([])))) (pv:=[]) d (fun _ _ _=>trodAll_cons_mk (shut_bool Tryz.underlying4 _) trodAll_mk0) (fun sp r=>?_) (fun _ _=>rfl) ap h (ok_one kr_ Z (okWide_bool_mk Tryz.underlying4 _))⟩;exact trodAll_cons_mk (WideElems.Trod_stays tX kr_ (OQ kr_) h0 (fun x a=>h.same (P x a)) (fun x a=>r x (by simp [a]))) (trodAll_cons_mk (WideElems.Trod_stays tX kr_ (OQ kr_) h1 (fun x a=>h.same (Q x a)) (fun x a=>r x (by simp [a]))) (trodAll_cons_mk (WideElems.Trod_stays tX kr_ (OQ kr_) h2 (fun x a=>h.same (R x a)) (fun x a=>r x (by simp [a]))) (trodAll_mk0)))
theorem O6 (a:Os){H:Type}(b:TypeId × Value->H):∃ c,DataW.whole b Tryz.prog ((pF a).forCall (fun _ _=>0) ⟨#[],#[.agg ⟨[.int .u8 0,.int .i8 0,.int .i8 0,.bool false,.int .i8 0,.int .i8 0,.int .i8 0,.int .i8 0,.int .i8 0,.int .i8 0,.bool false,.slice none 0 0]⟩,.int .u8 0,.int .u8 0],[]⟩).memory Tryz.f10.params.toList Rows.horizonErrorsSpec.vars false (#[.agg ⟨[.int .u8 0,.int .i8 0,.int .i8 0,.bool false,.int .i8 0,.int .i8 0,.int .i8 0,.int .i8 0,.int .i8 0,.int .i8 0,.bool false,.slice none 0 0]⟩,.int .u8 0,.int .u8 0]:Array Value).toList 8=some ([.agg [.agg [.lit (.int .u8 0),.agg [.lit (.int .i8 0),.lit (.int .i8 0)],.lit (.bool false)],.agg [.agg [.lit (.int .i8 0),.lit (.int .i8 0),.lit (.int .i8 0),.lit (.int .i8 0),.lit (.int .i8 0),.lit (.int .i8 0)],.lit (.bool false)],.nil],.lit (.int .u8 0),.lit (.int .u8 0)],[],c) :=
 ⟨[],by kernel_rfl⟩
theorem Od (b:Os)(c:b.Started)(H:Type)(a:TypeId × Value->H)(F:Stop.Interp) :
  ReturnsInHanded {} Tryz.checked b 10 .any ((OpenSpec.ofChange Rows.horizonErrorsSpec).preRow a Tryz.prog Tryz.f10 Rows.horizonErrorsRow.domain false Rows.horizonErrorsRow.laid) (((OpenSpec.ofChange Rows.horizonErrorsSpec).at F).post a Tryz.prog Tryz.f10 false true false false):=by
 obtain ⟨m,d⟩:=O6 b a;refine returnsInHanded_of_row (C:=Tryz.checked) (s:=OpenSpec.ofChange Rows.horizonErrorsSpec) own c kr_ Tryz.func10
  (witness_row_at (enc:=a) (C:=Tryz.checked) false (pF b) #[.agg ⟨[.int .u8 0,.int .i8 0,.int .i8 0,.bool false,.int .i8 0,.int .i8 0,.int .i8 0,.int .i8 0,.int .i8 0,.int .i8 0,.bool false,.slice none 0 0]⟩,.int .u8 0,.int .u8 0] rfl kr_ kr_ kr_
   (OpenSpec.preRow_of_cond 8 d kr_ (fun k e=>by cases e) kr_ (IZ b _))) ?_
 intro W f args ds g h i j _ _ _ l _ _;exact Jv H a W f args ds g h i j l
theorem Pr {a b:Bool}(h:a=true)(k:b=true):(a && b)=true:=by rw [h,k];rfl
theorem said:Rows.HorizonErrorsSaid :=
 OpenClaim.holds_of_cond 10 Tryz.f10 rfl rfl rfl rfl rfl rfl rfl ⟨rfl,rfl,rfl,rfl,rfl⟩ rfl rfl rfl rfl rfl (by as_aux_lemma=>kernel_rfl) Tryz.func10 (by unfold joinedFacts;(repeat' (with_reducible refine Pr ?_ ?_));all_goals (as_aux_lemma=>kernel_rfl))
  (OQ (by as_aux_lemma=>kernel_rfl)) (by unfold Func.isWrapper;first | (rw [aL ar];kernel_rfl) | (rw [aF ar];exact ⟨rfl,rfl⟩))
  (fun os a H enc _ F=>by rw [OpenClaim.pre_eq_preRow];exact Od os a H enc F)
theorem plain (f : FuncId) (a : Func) (c : Tryz.pinned.checked.prog.funcNamed "klippe/klippelaw26.HorizonErrors" = some f) (d : Tryz.pinned.checked.prog.funcs[f]? = some a) :
  true=Tryz.pinned.checked.prog.looks []/\∀ (j:Nat) t,a.params[j]?=some t->Tryz.pinned.checked.prog.wantsStandIn t=false:=by
 obtain rfl : f = 10 := Q8 ((show Tryz.prog.funcNamed "klippe/klippelaw26.HorizonErrors" = some 10 by kernel_rfl).symm.trans c) |>.symm;obtain rfl:a=Tryz.f10:=(Q8 (Tryz.func10.symm.trans d)).symm;refine ⟨by kernel_rfl,fun j t b=>?_⟩;rw [Tryz.params10] at b;have hm:=Array.mem_of_getElem? b;simp only [List.mem_toArray,PN,QH,R8] at hm;rcases hm with rfl | rfl | rfl
 ·exact (show Tryz.prog.wantsStandIn 31=false by kernel_rfl)
 ·exact (show Tryz.prog.wantsStandIn 5=false by kernel_rfl)
 exact (show Tryz.prog.wantsStandIn 5=false by kernel_rfl)
end lawHorizonErrors
theorem horizonErrors_card:Rows.HorizonErrorsCardSaid :=
 Claim7.holds_tied_plain_at .later [] _ _ _ _ lawHorizonErrors.said (fun _ h=>by cases h) (by as_aux_lemma=>kernel_rfl) (fun _ h=>by cases h) horizonErrors_row_tie (by as_aux_lemma=>kernel_rfl) ⟨by as_aux_lemma=>kernel_rfl,by as_aux_lemma=>kernel_rfl⟩ (by as_aux_lemma=>kernel_rfl) (by as_aux_lemma=>kernel_rfl) lawHorizonErrors.plain (by as_aux_lemma=>kernel_rfl)
#print axioms horizonErrors_card
end Go.Proofs.YtfjcldheldflbaaGreatDoor
