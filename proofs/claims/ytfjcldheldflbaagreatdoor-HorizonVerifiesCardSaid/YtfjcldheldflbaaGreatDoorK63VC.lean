import Derived.Test.YtfjcldheldflbaaGreatDoorG17
namespace Go.Proofs.YtfjcldheldflbaaGreatDoor
open Go Go.Jog Go.ChangeShapes Go.WideShapes Go.ChangeAt Go.RowKit
set_option maxRecDepth 100000
set_option maxHeartbeats 40000000
namespace lawHorizonVerifies
theorem LB (a:Os)(b:Array Value):laidMetH Tryz.prog Rows.horizonVerifiesRow.laid ((rB a).forCall (fun _ _=>0) ⟨#[],b,[]⟩).memory :=
 laidMet_of_run' 8 kr_ kr_
theorem Mh (H:Type)(h:TypeId × Value->H)(W:World)(C:Nat)(f:Array Value)(s D:List (DataW H))(E:List MemPlace)
  (i:∀ (j:Nat) t v,Tryz.f9.params[j]?=some t->f[j]?=some v->Value.okWide Tryz.prog W .any C t v)
  (u:DataW.Whole h Tryz.prog Tryz.f9.params.toList Rows.horizonVerifiesSpec.vars false W f.toList s D E) (F:laidMet Tryz.prog Rows.horizonVerifiesRow.laid W) :
  Calls Tryz.prog 9 f W fun e w=>∃ v,e=.returned v/\Rows.horizonVerifiesSpec.post h Tryz.prog Tryz.f9 false true false false W f v w:=by
 have g:=u;obtain ⟨p,q,I,J,rfl,ad,ae⟩:=u;have y:DataW.TrodAll h Tryz.prog W 0 (fun _=>true) true Tryz.f9.params.toList f.toList s p:=I;rw [Tryz.params9] at y i;obtain ⟨k,af,d0,ag,z,q0,ah,rfl,rfl,h0,K⟩:=trodAll_cons y;obtain ⟨m,ai,d1,aj,A,q1,ak,rfl,rfl,h1,L⟩:=trodAll_cons K;obtain ⟨rfl,rfl,rfl⟩:=trodAll_nil L;obtain rfl:f=#[k,m]:=by cases f;simp_all
 obtain ⟨rfl,rfl⟩:=trodVars_none J;obtain ⟨M,N,O,P,Q⟩:∃ S G l,PlanIn (sH W) k S G l/\PlanR S G l:=by
  obtain ⟨cs,rfl,_⟩:=okWide_struct Tryz.underlying31 (i 0 31 k rfl rfl);obtain ⟨n,o⟩:=(id h0);exact OU o
 obtain ⟨R,T,V,rfl,X,Y,Z⟩:∃ a b c:Nat,m=.agg ⟨[.int .u8 a,.int .u8 b,.int .u8 c]⟩/\a<256/\b<256/\c<256:=by
  obtain ⟨⟨cs⟩,rfl,_⟩:=okWide_struct Tryz.underlying113 (i 1 113 m rfl rfl);obtain ⟨n,o⟩:=(id h1);obtain ⟨a,b,c,hr,h1,h2,h3⟩:=N8 o;exact ⟨a,b,c,congrArg (fun x=>Value.agg ⟨x⟩) hr,h1,h2,h3⟩
 simp only [S8] at g;have aa:∀ x∈z,x.block<W.heap.size:=fun x d=>g.lt x (by simp [d]);have ab:∀ x∈A,x.block<W.heap.size:=fun x d=>g.lt x (by simp [d]);have ac:=AU (zM (sH W) (N2 F) _ M N O R T V X Y Z P Q);refine Calls.mono ac fun e w ⟨he,r⟩=>?_;subst he;refine ⟨_,U,uZ (pa:=z++(A++([]))) (pv:=[]) g (fun _ _ _=>trodAll_cons_mk (shut_bool Tryz.underlying4 _) trodAll_mk0) (fun sp B=>?_) (fun _ _=>rfl) am r (ok_one kr_ U (okWide_bool_mk Tryz.underlying4 _))⟩;exact trodAll_cons_mk (WideElems.Trod_stays DG kr_ (aT kr_) h0 (fun x d=>r.same (aa x d)) (fun x d=>B x (by simp [d]))) (trodAll_cons_mk (WideElems.Trod_stays DG kr_ (aT kr_) h1 (fun x d=>r.same (ab x d)) (fun x d=>B x (by simp [d]))) (trodAll_mk0))
theorem Sk (a:Os){H:Type}(b:TypeId × Value->H):∃ c,DataW.whole b Tryz.prog ((rB a).forCall (fun _ _=>0) ⟨#[],#[.agg ⟨[.int .u8 0,.int .i8 0,.int .i8 0,.bool false,.int .i8 0,.int .i8 0,.int .i8 0,.int .i8 0,.int .i8 0,.int .i8 0,.bool false,.slice none 0 0]⟩,.agg ⟨[.int .u8 0,.int .u8 0,.int .u8 0]⟩],[]⟩).memory Tryz.f9.params.toList Rows.horizonVerifiesSpec.vars false (#[.agg ⟨[.int .u8 0,.int .i8 0,.int .i8 0,.bool false,.int .i8 0,.int .i8 0,.int .i8 0,.int .i8 0,.int .i8 0,.int .i8 0,.bool false,.slice none 0 0]⟩,.agg ⟨[.int .u8 0,.int .u8 0,.int .u8 0]⟩]:Array Value).toList 8=some ([.agg [.agg [.lit (.int .u8 0),.agg [.lit (.int .i8 0),.lit (.int .i8 0)],.lit (.bool false)],.agg [.agg [.lit (.int .i8 0),.lit (.int .i8 0),.lit (.int .i8 0),.lit (.int .i8 0),.lit (.int .i8 0),.lit (.int .i8 0)],.lit (.bool false)],.nil],.agg [.lit (.int .u8 0),.lit (.int .u8 0),.lit (.int .u8 0)]],[],c) :=
 ⟨[],by kernel_rfl⟩
theorem Rm (b:Os)(c:b.Started)(H:Type)(a:TypeId × Value->H)(F:Stop.Interp) :
  ReturnsInHanded {} Tryz.checked b 9 .any ((OpenSpec.ofChange Rows.horizonVerifiesSpec).preRow a Tryz.prog Tryz.f9 Rows.horizonVerifiesRow.domain false Rows.horizonVerifiesRow.laid) (((OpenSpec.ofChange Rows.horizonVerifiesSpec).at F).post a Tryz.prog Tryz.f9 false true false false):=by
 obtain ⟨m,d⟩:=Sk b a;refine returnsInHanded_of_row (C:=Tryz.checked) (s:=OpenSpec.ofChange Rows.horizonVerifiesSpec) own c kr_ Tryz.func9
  (witness_row_at (enc:=a) (C:=Tryz.checked) false (rB b) #[.agg ⟨[.int .u8 0,.int .i8 0,.int .i8 0,.bool false,.int .i8 0,.int .i8 0,.int .i8 0,.int .i8 0,.int .i8 0,.int .i8 0,.bool false,.slice none 0 0]⟩,.agg ⟨[.int .u8 0,.int .u8 0,.int .u8 0]⟩] rfl kr_ kr_ kr_
   (OpenSpec.preRow_of_cond 8 d kr_ (fun k e=>by cases e) kr_ (LB b _))) ?_
 intro W f args ds g h i j _ _ _ l _ _;exact Mh H a W f args ds g h i j l
theorem SE {a b:Bool}(h:a=true)(k:b=true):(a && b)=true:=by rw [h,k];rfl
theorem said:Rows.HorizonVerifiesSaid :=
 OpenClaim.holds_of_cond 9 Tryz.f9 rfl rfl rfl rfl rfl rfl rfl ⟨rfl,rfl,rfl,rfl,rfl⟩ rfl rfl rfl rfl rfl (by as_aux_lemma=>kernel_rfl) Tryz.func9 (by unfold joinedFacts;(repeat' (with_reducible refine SE ?_ ?_));all_goals (as_aux_lemma=>kernel_rfl))
  (aT (by as_aux_lemma=>kernel_rfl)) (by unfold Func.isWrapper;first | (rw [aL aq];kernel_rfl) | (rw [aF aq];exact ⟨rfl,rfl⟩))
  (fun os a H enc _ F=>by rw [OpenClaim.pre_eq_preRow];exact Rm os a H enc F)
theorem plain (f : FuncId) (a : Func) (b : Tryz.pinned.checked.prog.funcNamed "klippe/klippelaw26.HorizonVerifies" = some f) (c : Tryz.pinned.checked.prog.funcs[f]? = some a) :
  true=Tryz.pinned.checked.prog.looks []/\∀ (j:Nat) t,a.params[j]?=some t->Tryz.pinned.checked.prog.wantsStandIn t=false:=by
 obtain rfl : f = 9 := Ue ((show Tryz.prog.funcNamed "klippe/klippelaw26.HorizonVerifies" = some 9 by kernel_rfl).symm.trans b) |>.symm;obtain rfl:a=Tryz.f9:=(Ue (Tryz.func9.symm.trans c)).symm;refine ⟨by kernel_rfl,fun j t ht=>?_⟩;rw [Tryz.params9] at ht;have hm:=Array.mem_of_getElem? ht;simp only [List.mem_toArray,SY,TQ,Vf] at hm;rcases hm with rfl | rfl
 ·exact (show Tryz.prog.wantsStandIn 31=false by kernel_rfl)
 exact (show Tryz.prog.wantsStandIn 113=false by kernel_rfl)
end lawHorizonVerifies
theorem horizonVerifies_card:Rows.HorizonVerifiesCardSaid :=
 Claim7.holds_tied_plain_at .later [] _ _ _ _ lawHorizonVerifies.said (fun _ h=>by cases h) (by as_aux_lemma=>kernel_rfl) (fun _ h=>by cases h) horizonVerifies_row_tie (by as_aux_lemma=>kernel_rfl) ⟨by as_aux_lemma=>kernel_rfl,by as_aux_lemma=>kernel_rfl⟩ (by as_aux_lemma=>kernel_rfl) (by as_aux_lemma=>kernel_rfl) lawHorizonVerifies.plain (by as_aux_lemma=>kernel_rfl)
#print axioms horizonVerifies_card
end Go.Proofs.YtfjcldheldflbaaGreatDoor
