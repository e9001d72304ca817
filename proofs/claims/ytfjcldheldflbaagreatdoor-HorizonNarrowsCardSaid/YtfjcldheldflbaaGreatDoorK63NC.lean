/- FOR ANY PLAN AND PLACE HorizonNarrows ANSWERS true, and leaves them as they were. -/
import Derived.Test.YtfjcldheldflbaaGreatDoorG16
import Derived.Test.YtfjcldheldflbaaGreatDoorShelf
namespace Go.Proofs.YtfjcldheldflbaaGreatDoor
open Go Go.Jog Go.ChangeShapes Go.WideShapes Go.ChangeAt Go.RowKit
set_option maxRecDepth 100000
set_option maxHeartbeats 40000000
namespace lawHorizonNarrows
theorem J5 (a:Os)(b:Array Value):laidMetH Tryz.prog Rows.horizonNarrowsRow.laid ((qm a).forCall (fun _ _=>0) ⟨#[],b,[]⟩).memory :=
 laidMet_of_run' 8 kr_ kr_
theorem KC (H:Type)(h:TypeId × Value->H)(W:World)(E:Nat)(d:Array Value)(s F:List (DataW H))(I:List MemPlace)
  (i:∀ (j:Nat) t v,Tryz.f5.params[j]?=some t->d[j]?=some v->Value.okWide Tryz.prog W .any E t v)
  (u:DataW.Whole h Tryz.prog Tryz.f5.params.toList Rows.horizonNarrowsSpec.vars false W d.toList s F I) (J:laidMet Tryz.prog Rows.horizonNarrowsRow.laid W) :
  Calls Tryz.prog 5 d W fun e w=>∃ v,e=.returned v/\Rows.horizonNarrowsSpec.post h Tryz.prog Tryz.f5 false true false false W d v w:=by
 have g:=u;obtain ⟨p,q,K,L,rfl,ad,ae⟩:=u;have y:DataW.TrodAll h Tryz.prog W 0 (fun _=>true) true Tryz.f5.params.toList d.toList s p:=K;rw [Tryz.params5] at y i;obtain ⟨k,af,d0,ag,z,q0,ah,rfl,rfl,h0,M⟩:=trodAll_cons y;obtain ⟨o,ai,d1,aj,A,q1,ak,rfl,rfl,h1,N⟩:=trodAll_cons M;obtain ⟨rfl,rfl,rfl⟩:=trodAll_nil N;obtain rfl:d=#[k,o]:=by cases d;simp_all
 obtain ⟨rfl,rfl⟩:=trodVars_none L;obtain ⟨O,P,Q,R,T⟩:∃ S G l,Ii (rD W) k S G l/\PlanR S G l:=by
  obtain ⟨cs,rfl,_⟩:=okWide_struct Tryz.underlying31 (i 0 31 k rfl rfl);obtain ⟨n,f⟩:=(id h0);exact M4 f
 obtain ⟨U,V,rfl⟩:∃ a b:Int,o=.agg ⟨[.int .i8 a,.int .i8 b]⟩:=by
  obtain ⟨⟨cs⟩,rfl,B⟩:=uz Tryz.underlying23 (i 1 23 o rfl rfl);obtain ⟨n,f⟩:=(id h1);rw [qX] at B
  match cs,B,f with
  | [c0,c1],_,f =>
   obtain ⟨m,C⟩:=tz Tryz.underlying23 mJ f;obtain ⟨_,X⟩:=C 0 dc_;obtain ⟨_,Y⟩:=C 1 dc_;obtain ⟨a,rfl,_⟩:=kU X;obtain ⟨b,rfl,_⟩:=kU Y;exact ⟨a,b,Z⟩
 simp only [Q2] at g;have aa:∀ x∈z,x.block<W.heap.size:=fun x c=>g.lt x (by simp [c]);have ab:∀ x∈A,x.block<W.heap.size:=fun x c=>g.lt x (by simp [c]);have ac:=zy (DP (rD W) (Mn J) _ U V O P Q R T);refine Calls.mono ac fun e w ⟨he,r⟩=>?_;subst he;refine ⟨_,Z,uu (pa:=z++(A++([]))) (pv:=[]) g (fun _ _ _=>trodAll_cons_mk (shut_bool Tryz.underlying4 _) trodAll_mk0) (fun sp D=>?_) (fun _ _=>rfl) al r (ok_one kr_ Z (okWide_bool_mk Tryz.underlying4 _))⟩;exact trodAll_cons_mk (WideElems.Trod_stays Cj kr_ (PZ kr_) h0 (fun x c=>r.same (aa x c)) (fun x c=>D x (by simp [c]))) (trodAll_cons_mk (WideElems.Trod_stays Cj kr_ (PZ kr_) h1 (fun x c=>r.same (ab x c)) (fun x c=>D x (by simp [c]))) (trodAll_mk0))
theorem Qf (a:Os){H:Type}(b:TypeId × Value->H):∃ c,DataW.whole b Tryz.prog ((qm a).forCall (fun _ _=>0) ⟨#[],#[.agg ⟨[.int .u8 0,.int .i8 0,.int .i8 0,.bool false,.int .i8 0,.int .i8 0,.int .i8 0,.int .i8 0,.int .i8 0,.int .i8 0,.bool false,.slice none 0 0]⟩,.agg ⟨[.int .i8 0,.int .i8 0]⟩],[]⟩).memory Tryz.f5.params.toList Rows.horizonNarrowsSpec.vars false (#[.agg ⟨[.int .u8 0,.int .i8 0,.int .i8 0,.bool false,.int .i8 0,.int .i8 0,.int .i8 0,.int .i8 0,.int .i8 0,.int .i8 0,.bool false,.slice none 0 0]⟩,.agg ⟨[.int .i8 0,.int .i8 0]⟩]:Array Value).toList 8=some ([.agg [.agg [.lit (.int .u8 0),.agg [.lit (.int .i8 0),.lit (.int .i8 0)],.lit (.bool false)],.agg [.agg [.lit (.int .i8 0),.lit (.int .i8 0),.lit (.int .i8 0),.lit (.int .i8 0),.lit (.int .i8 0),.lit (.int .i8 0)],.lit (.bool false)],.nil],.agg [.lit (.int .i8 0),.lit (.int .i8 0)]],[],c) :=
 ⟨[],by kernel_rfl⟩
theorem Pm (b:Os)(c:b.Started)(H:Type)(a:TypeId × Value->H)(F:Stop.Interp) :
  ReturnsInHanded {} Tryz.checked b 5 .any ((OpenSpec.ofChange Rows.horizonNarrowsSpec).preRow a Tryz.prog Tryz.f5 Rows.horizonNarrowsRow.domain false Rows.horizonNarrowsRow.laid) (((OpenSpec.ofChange Rows.horizonNarrowsSpec).at F).post a Tryz.prog Tryz.f5 false true false false):=by
 obtain ⟨m,d⟩:=Qf b a;refine returnsInHanded_of_row (C:=Tryz.checked) (s:=OpenSpec.ofChange Rows.horizonNarrowsSpec) own c kr_ Tryz.func5
  (witness_row_at (enc:=a) (C:=Tryz.checked) false (qm b) #[.agg ⟨[.int .u8 0,.int .i8 0,.int .i8 0,.bool false,.int .i8 0,.int .i8 0,.int .i8 0,.int .i8 0,.int .i8 0,.int .i8 0,.bool false,.slice none 0 0]⟩,.agg ⟨[.int .i8 0,.int .i8 0]⟩] rfl kr_ kr_ kr_
   (OpenSpec.preRow_of_cond 8 d kr_ (fun k e=>by cases e) kr_ (J5 b _))) ?_
 intro W f args ds g h i j _ _ _ l _ _;exact KC H a W f args ds g h i j l
theorem Qu {a b:Bool}(h:a=true)(k:b=true):(a && b)=true:=by rw [h,k];rfl
theorem said:Rows.HorizonNarrowsSaid :=
 OpenClaim.holds_of_cond 5 Tryz.f5 rfl rfl rfl rfl rfl rfl rfl ⟨rfl,rfl,rfl,rfl,rfl⟩ rfl rfl rfl rfl rfl (by as_aux_lemma=>kernel_rfl) Tryz.func5 (by unfold joinedFacts;(repeat' (with_reducible refine Qu ?_ ?_));all_goals (as_aux_lemma=>kernel_rfl))
  (PZ (by as_aux_lemma=>kernel_rfl)) (by unfold Func.isWrapper;first | (rw [aJ aq];kernel_rfl) | (rw [aF aq];exact ⟨rfl,rfl⟩))
  (fun os a H enc _ F=>by rw [OpenClaim.pre_eq_preRow];exact Pm os a H enc F)
theorem plain (f : FuncId) (a : Func) (c : Tryz.pinned.checked.prog.funcNamed "klippe/klippelaw26.HorizonNarrows" = some f) (d : Tryz.pinned.checked.prog.funcs[f]? = some a) :
  true=Tryz.pinned.checked.prog.looks []/\∀ (j:Nat) t,a.params[j]?=some t->Tryz.pinned.checked.prog.wantsStandIn t=false:=by
 obtain rfl : f = 5 := R6 ((show Tryz.prog.funcNamed "klippe/klippelaw26.HorizonNarrows" = some 5 by kernel_rfl).symm.trans c) |>.symm;obtain rfl:a=Tryz.f5:=(R6 (Tryz.func5.symm.trans d)).symm;refine ⟨by kernel_rfl,fun j t b=>?_⟩;rw [Tryz.params5] at b;have hm:=Array.mem_of_getElem? b;simp only [List.mem_toArray,QQ,RJ,S5] at hm;rcases hm with rfl | rfl
 ·exact (show Tryz.prog.wantsStandIn 31=false by kernel_rfl)
 exact (show Tryz.prog.wantsStandIn 23=false by kernel_rfl)
end lawHorizonNarrows
theorem horizonNarrows_card:Rows.HorizonNarrowsCardSaid :=
 Claim7.holds_tied_plain_at .later [] _ _ _ _ lawHorizonNarrows.said (fun _ h=>by cases h) kr_ (fun _ h=>by cases h) horizonNarrows_row_tie rfl ⟨rfl,rfl⟩ kr_ rfl lawHorizonNarrows.plain kr_
#print axioms horizonNarrows_card
end Go.Proofs.YtfjcldheldflbaaGreatDoor
