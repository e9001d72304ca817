/- FOR ANY NUMBER ConflictMany ANSWERS true, and leaves it as it was. -/
import Derived.Test.YthnpijdjlddpmaaGreatDoorG15
import Derived.Test.YthnpijdjlddpmaaGreatDoorShelf
namespace Go.Proofs.YthnpijdjlddpmaaGreatDoor
open Go Go.Jog Go.ChangeShapes Go.WideShapes Go.ChangeAt Go.RowKit
set_option maxRecDepth 100000
set_option maxHeartbeats 40000000
namespace lawConflictMany
theorem Gd (a:Os)(b:Array Value):laidMetH Tryz.prog Rows.conflictManyRow.laid ((oo a).forCall (fun _ _=>0) ⟨#[],b,[]⟩).memory :=
 laidMet_of_run' 8 kr_ kr_
theorem GE (H:Type)(d:TypeId × Value->H)(W:World)(u:Nat)(a:Array Value)(h w:List (DataW H))(y:List MemPlace)
  (i:∀ (j:Nat) t v,Tryz.f4.params[j]?=some t->a[j]?=some v->Value.okWide Tryz.prog W .any u t v)
  (k:DataW.Whole d Tryz.prog Tryz.f4.params.toList Rows.conflictManySpec.vars false W a.toList h w y) (z:laidMet Tryz.prog Rows.conflictManyRow.laid W) :
  Calls Tryz.prog 4 a W fun e l=>∃ v,e=.returned v/\Rows.conflictManySpec.post d Tryz.prog Tryz.f4 false true false false W a v l:=by
 have f:=k;obtain ⟨p,q,A,B,rfl,J,K⟩:=k;have m:DataW.TrodAll d Tryz.prog W 0 (fun _=>true) true Tryz.f4.params.toList a.toList h p:=A;rw [Tryz.params4] at m i;obtain ⟨g,L,M,N,o,O,P,rfl,rfl,h0,C⟩:=trodAll_cons m;obtain ⟨rfl,rfl,rfl⟩:=trodAll_nil C;obtain rfl:a=#[g]:=by cases a;simp_all
 obtain ⟨rfl,rfl⟩:=trodVars_none B;obtain ⟨r,rfl⟩:∃ b:UInt8,g=.int .u8 b.toNat:=by
  obtain ⟨Q,rfl⟩:=okWide_int Tryz.underlying5 (i 0 5 g rfl rfl);obtain ⟨n,D⟩:=(id h0);exact K8 D
 simp only [Mi] at f;have E:∀ x∈o,x.block<W.heap.size:=fun x c=>f.lt x (by simp [c]);have F:=vT (F6 (Da W) (HX z) r.toNat r.toNat_lt);refine Calls.mono F fun e l ⟨G,s⟩=>?_;subst G;refine ⟨_,Z,rL (pa:=o++([])) (pv:=[]) f (fun _ _ _=>trodAll_cons_mk (shut_bool Tryz.underlying4 _) trodAll_mk0) (fun R I=>?_) (fun _ _=>rfl) (by simp) s (ok_one kr_ Z (okWide_bool_mk Tryz.underlying4 _))⟩;exact trodAll_cons_mk (WideElems.Trod_stays Ge kr_ (K5 kr_) h0 (fun x c=>s.same (E x c)) (fun x c=>I x (by simp [c]))) (trodAll_mk0)
theorem Le (a:Os){H:Type}(b:TypeId × Value->H):∃ c,DataW.whole b Tryz.prog ((oo a).forCall (fun _ _=>0) ⟨#[],#[.int .u8 0],[]⟩).memory Tryz.f4.params.toList Rows.conflictManySpec.vars false (#[.int .u8 0]:Array Value).toList 8=some ([.lit (.int .u8 0)],[],c) :=
 ⟨[],by kernel_rfl⟩
theorem Ku (b:Os)(c:b.Started)(H:Type)(a:TypeId × Value->H)(F:Stop.Interp) :
  ReturnsInHanded {} Tryz.checked b 4 .any ((OpenSpec.ofChange Rows.conflictManySpec).preRow a Tryz.prog Tryz.f4 Rows.conflictManyRow.domain false Rows.conflictManyRow.laid) (((OpenSpec.ofChange Rows.conflictManySpec).at F).post a Tryz.prog Tryz.f4 false true false false):=by
 obtain ⟨m,d⟩:=Le b a;refine returnsInHanded_of_row (C:=Tryz.checked) (s:=OpenSpec.ofChange Rows.conflictManySpec) own c kr_ Tryz.func4
  (witness_row_at (enc:=a) (C:=Tryz.checked) false (oo b) #[.int .u8 0] rfl kr_ kr_ kr_
   (OpenSpec.preRow_of_cond 8 d kr_ (fun k e=>by cases e) kr_ (Gd b _))) ?_
 intro W f args ds g h i j _ _ _ l _ _;exact GE H a W f args ds g h i j l
theorem LK {a b:Bool}(h:a=true)(k:b=true):(a && b)=true:=by rw [h,k];rfl
theorem said:Rows.ConflictManySaid :=
 OpenClaim.holds_of_cond 4 Tryz.f4 rfl rfl rfl rfl rfl rfl rfl ⟨rfl,rfl,rfl,rfl,rfl⟩ rfl rfl rfl rfl rfl (by as_aux_lemma=>kernel_rfl) Tryz.func4 (by unfold joinedFacts;(repeat' (with_reducible refine LK ?_ ?_));all_goals (as_aux_lemma=>kernel_rfl))
  (K5 (by as_aux_lemma=>kernel_rfl)) (by unfold Func.isWrapper;first | (rw [aI (by decide +kernel)];kernel_rfl) | (rw [aC (by decide +kernel)];exact ⟨rfl,rfl⟩))
  (fun os a H enc _ F=>by rw [OpenClaim.pre_eq_preRow];exact Ku os a H enc F)
theorem plain (f : FuncId) (a : Func) (c : Tryz.pinned.checked.prog.funcNamed "klippe/klippelaw27.ConflictMany" = some f) (d : Tryz.pinned.checked.prog.funcs[f]? = some a) :
  true=Tryz.pinned.checked.prog.looks []/\∀ (j:Nat) t,a.params[j]?=some t->Tryz.pinned.checked.prog.wantsStandIn t=false:=by
 obtain rfl : f = 4 := Nc ((show Tryz.prog.funcNamed "klippe/klippelaw27.ConflictMany" = some 4 by kernel_rfl).symm.trans c) |>.symm;obtain rfl:a=Tryz.f4:=(Nc (Tryz.func4.symm.trans d)).symm;refine ⟨by kernel_rfl,fun j t b=>?_⟩;rw [Tryz.params4] at b;have hm:=Array.mem_of_getElem? b;simp only [List.mem_toArray,Ma,M3,Ol] at hm;subst hm
 ·exact (show Tryz.prog.wantsStandIn 5=false by kernel_rfl)
end lawConflictMany
theorem conflictMany_card:Rows.ConflictManyCardSaid :=
 Claim7.holds_tied_plain_at .later [] _ _ _ _ lawConflictMany.said (fun _ h=>by cases h) kr_ (fun _ h=>by cases h) conflictMany_row_tie rfl ⟨rfl,rfl⟩ kr_ rfl lawConflictMany.plain kr_
#print axioms conflictMany_card
end Go.Proofs.YthnpijdjlddpmaaGreatDoor
