/- FOR ANY PLAN, ANY SET AND ANY CHANGE OF A DUAL ConflictRefutes ANSWERS true, and leaves them as they were. -/
import Derived.Test.YthnpijdjlddpmaaGreatDoorG15
import Derived.Test.YthnpijdjlddpmaaGreatDoorShelf
namespace Go.Proofs.YthnpijdjlddpmaaGreatDoor
open Go Go.Jog Go.ChangeShapes Go.WideShapes Go.ChangeAt Go.RowKit
set_option maxRecDepth 100000
section
variable {H:Type} {enc:TypeId × Value->H} {W:World} {spare:Nat->Bool} {held:Bool}
theorem Jg {n:Nat}{c:Value}{y:DataW H × List MemPlace}(h:DataW.trod enc Tryz.prog W 0 spare held n 56 [c]=some y):∃ s:Str,c=ai s:=by
 obtain ⟨s,h1,_⟩:=DataW.trod_string Tryz.underlying56 h;simp only [SQ,TX] at h1;obtain ⟨⟨l⟩⟩:=s;exact ⟨l,h1⟩
theorem HK {n:Nat}{c:List Value}{y:DataW H × List MemPlace}(h:DataW.trod enc Tryz.prog W 0 spare held n 89 c=some y) :
  ∃ (d e:Nat)(s:Str),c=[.int .u8 d,.int .u8 e,ai s]/\d<256/\e<256:=by
 obtain ⟨y0,y1,y2,k,_,f,h0,h1,h2⟩:=Go.Deep.trod_struct3 Tryz.underlying89 h;have g:Tryz.prog.cellsOf 89=3:=by kernel_rfl
 have hs:Tryz.prog.cellsOf 56=1:=by kernel_rfl
 rw [g] at f
 match c,f with
 | [c0,l,c2],_ =>
  simp only [ow,hs] at h0 h1 h2;obtain ⟨a,rfl,i⟩:=oN h0;obtain ⟨b,rfl,j⟩:=oN h1;obtain ⟨s,rfl⟩:=Jg h2;exact ⟨a,b,s,Z,i,j⟩
end
open Go Go.Jog Go.ChangeShapes Go.WideShapes Go.ChangeAt Go.RowKit
set_option maxRecDepth 100000
set_option maxHeartbeats 40000000
namespace lawConflictRefutes
theorem J3 (a:Os)(b:Array Value):laidMetH Tryz.prog Rows.conflictRefutesRow.laid ((qg a).forCall (fun _ _=>0) ⟨#[],b,[]⟩).memory :=
 laidMet_of_run' 8 kr_ kr_
theorem KD (H:Type)(m:TypeId × Value->H)(W:World)(F:Nat)(c:Array Value)(y I:List (DataW H))(J:List MemPlace)
  (g:∀ (j:Nat) t v,Tryz.f9.params[j]?=some t->c[j]?=some v->Value.okWide Tryz.prog W .any F t v)
  (z:DataW.Whole m Tryz.prog Tryz.f9.params.toList Rows.conflictRefutesSpec.vars false W c.toList y I J) (K:laidMet Tryz.prog Rows.conflictRefutesRow.laid W) :
  Calls Tryz.prog 9 c W fun e A=>∃ v,e=.returned v/\Rows.conflictRefutesSpec.post m Tryz.prog Tryz.f9 false true false false W c v A:=by
 have d:=z;obtain ⟨p,q,L,M,rfl,ah,aj⟩:=z;have B:DataW.TrodAll m Tryz.prog W 0 (fun _=>true) true Tryz.f9.params.toList c.toList y p:=L;rw [Tryz.params9] at B g;obtain ⟨o,ak,d0,al,C,q0,an,rfl,rfl,h0,N⟩:=trodAll_cons B;obtain ⟨r,ao,d1,ap,D,q1,aq,rfl,rfl,h1,O⟩:=trodAll_cons N;obtain ⟨u,ar,d2,au,E,q2,av,rfl,rfl,h2,P⟩:=trodAll_cons O;obtain ⟨rfl,rfl,rfl⟩:=trodAll_nil P;obtain rfl:c=#[o,r,u]:=by cases c;simp_all
 obtain ⟨rfl,rfl⟩:=trodVars_none M;obtain ⟨Q,R,T,U,V⟩:∃ S G l,CF (rB W) o S G l/\PlanR S G l:=by
  obtain ⟨cs,rfl,_⟩:=okWide_struct Tryz.underlying31 (g 0 31 o rfl rfl);obtain ⟨n,f⟩:=(id h0);exact MV f
 obtain ⟨l1,rfl⟩:∃ b:UInt8,r=.int .u8 b.toNat:=by
  obtain ⟨k1,rfl⟩:=okWide_int Tryz.underlying5 (g 1 5 r rfl rfl);obtain ⟨n,f⟩:=(id h1);exact Ov f
 obtain ⟨X,Y,aa,rfl,ab,ac⟩:∃ (h i:Nat)(s:Str),u=.agg ⟨[.int .u8 h,.int .u8 i,ai s]⟩/\h<256/\i<256:=by
  obtain ⟨cs,rfl,_⟩:=okWide_struct Tryz.underlying89 (g 2 89 u rfl rfl);obtain ⟨n,f⟩:=(id h2);obtain ⟨h,i,s,e,g0,g1⟩:=HK f;exact ⟨h,i,s,congrArg (fun x=>Value.agg ⟨x⟩) e,g0,g1⟩
 simp only [Q7] at d;have ad:∀ x∈C,x.block<W.heap.size:=fun x a=>d.lt x (by simp [a]);have ae:∀ x∈D,x.block<W.heap.size:=fun x a=>d.lt x (by simp [a]);have af:∀ x∈E,x.block<W.heap.size:=fun x a=>d.lt x (by simp [a]);have ag:=yR (zo (rB W) (Mr K) _ Q R T l1.toNat l1.toNat_lt X Y ab ac aa U V);refine Calls.mono ag fun e A ⟨he,k⟩=>?_;subst he;refine ⟨_,Z,uh (pa:=C++(D++(E++([])))) (pv:=[]) d (fun _ _ _=>trodAll_cons_mk (shut_bool Tryz.underlying4 _) trodAll_mk0) (fun sp w=>?_) (fun _ _=>rfl) am k (ok_one kr_ Z (okWide_bool_mk Tryz.underlying4 _))⟩;exact trodAll_cons_mk (WideElems.Trod_stays uy kr_ (aW kr_) h0 (fun x a=>k.same (ad x a)) (fun x a=>w x (by simp [a]))) (trodAll_cons_mk (WideElems.Trod_stays uy kr_ (aW kr_) h1 (fun x a=>k.same (ae x a)) (fun x a=>w x (by simp [a]))) (trodAll_cons_mk (WideElems.Trod_stays uy kr_ (aW kr_) h2 (fun x a=>k.same (af x a)) (fun x a=>w x (by simp [a]))) (trodAll_mk0)))
theorem P8 (a:Os){H:Type}(b:TypeId × Value->H):∃ c,DataW.whole b Tryz.prog ((qg a).forCall (fun _ _=>0) ⟨#[],#[.agg ⟨[.int .u8 0,.int .i8 0,.int .i8 0,.bool false,.int .i8 0,.int .i8 0,.int .i8 0,.int .i8 0,.int .i8 0,.int .i8 0,.bool false,.slice none 0 0]⟩,.int .u8 0,.agg ⟨[.int .u8 0,.int .u8 0,.string ⟨#[]⟩]⟩],[]⟩).memory Tryz.f9.params.toList Rows.conflictRefutesSpec.vars false (#[.agg ⟨[.int .u8 0,.int .i8 0,.int .i8 0,.bool false,.int .i8 0,.int .i8 0,.int .i8 0,.int .i8 0,.int .i8 0,.int .i8 0,.bool false,.slice none 0 0]⟩,.int .u8 0,.agg ⟨[.int .u8 0,.int .u8 0,.string ⟨#[]⟩]⟩]:Array Value).toList 8=some ([.agg [.agg [.lit (.int .u8 0),.agg [.lit (.int .i8 0),.lit (.int .i8 0)],.lit (.bool false)],.agg [.agg [.lit (.int .i8 0),.lit (.int .i8 0),.lit (.int .i8 0),.lit (.int .i8 0),.lit (.int .i8 0),.lit (.int .i8 0)],.lit (.bool false)],.nil],.lit (.int .u8 0),.agg [.lit (.int .u8 0),.lit (.int .u8 0),.lit (.string [])]],[],c) :=
 ⟨[],by kernel_rfl⟩
theorem Ph (b:Os)(c:b.Started)(H:Type)(a:TypeId × Value->H)(F:Stop.Interp) :
  ReturnsInHanded {} Tryz.checked b 9 .any ((OpenSpec.ofChange Rows.conflictRefutesSpec).preRow a Tryz.prog Tryz.f9 Rows.conflictRefutesRow.domain false Rows.conflictRefutesRow.laid) (((OpenSpec.ofChange Rows.conflictRefutesSpec).at F).post a Tryz.prog Tryz.f9 false true false false):=by
 obtain ⟨m,d⟩:=P8 b a;refine returnsInHanded_of_row (C:=Tryz.checked) (s:=OpenSpec.ofChange Rows.conflictRefutesSpec) own c kr_ Tryz.func9
  (witness_row_at (enc:=a) (C:=Tryz.checked) false (qg b) #[.agg ⟨[.int .u8 0,.int .i8 0,.int .i8 0,.bool false,.int .i8 0,.int .i8 0,.int .i8 0,.int .i8 0,.int .i8 0,.int .i8 0,.bool false,.slice none 0 0]⟩,.int .u8 0,.agg ⟨[.int .u8 0,.int .u8 0,.string ⟨#[]⟩]⟩] rfl kr_ kr_ kr_
   (OpenSpec.preRow_of_cond 8 d kr_ (fun k e=>by cases e) kr_ (J3 b _))) ?_
 intro W f args ds g h i j _ _ _ l _ _;exact KD H a W f args ds g h i j l
theorem QA {a b:Bool}(h:a=true)(k:b=true):(a && b)=true:=by rw [h,k];rfl
theorem said:Rows.ConflictRefutesSaid :=
 OpenClaim.holds_of_cond 9 Tryz.f9 rfl rfl rfl rfl rfl rfl rfl ⟨rfl,rfl,rfl,rfl,rfl⟩ rfl rfl rfl rfl rfl (by as_aux_lemma=>kernel_rfl) Tryz.func9 (by unfold joinedFacts;(repeat' (with_reducible refine QA ?_ ?_));all_goals (as_aux_lemma=>kernel_rfl))
  (aW (by as_aux_lemma=>kernel_rfl)) (by unfold Func.isWrapper;first | (rw [aJ aq];kernel_rfl) | (rw [aB aq];exact ⟨rfl,rfl⟩))
  (fun os a H enc _ F=>by rw [OpenClaim.pre_eq_preRow];exact Ph os a H enc F)
theorem plain (f : FuncId) (a : Func) (c : Tryz.pinned.checked.prog.funcNamed "klippe/klippelaw27.ConflictRefutes" = some f) (d : Tryz.pinned.checked.prog.funcs[f]? = some a) :
  true=Tryz.pinned.checked.prog.looks []/\∀ (j:Nat) t,a.params[j]?=some t->Tryz.pinned.checked.prog.wantsStandIn t=false:=by
 obtain rfl : f = 9 := Si ((show Tryz.prog.funcNamed "klippe/klippelaw27.ConflictRefutes" = some 9 by kernel_rfl).symm.trans c) |>.symm;obtain rfl:a=Tryz.f9:=(Si (Tryz.func9.symm.trans d)).symm;refine ⟨by kernel_rfl,fun j t b=>?_⟩;rw [Tryz.params9] at b;have hm:=Array.mem_of_getElem? b;simp only [List.mem_toArray,QU,RV,S9] at hm;rcases hm with rfl | rfl | rfl
 ·exact (show Tryz.prog.wantsStandIn 31=false by kernel_rfl)
 ·exact (show Tryz.prog.wantsStandIn 5=false by kernel_rfl)
 exact (show Tryz.prog.wantsStandIn 89=false by kernel_rfl)
end lawConflictRefutes
theorem conflictRefutes_card:Rows.ConflictRefutesCardSaid :=
 Claim7.holds_tied_plain_at .later [] _ _ _ _ lawConflictRefutes.said (fun _ h=>by cases h) kr_ (fun _ h=>by cases h) conflictRefutes_row_tie rfl ⟨rfl,rfl⟩ kr_ rfl lawConflictRefutes.plain kr_
#print axioms conflictRefutes_card
end Go.Proofs.YthnpijdjlddpmaaGreatDoor
