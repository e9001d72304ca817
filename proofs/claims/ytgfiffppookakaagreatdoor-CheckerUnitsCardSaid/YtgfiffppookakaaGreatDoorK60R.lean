/- FOR ANY PLAN OF A HISTORY, ANY PLACE AND ANY CHANGE OF ITS TRACE CheckerUnits ANSWERS true, and leaves them as they were. -/
import Derived.Test.YtgfiffppookakaaGreatDoorG14
import Derived.Test.YtgfiffppookakaaGreatDoorShelf
namespace Go.Proofs.YtgfiffppookakaaGreatDoor
open Go Go.Jog Go.ChangeShapes Go.WideShapes Go.ChangeAt Go.RowKit
set_option maxRecDepth 100000
set_option maxHeartbeats 40000000

namespace lawCheckerUnits
theorem EV (os:Os)(args:Array Value):laidMetH Tryz.prog Rows.checkerUnitsRow.laid ((m5 os).forCall (fun _ _=>0) ⟨#[],args,[]⟩).memory :=
 laidMet_of_run' 8 kr_ kr_
theorem Fq (H:Type)(enc:TypeId × Value->H)(W:World)(base:Nat)(args:Array Value)(ds gs:List (DataW H))(before:List MemPlace)
  (hval:∀ (j:Nat) t v,Tryz.f3.params[j]?=some t->args[j]?=some v->Value.okWide Tryz.prog W .any base t v)
  (hW:DataW.Whole enc Tryz.prog Tryz.f3.params.toList Rows.checkerUnitsSpec.vars false W args.toList ds gs before) (hL:laidMet Tryz.prog Rows.checkerUnitsRow.laid W) :
  Calls Tryz.prog 3 args W fun e W'=>∃ v,e=.returned v/\Rows.checkerUnitsSpec.post enc Tryz.prog Tryz.f3 false true false false W args v W':=by
 have hW':=hW;obtain ⟨p,q,hA0,hV,rfl,hfz,hnd⟩:=hW;have hA:DataW.TrodAll enc Tryz.prog W 0 (fun _=>true) true Tryz.f3.params.toList args.toList ds p:=hA0;rw [Tryz.params3] at hA hval;obtain ⟨v0,vs0,d0,ds0,p0,q0,hargs0,rfl,rfl,h0,r0⟩:=trodAll_cons hA;obtain ⟨v1,vs1,d1,ds1,p1,q1,hargs1,rfl,rfl,h1,r1⟩:=trodAll_cons r0;obtain ⟨v2,vs2,d2,ds2,p2,q2,hargs2,rfl,rfl,h2,r2⟩:=trodAll_cons r1;obtain ⟨rfl,rfl,rfl⟩:=trodAll_nil r2;obtain rfl:args=#[v0,v1,v2]:=by cases args;simp_all
 obtain ⟨rfl,rfl⟩:=trodVars_none hV;obtain ⟨S0,A0,c0,l0,rfl,hS0,hl0,hR0⟩:∃ (S:Sht)(A:Option Addr)(c:Nat)(l:List Deed),v0=.agg ⟨[.int .u8 S.kd,.int .i8 S.a,.int .i8 S.b,.bool S.h,.slice A l.length c]⟩/\S.kd<256/\Sl (ol W) 12 (.slice A l.length c) (l.map jY)/\∀ s∈l,DeedR s:=by
  obtain ⟨cs,rfl,_⟩:=okWide_struct Tryz.underlying28 (hval 0 28 v0 rfl rfl);obtain ⟨n,hn⟩:=(id h0);obtain ⟨S,A,c,l,e,g⟩:=Hc hn;exact ⟨S,A,c,l,congrArg (fun x=>Value.agg ⟨x⟩) e,g⟩
 obtain ⟨x1,y1,z1,rfl,hx1,hy1,hz1⟩:∃ a b c:Int,v1=.agg ⟨[.int .i8 a,.int .i8 b,.int .i8 c]⟩/\(-128<=a/\a<=127)/\(-128<=b/\b<=127)/\(-128<=c/\c<=127):=by
  obtain ⟨⟨cs⟩,rfl,hsz⟩:=qy Tryz.underlying29 (hval 1 29 v1 rfl rfl);have hc:Tryz.prog.cellsOf 29=3:=by kernel_rfl
  obtain ⟨n,hn⟩:=(id h1);obtain ⟨a,b,c,e,g⟩:=BZ Tryz.underlying29 hn (by rw [hc] at hsz;exact hsz);exact ⟨a,b,c,congrArg (fun x=>Value.agg ⟨x⟩) e,g⟩
 obtain ⟨how2,at2,by2,sb2,rfl,hh2,ha2,hb2,hc2⟩:∃ (how at_:Nat)(by':Int)(s:Str),v2=.agg ⟨[.int .u8 how,.int .u8 at_,.int .i8 by',aA s]⟩/\how<256/\at_<256/\-128<=by'/\by'<=127:=by
  obtain ⟨cs,rfl,_⟩:=okWide_struct Tryz.underlying31 (hval 2 31 v2 rfl rfl);obtain ⟨n,hn⟩:=(id h2);obtain ⟨how,at_,by',s,e,g⟩:=GV hn;exact ⟨how,at_,by',s,congrArg (fun x=>Value.agg ⟨x⟩) e,g⟩
 simp only [LY] at hW';have hlt0:∀ x∈p0,x.block<W.heap.size:=fun x hx=>hW'.lt x (by simp [hx]);have hlt1:∀ x∈p1,x.block<W.heap.size:=fun x hx=>hW'.lt x (by simp [hx]);have hlt2:∀ x∈p2,x.block<W.heap.size:=fun x hx=>hW'.lt x (by simp [hx]);have main:=uG (BC (ol W) (GZ hL) S0 A0 c0 l0 x1 y1 z1 how2 at2 by2 sb2 hS0 hl0 hR0 hx1 hy1 hz1 hh2 ha2 ⟨hb2,hc2⟩);refine Calls.mono main fun e W' ⟨he,hb⟩=>?_;subst he;refine ⟨_,Z,qx (pa:=p0++(p1++(p2++([])))) (pv:=[]) hW' (fun _ _ _=>trodAll_cons_mk (shut_bool Tryz.underlying4 _) trodAll_mk0) (fun sp hsp=>?_) (fun _ _=>rfl) (by simp) hb (ok_one kr_ Z (okWide_bool_mk Tryz.underlying4 _))⟩;exact trodAll_cons_mk (WideElems.Trod_stays qM kr_ (bi kr_) h0 (fun x hx=>hb.same (hlt0 x hx)) (fun x hx=>hsp x (by simp [hx]))) (trodAll_cons_mk (WideElems.Trod_stays qM kr_ (bi kr_) h1 (fun x hx=>hb.same (hlt1 x hx)) (fun x hx=>hsp x (by simp [hx]))) (trodAll_cons_mk (WideElems.Trod_stays qM kr_ (bi kr_) h2 (fun x hx=>hb.same (hlt2 x hx)) (fun x hx=>hsp x (by simp [hx]))) (trodAll_mk0)))

theorem Kt (os:Os){H:Type}(enc:TypeId × Value->H):∃ places,DataW.whole enc Tryz.prog ((m5 os).forCall (fun _ _=>0) ⟨#[],#[.agg ⟨[.int .u8 0,.int .i8 0,.int .i8 0,.bool false,.slice none 0 0]⟩,.agg ⟨[.int .i8 0,.int .i8 0,.int .i8 0]⟩,.agg ⟨[.int .u8 0,.int .u8 0,.int .i8 0,.string ⟨#[]⟩]⟩],[]⟩).memory Tryz.f3.params.toList Rows.checkerUnitsSpec.vars false (#[.agg ⟨[.int .u8 0,.int .i8 0,.int .i8 0,.bool false,.slice none 0 0]⟩,.agg ⟨[.int .i8 0,.int .i8 0,.int .i8 0]⟩,.agg ⟨[.int .u8 0,.int .u8 0,.int .i8 0,.string ⟨#[]⟩]⟩]:Array Value).toList 8=some ([.agg [.agg [.lit (.int .u8 0),.agg [.lit (.int .i8 0),.lit (.int .i8 0)],.lit (.bool false)],.nil],.agg [.lit (.int .i8 0),.lit (.int .i8 0),.lit (.int .i8 0)],.agg [.lit (.int .u8 0),.lit (.int .u8 0),.lit (.int .i8 0),.lit (.string [])]],[],places) :=
 ⟨[],by kernel_rfl⟩

theorem Ju (os:Os)(started:os.Started)(H:Type)(enc:TypeId × Value->H)(F:Stop.Interp) :
  ReturnsInHanded {} Tryz.checked os 3 .any ((OpenSpec.ofChange Rows.checkerUnitsSpec).preRow enc Tryz.prog Tryz.f3 Rows.checkerUnitsRow.domain false Rows.checkerUnitsRow.laid) (((OpenSpec.ofChange Rows.checkerUnitsSpec).at F).post enc Tryz.prog Tryz.f3 false true false false):=by
 obtain ⟨places,hx⟩:=Kt os enc;refine returnsInHanded_of_row (C:=Tryz.checked) (s:=OpenSpec.ofChange Rows.checkerUnitsSpec) own started kr_ Tryz.func3
  (witness_row_at (enc:=enc) (C:=Tryz.checked) false (m5 os) #[.agg ⟨[.int .u8 0,.int .i8 0,.int .i8 0,.bool false,.slice none 0 0]⟩,.agg ⟨[.int .i8 0,.int .i8 0,.int .i8 0]⟩,.agg ⟨[.int .u8 0,.int .u8 0,.int .i8 0,.string ⟨#[]⟩]⟩] rfl kr_ kr_ kr_
   (OpenSpec.preRow_of_cond 8 hx kr_ (fun k hk=>by cases hk) kr_ (EV os _))) ?_
 intro W base args ds gs before hval hW _ _ _ hL _ _;exact Fq H enc W base args ds gs before hval hW hL

theorem KM {a b:Bool}(h:a=true)(k:b=true):(a && b)=true:=by rw [h,k];rfl
theorem said:Rows.CheckerUnitsSaid :=
 OpenClaim.holds_of_cond 3 Tryz.f3 rfl rfl rfl rfl rfl rfl rfl ⟨rfl,rfl,rfl,rfl,rfl⟩ rfl rfl rfl rfl rfl (by as_aux_lemma=>kernel_rfl) Tryz.func3 (by unfold joinedFacts;(repeat' (with_reducible refine KM ?_ ?_));all_goals (as_aux_lemma=>kernel_rfl))
  (bi (by as_aux_lemma=>kernel_rfl)) (by unfold Func.isWrapper;first | (rw [bW (by decide +kernel)];kernel_rfl) | (rw [a7 (by decide +kernel)];exact ⟨rfl,rfl⟩))
  (fun os started H enc _ F=>by rw [OpenClaim.pre_eq_preRow];exact Ju os started H enc F)

theorem plain (f : FuncId) (fn : Func) (hf : Tryz.pinned.checked.prog.funcNamed "klippe/klippelaw55.CheckerUnits" = some f) (hfn : Tryz.pinned.checked.prog.funcs[f]? = some fn) :
  true=Tryz.pinned.checked.prog.looks []/\∀ (j:Nat) t,fn.params[j]?=some t->Tryz.pinned.checked.prog.wantsStandIn t=false:=by
 obtain rfl : f = 3 := LJ ((show Tryz.prog.funcNamed "klippe/klippelaw55.CheckerUnits" = some 3 by kernel_rfl).symm.trans hf) |>.symm;obtain rfl:fn=Tryz.f3:=(LJ (Tryz.func3.symm.trans hfn)).symm;refine ⟨by kernel_rfl,fun j t ht=>?_⟩;rw [Tryz.params3] at ht;have hm:=Array.mem_of_getElem? ht;simp only [List.mem_toArray,cI,L4,Nk] at hm;rcases hm with rfl | rfl | rfl
 ·exact (show Tryz.prog.wantsStandIn 28=false by kernel_rfl)
 ·exact (show Tryz.prog.wantsStandIn 29=false by kernel_rfl)
 ·exact (show Tryz.prog.wantsStandIn 31=false by kernel_rfl)
end lawCheckerUnits

theorem checkerUnits_card:Rows.CheckerUnitsCardSaid :=
 Claim7.holds_tied_plain_at .later [] _ _ _ _ lawCheckerUnits.said (fun _ h=>by cases h) kr_ (fun _ h=>by cases h) checkerUnits_row_tie rfl ⟨rfl,rfl⟩ kr_ rfl lawCheckerUnits.plain kr_
#print axioms checkerUnits_card
end Go.Proofs.YtgfiffppookakaaGreatDoor
