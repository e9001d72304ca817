/- FOR ANY PLAN, ANY OBSERVATION AND ANY LIST OF INTS ConflictErrors ANSWERS true, and leaves them as they were. -/
import Derived.Test.YthnpijdjlddpmaaGreatDoorG15
import Derived.Test.YthnpijdjlddpmaaGreatDoorShelf
namespace Go.Proofs.YthnpijdjlddpmaaGreatDoor
open Go Go.Jog
set_option maxRecDepth 100000
section
variable {H:Type} {enc:TypeId × Value->H} {W:World} {spare:Nat->Bool} {held:Bool}
theorem Lf {a:Nat}{v:Value}{x:DataW H × List MemPlace}(h:DataW.trod enc Tryz.prog W 0 spare held a 50 [v]=some x):∃ l:List Int,Sl (mP W) 1 v (l.map jF) :=
 uM jF Tryz.underlying50 kr_ dc_ (fun n cs y b hy=>by
  match cs,b with
  | [c],_ =>
   obtain ⟨s,rfl⟩:=JP hy;exact ⟨s,Z⟩) h
theorem gt {t:TypeId}{n:Nat}{c:Value}{y:DataW H × List MemPlace}(a:Tryz.prog.underlying t=some .string)(h:DataW.trod enc Tryz.prog W 0 spare held n t [c]=some y):∃ s:Str,c=ai s:=by
 obtain ⟨⟨⟨l⟩⟩,h1,_⟩:=DataW.trod_string a h;simp only [Ql,Rm] at h1;exact ⟨l,h1⟩
theorem Ix {P:Program}{t:TypeId}{b:Array Field}{d:Nat}{a:List Value}{x:DataW H × List MemPlace}(e:P.underlying t=some (.struct b))(h:DataW.trod enc P W 0 spare held d t a=some x) :
  a.length=P.cellsOf t/\∃ n,∀ (i:Nat)(f:Field),b[i]?=some f->∃ y,DataW.trod enc P W 0 spare held n f.type ((a.drop f.offset).take (P.cellsOf f.type))=some y:=by
 obtain ⟨xs,n,_,rfl,g,j,k⟩:=DataW.trod_struct e h;refine ⟨g,n,fun i f c=>?_⟩;have h1:=k i f c;have h2:i<xs.length:=by rw [j];exact (Qg.1 c).1
 rw [ak h2] at h1;exact ⟨_,h1⟩
theorem uz {P:Program}{t:TypeId}{c d e f g i j:Field}{k:Nat}{a:List Value}{x:DataW H × List MemPlace}(l:P.underlying t=some (.struct #[c,d,e,f,g,i,j]))(h:DataW.trod enc P W 0 spare held k t a=some x) :
  a.length=P.cellsOf t/\∃ n,(∃ y,DataW.trod enc P W 0 spare held n c.type ((a.drop c.offset).take (P.cellsOf c.type))=some y)/\(∃ y,DataW.trod enc P W 0 spare held n d.type ((a.drop d.offset).take (P.cellsOf d.type))=some y)/\(∃ y,DataW.trod enc P W 0 spare held n e.type ((a.drop e.offset).take (P.cellsOf e.type))=some y)/\(∃ y,DataW.trod enc P W 0 spare held n f.type ((a.drop f.offset).take (P.cellsOf f.type))=some y)/\(∃ y,DataW.trod enc P W 0 spare held n g.type ((a.drop g.offset).take (P.cellsOf g.type))=some y)/\(∃ y,DataW.trod enc P W 0 spare held n i.type ((a.drop i.offset).take (P.cellsOf i.type))=some y)/\(∃ y,DataW.trod enc P W 0 spare held n j.type ((a.drop j.offset).take (P.cellsOf j.type))=some y):=by
 obtain ⟨m,n,b⟩:=Ix l h;exact ⟨m,n,b 0 c Z,b 1 d Z,b 2 e Z,b 3 f Z,b 4 g Z,b 5 i Z,b 6 j Z⟩
theorem M1 {n:Nat}{a:List Value}{y:DataW H × List MemPlace}(h:DataW.trod enc Tryz.prog W 0 spare held n 62 a=some y):∃ o:Obs,a=vS o:=by
 obtain ⟨b,t,⟨_,h0⟩,⟨_,h1⟩,⟨_,h2⟩,⟨_,h3⟩,⟨_,h4⟩,⟨_,h5⟩,⟨_,c⟩⟩:=uz Tryz.underlying62 h;have k:Tryz.prog.cellsOf 62=10:=by kernel_rfl
 have l:Tryz.prog.cellsOf 3=1:=by kernel_rfl
 have m:Tryz.prog.cellsOf 9=1:=by kernel_rfl
 have d:Tryz.prog.cellsOf 56=1:=by kernel_rfl
 have p:Tryz.prog.cellsOf 58=2:=by kernel_rfl
 have q:Tryz.prog.cellsOf 60=3:=by kernel_rfl
 rw [k] at b
 match a,b with
 | [c0,u,c2,v,w,z,A,B,C,D],_ =>
  simp only [l,m,d,p,q] at h0 h1 h2 h3 h4 h5 c;obtain ⟨_,_,_,_,_,e,f⟩:=Go.ChangeShapes.trod_struct2 Tryz.underlying58 h2;obtain ⟨_,_,_,_,_,_,g,i,j⟩:=Go.Deep.trod_struct3 Tryz.underlying60 c;simp only [d] at e f g i j;obtain ⟨kd,rfl⟩:=JP h0;obtain ⟨r,rfl⟩:=gt Tryz.underlying9 h1;obtain ⟨x,rfl⟩:=gt Tryz.underlying56 e;obtain ⟨y,rfl⟩:=gt Tryz.underlying56 f;obtain ⟨s,rfl⟩:=gt Tryz.underlying56 h3;obtain ⟨up,rfl⟩:=gt Tryz.underlying9 h4;obtain ⟨lo,rfl⟩:=gt Tryz.underlying9 h5;obtain ⟨nx,rfl⟩:=gt Tryz.underlying56 g;obtain ⟨ny,rfl⟩:=gt Tryz.underlying56 i;obtain ⟨nz,rfl⟩:=gt Tryz.underlying56 j;exact ⟨⟨kd,r,x,y,s,up,lo,nx,ny,nz⟩,Z⟩
end
open Go Go.Jog Go.ChangeShapes Go.WideShapes Go.ChangeAt Go.RowKit
set_option maxRecDepth 100000
set_option maxHeartbeats 40000000
namespace lawConflictErrors
theorem Ih (a:Os)(b:Array Value):laidMetH Tryz.prog Rows.conflictErrorsRow.laid ((oU a).forCall (fun _ _=>0) ⟨#[],b,[]⟩).memory :=
 laidMet_of_run' 8 kr_ kr_
theorem IR (H:Type)(h:TypeId × Value->H)(W:World)(C:Nat)(b:Array Value)(r D:List (DataW H))(E:List MemPlace)
  (f:∀ (j:Nat) t v,Tryz.f10.params[j]?=some t->b[j]?=some v->Value.okWide Tryz.prog W .any C t v)
  (s:DataW.Whole h Tryz.prog Tryz.f10.params.toList Rows.conflictErrorsSpec.vars false W b.toList r D E) (F:laidMet Tryz.prog Rows.conflictErrorsRow.laid W) :
  Calls Tryz.prog 10 b W fun e u=>∃ v,e=.returned v/\Rows.conflictErrorsSpec.post h Tryz.prog Tryz.f10 false true false false W b v u:=by
 have c:=s;obtain ⟨p,q,I,J,rfl,ac,ad⟩:=s;have w:DataW.TrodAll h Tryz.prog W 0 (fun _=>true) true Tryz.f10.params.toList b.toList r p:=I;rw [Tryz.params10] at w f;obtain ⟨i,ae,d0,af,y,q0,ag,rfl,rfl,h0,K⟩:=trodAll_cons w;obtain ⟨k,ah,d1,ai,z,q1,aj,rfl,rfl,h1,L⟩:=trodAll_cons K;obtain ⟨A,ak,d2,al,B,q2,an,rfl,rfl,h2,M⟩:=trodAll_cons L;obtain ⟨rfl,rfl,rfl⟩:=trodAll_nil M;obtain rfl:b=#[i,k,A]:=by cases b;simp_all
 obtain ⟨rfl,rfl⟩:=trodVars_none J;obtain ⟨N,O,P,Q,R⟩:∃ S G l,Gt (mP W) i S G l/\PlanR S G l:=by
  obtain ⟨cs,rfl,_⟩:=okWide_struct Tryz.underlying31 (f 0 31 i rfl rfl);obtain ⟨n,d⟩:=(id h0);exact KR d
 obtain ⟨o1,rfl⟩:∃ o:Obs,k=.agg ⟨vS o⟩:=by
  obtain ⟨⟨cs⟩,rfl,_⟩:=okWide_struct Tryz.underlying62 (f 1 62 k rfl rfl);obtain ⟨n,d⟩:=(id h1);obtain ⟨o,e⟩:=M1 d;exact ⟨o,congrArg (fun x=>Value.agg ⟨x⟩) e⟩
 obtain ⟨a2,T,U,rfl⟩:=okWide_slice Tryz.underlying50 (f 2 50 A rfl rfl);obtain ⟨l2,V⟩:∃ l:List Int,Sl (mP W) 1 (.slice a2 T U) (l.map jF):=by
  obtain ⟨n,d⟩:=(id h2);exact Lf d
 simp only [OX] at c;have X:∀ x∈y,x.block<W.heap.size:=fun x a=>c.lt x (by simp [a]);have Y:∀ x∈z,x.block<W.heap.size:=fun x a=>c.lt x (by simp [a]);have aa:∀ x∈B,x.block<W.heap.size:=fun x a=>c.lt x (by simp [a]);have ab:=xD (CE (mP W) (Kk F) _ _ N O P o1 l2 Q R V);refine Calls.mono ab fun e u ⟨he,g⟩=>?_;subst he;refine ⟨_,Z,sL (pa:=y++(z++(B++([])))) (pv:=[]) c (fun _ _ _=>trodAll_cons_mk (shut_bool Tryz.underlying4 _) trodAll_mk0) (fun sp m=>?_) (fun _ _=>rfl) am g (ok_one kr_ Z (okWide_bool_mk Tryz.underlying4 _))⟩;exact trodAll_cons_mk (WideElems.Trod_stays tf kr_ (NM kr_) h0 (fun x a=>g.same (X x a)) (fun x a=>m x (by simp [a]))) (trodAll_cons_mk (WideElems.Trod_stays tf kr_ (NM kr_) h1 (fun x a=>g.same (Y x a)) (fun x a=>m x (by simp [a]))) (trodAll_cons_mk (WideElems.Trod_stays tf kr_ (NM kr_) h2 (fun x a=>g.same (aa x a)) (fun x a=>m x (by simp [a]))) (trodAll_mk0)))
theorem NW (a:Os){H:Type}(b:TypeId × Value->H):∃ c,DataW.whole b Tryz.prog ((oU a).forCall (fun _ _=>0) ⟨#[],#[.agg ⟨[.int .u8 0,.int .i8 0,.int .i8 0,.bool false,.int .i8 0,.int .i8 0,.int .i8 0,.int .i8 0,.int .i8 0,.int .i8 0,.bool false,.slice none 0 0]⟩,.agg ⟨[.int .i64 0,.string ⟨#[]⟩,.string ⟨#[]⟩,.string ⟨#[]⟩,.string ⟨#[]⟩,.string ⟨#[]⟩,.string ⟨#[]⟩,.string ⟨#[]⟩,.string ⟨#[]⟩,.string ⟨#[]⟩]⟩,.slice none 0 0],[]⟩).memory Tryz.f10.params.toList Rows.conflictErrorsSpec.vars false (#[.agg ⟨[.int .u8 0,.int .i8 0,.int .i8 0,.bool false,.int .i8 0,.int .i8 0,.int .i8 0,.int .i8 0,.int .i8 0,.int .i8 0,.bool false,.slice none 0 0]⟩,.agg ⟨[.int .i64 0,.string ⟨#[]⟩,.string ⟨#[]⟩,.string ⟨#[]⟩,.string ⟨#[]⟩,.string ⟨#[]⟩,.string ⟨#[]⟩,.string ⟨#[]⟩,.string ⟨#[]⟩,.string ⟨#[]⟩]⟩,.slice none 0 0]:Array Value).toList 8=some ([.agg [.agg [.lit (.int .u8 0),.agg [.lit (.int .i8 0),.lit (.int .i8 0)],.lit (.bool false)],.agg [.agg [.lit (.int .i8 0),.lit (.int .i8 0),.lit (.int .i8 0),.lit (.int .i8 0),.lit (.int .i8 0),.lit (.int .i8 0)],.lit (.bool false)],.nil],.agg [.lit (.int .i64 0),.lit (.string []),.agg [.lit (.string []),.lit (.string [])],.lit (.string []),.lit (.string []),.lit (.string []),.agg [.lit (.string []),.lit (.string []),.lit (.string [])]],.nil],[],c) :=
 ⟨[],by kernel_rfl⟩
theorem M6 (b:Os)(c:b.Started)(H:Type)(a:TypeId × Value->H)(F:Stop.Interp) :
  ReturnsInHanded {} Tryz.checked b 10 .any ((OpenSpec.ofChange Rows.conflictErrorsSpec).preRow a Tryz.prog Tryz.f10 Rows.conflictErrorsRow.domain false Rows.conflictErrorsRow.laid) (((OpenSpec.ofChange Rows.conflictErrorsSpec).at F).post a Tryz.prog Tryz.f10 false true false false):=by
 obtain ⟨m,d⟩:=NW b a;refine returnsInHanded_of_row (C:=Tryz.checked) (s:=OpenSpec.ofChange Rows.conflictErrorsSpec) own c kr_ Tryz.func10
  (witness_row_at (enc:=a) (C:=Tryz.checked) false (oU b) #[.agg ⟨[.int .u8 0,.int .i8 0,.int .i8 0,.bool false,.int .i8 0,.int .i8 0,.int .i8 0,.int .i8 0,.int .i8 0,.int .i8 0,.bool false,.slice none 0 0]⟩,.agg ⟨[.int .i64 0,.string ⟨#[]⟩,.string ⟨#[]⟩,.string ⟨#[]⟩,.string ⟨#[]⟩,.string ⟨#[]⟩,.string ⟨#[]⟩,.string ⟨#[]⟩,.string ⟨#[]⟩,.string ⟨#[]⟩]⟩,.slice none 0 0] rfl kr_ kr_ kr_
   (OpenSpec.preRow_of_cond 8 d kr_ (fun k e=>by cases e) kr_ (Ih b _))) ?_
 intro W f args ds g h i j _ _ _ l _ _;exact IR H a W f args ds g h i j l
theorem Oi {a b:Bool}(h:a=true)(k:b=true):(a && b)=true:=by rw [h,k];rfl
theorem said:Rows.ConflictErrorsSaid :=
 OpenClaim.holds_of_cond 10 Tryz.f10 rfl rfl rfl rfl rfl rfl rfl ⟨rfl,rfl,rfl,rfl,rfl⟩ rfl rfl rfl rfl rfl (by as_aux_lemma=>kernel_rfl) Tryz.func10 (by unfold joinedFacts;(repeat' (with_reducible refine Oi ?_ ?_));all_goals (as_aux_lemma=>kernel_rfl))
  (NM (by as_aux_lemma=>kernel_rfl)) (by unfold Func.isWrapper;first | (rw [aI aq];kernel_rfl) | (rw [aA aq];exact ⟨rfl,rfl⟩))
  (fun os a H enc _ F=>by rw [OpenClaim.pre_eq_preRow];exact M6 os a H enc F)
theorem plain (f : FuncId) (a : Func) (c : Tryz.pinned.checked.prog.funcNamed "klippe/klippelaw27.ConflictErrors" = some f) (d : Tryz.pinned.checked.prog.funcs[f]? = some a) :
  true=Tryz.pinned.checked.prog.looks []/\∀ (j:Nat) t,a.params[j]?=some t->Tryz.pinned.checked.prog.wantsStandIn t=false:=by
 obtain rfl : f = 10 := PS ((show Tryz.prog.funcNamed "klippe/klippelaw27.ConflictErrors" = some 10 by kernel_rfl).symm.trans c) |>.symm;obtain rfl:a=Tryz.f10:=(PS (Tryz.func10.symm.trans d)).symm;refine ⟨by kernel_rfl,fun j t b=>?_⟩;rw [Tryz.params10] at b;have hm:=Array.mem_of_getElem? b;simp only [List.mem_toArray,OE,PL,QW] at hm;rcases hm with rfl | rfl | rfl
 ·exact (show Tryz.prog.wantsStandIn 31=false by kernel_rfl)
 ·exact (show Tryz.prog.wantsStandIn 62=false by kernel_rfl)
 exact (show Tryz.prog.wantsStandIn 50=false by kernel_rfl)
end lawConflictErrors
theorem conflictErrors_card:Rows.ConflictErrorsCardSaid :=
 Claim7.holds_tied_plain_at .later [] _ _ _ _ lawConflictErrors.said (fun _ h=>by cases h) kr_ (fun _ h=>by cases h) conflictErrors_row_tie rfl ⟨rfl,rfl⟩ kr_ rfl lawConflictErrors.plain kr_
#print axioms conflictErrors_card
end Go.Proofs.YthnpijdjlddpmaaGreatDoor
