/- Laws that the proofs of this seat share, part 1. -/
import Derived.Deep.Quiet
import Derived.Maps.AppendAt
import Derived.Below
import Derived.KernelRfl
import Derived.Laws.MakeOwn
import Derived.WalkKit
import Derived.Lib.Strings
import Derived.Lib.ConvBytes
import Derived.Laws.StructEq
import Derived.Laws.Tables
import Derived.Laws.BytesString
import Derived.Laws.Cover3
theorem Go.Jog.om_ {p:Prop}(h:p:=by omega):p:=h
theorem Go.Jog.kr_ {p:Prop}(h:p:=by kernel_rfl):p:=h
theorem Go.Jog.fl_ {p:Prop}(h:p:=by intro _;rfl):p:=h
namespace Go.Jog
open Go

section
variable {P:Program} {ops:Array Oper} {ι:Type} {cls:ι->World->Prop} {le:ι->ι->Prop}

def QN (N:Act->World->Prop):Exit->Act->World->Prop
  | .normal,a,w=>N a w
  | _,_,_=>False

theorem wpOp_Q {Q Q':Exit->Act->World->Prop}{i:Nat}{K:Act->World->Prop}{a:Act}{w:World}
    (hq:∀ e a w,(∀ (_:e=.normal),False)->¬ Q e a w) (h:wpOp P ops Q i K a w):wpOp P ops Q' i K a w:=by
  have hl:¬ LetsOut Q:=fun ⟨a,w,h⟩=>hq .outgrown a w (fun e=>by cases e) h
  unfold wpOp at *
  split
  · rename_i ho;simp only [ho] at h;exact h
  · rename_i o ho
    simp only [ho] at h
    split
    · rename_i hw
      simp only [hw,if_true] at h
      rcases h with h | ⟨_,h⟩
      · refine .inl ?_
        unfold Oper.wp at *
        generalize (execOp a.eval o).run P w=r at *
        cases r with
        | ok n w' =>
          cases n <;> simp only [Oper.upon] at h ⊢ <;> try exact h
          case enter f args =>
            refine Calls.mono h fun e w'' he=>?_
            cases e with
            | returned u=>exact he
            | panicked c=>exact absurd he (hq _ _ _ (fun e=>by cases e))
            | outgrown=>exact absurd he hl
        | halt x w' =>
          cases x <;> simp only [Oper.upon] at h ⊢
          case panic u=>exact absurd h (hq _ _ _ (fun e=>by cases e))
      · exact absurd h hl
    · rename_i hw;simp only [hw] at h;exact h

theorem wpAny_Q {Q:Exit->Act->World->Prop}{N:Act->World->Prop}{md:Region.Mode}(hN:∀ a w,N a w->Q .normal a w) :
    ∀ (f:Nat)(listed:Array Bool)(a:Act)(w:World),wpAny P md ops (QN N) f listed a w->wpAny P md ops Q f listed a w
  | 0,_,_,_,h=>⟨h.1,hN _ _ h.2⟩
  | f+1,_,_,_,h=>⟨fun h0=>hN _ _ (h.1 h0),fun i hi =>
      wpOp_mono (fun a' w' h'=>wpAny_Q hN f _ a' w' h') (wpOp_Q (Q:=QN N) (fun e a w he h=>by cases e <;> first | exact he rfl | exact h) (h.2 i hi))⟩

theorem wpOps_Q {Q:Exit->Act->World->Prop}{N:Act->World->Prop}(hN:∀ a w,N a w->Q .normal a w) :
    ∀ (l:List Nat)(a:Act)(w:World),wpOps P ops (QN N) l a w->wpOps P ops Q l a w
  | [],_,_,h=>hN _ _ h
  | i::l,a,w,h=>by
    rw [wpOps_cons] at *
    exact wpOp_mono (fun a' w' h'=>wpOps_Q hN l a' w' h') (wpOp_Q (Q:=QN N) (fun e a w he h=>by cases e <;> first | exact he rfl | exact h) h)

def dT (P:Program)(ops:Array Oper)(cls:ι->World->Prop)(le:ι->ι->Prop)(kd i:Nat)(K:Act->ι->Prop)(a:Act)(κ:ι):Prop :=
  match ops[i]? with
  | none=>False
  | some o =>
    if kd<=1 then ∃ v,(∀ κ',(kd=1->le κ κ')->YieldsIn P ops (cls κ') o v a)/\K (a.put o.dst v) κ
    else ∀ w,cls κ w->wpOp P ops (QN fun _ _=>False) i (fun a' w'=>∃ κ',(kd=2->le κ κ')/\cls κ' w'/\K a' κ') a w

theorem stepU_mono {kd i:Nat}{K K':Act->ι->Prop}{a:Act}{κ:ι}(hk:∀ a κ,K a κ->K' a κ)(h:dT P ops cls le kd i K a κ):dT P ops cls le kd i K' a κ:=by
  unfold dT at *
  split
  · rename_i ho;simp only [ho] at h
  · rename_i o ho
    simp only [ho] at h
    split
    · rename_i hkd;simp only [hkd,if_true] at h
      obtain ⟨v,h1,h2⟩:=h
      exact ⟨v,h1,hk _ _ h2⟩
    · rename_i hkd;simp only [hkd,if_false] at h
      exact fun w hw=>wpOp_mono (fun a' w' ⟨κ',h1,h2,h3⟩=>⟨κ',h1,h2,hk _ _ h3⟩) (h w hw)

theorem wpOp_of_stepU (hrefl:∀ κ,le κ κ){kd i:Nat}{K:Act->ι->Prop}{K':Act->World->Prop}{Q:Exit->Act->World->Prop}{a:Act}{κ:ι}{w:World}(hw:cls κ w)
    (hk:∀ a κ w,K a κ->cls κ w->K' a w) (h:dT P ops cls le kd i K a κ):wpOp P ops Q i K' a w:=by
  unfold dT at h
  cases ho:ops[i]? with
  | none=>simp only [ho] at h
  | some o =>
    simp only [ho] at h
    split at h
    · obtain ⟨v,h1,h2⟩:=h
      exact wpOp_of_qOp (K:=fun a=>K a κ) hw (fun a w' hw' hK=>hk _ _ _ hK hw') (YieldsIn.qOp ho (h1 κ (fun _=>hrefl κ)) h2)
    · exact wpOp_Q (Q:=QN fun _ _=>False) (fun e a w he h=>by cases e <;> exact h) (wpOp_mono (fun a' w' ⟨κ',_,h2,h3⟩=>hk _ _ _ h3 h2) (h w hw))

variable {md:Region.Mode}

def wpAnyU (P:Program)(md:Region.Mode)(ops:Array Oper)(cls:ι->World->Prop)(le:ι->ι->Prop)(kd:Nat->Nat)(Post:Act->ι->Prop):Nat->Array Bool->Act->ι->Prop
  | 0,listed,a,κ=>Region.ready md ops listed=[]/\Post a κ
  | f+1,listed,a,κ=>(Region.ready md ops listed=[]->Post a κ) /\
      ∀ i∈Region.ready md ops listed,dT P ops cls le (kd i) i (wpAnyU P md ops cls le kd Post f (listed.setIfInBounds i true)) a κ

theorem wpAny_of_U (hrefl:∀ κ,le κ κ){kd:Nat->Nat}{Post:Act->ι->Prop}{N:Act->World->Prop}(hN:∀ a κ w,Post a κ->cls κ w->N a w) :
    ∀ (f:Nat)(listed:Array Bool)(a:Act)(κ:ι)(w:World),cls κ w->wpAnyU P md ops cls le kd Post f listed a κ->wpAny P md ops (QN N) f listed a w
  | 0,_,_,_,_,hw,h=>⟨h.1,hN _ _ _ h.2 hw⟩
  | f+1,_,_,_,_,hw,h=>⟨fun h0=>hN _ _ _ (h.1 h0) hw,fun i hi =>
      wpOp_of_stepU hrefl hw (fun a' κ' w' h' hw'=>wpAny_of_U hrefl hN f _ a' κ' w' hw' h') (h.2 i hi)⟩

def waitsT (md:Region.Mode)(ops:Array Oper):Nat->Nat->Nat->Bool
  | 0,_,_=>false
  | f+1,j,i=>match ops[j]? with
    | some oj=>oj.after.any fun e=>Region.binds md e && (e.on == i || waitsT md ops f e.on i)
    | none=>false

def Closed (md:Region.Mode)(ops:Array Oper)(listed:Array Bool):Prop :=
  ∀ j oj,ops[j]?=some oj->listed.getD j false=true->∀ e∈oj.after,Region.binds md e=true->listed.getD e.on false=true

theorem listed_of_waitsT {listed:Array Bool}(hc:Closed md ops listed){i:Nat}:∀ (f j:Nat)(oj:Oper),ops[j]?=some oj ->
    (∀ e∈oj.after,Region.binds md e=true->listed.getD e.on false=true)->waitsT md ops f j i=true->listed.getD i false=true
  | 0,_,_,_,_,h=>by simp [waitsT] at h
  | f+1,j,oj,hj,hl,h=>by
    simp only [waitsT,hj] at h
    obtain ⟨e,he,hb⟩:=Array.any_eq_true'.1 h
    simp only [Bool.and_eq_true,Bool.or_eq_true,beq_iff_eq] at hb
    have h1:=hl e he hb.1
    rcases hb.2 with h2 | h2
    · rw [<- h2];exact h1
    · cases hoe:ops[e.on]? with
      | none =>
        cases f with
        | zero=>simp [waitsT] at h2
        | succ f=>simp [waitsT,hoe] at h2
      | some oe=>exact listed_of_waitsT hc f e.on oe hoe (hc e.on oe hoe h1) h2

theorem getD_tf {listed:Array Bool}{i:Nat}(h:listed.getD i true=false):listed.getD i false=false:=by
  rcases Nat.lt_or_ge i listed.size with h' | h'
  · simp [h'] at h ⊢;exact h
  · simp [Array.getElem?_eq_none h'] at h

theorem Closed.set {listed:Array Bool}(hc:Closed md ops listed){i:Nat}(hi:i∈Region.ready md ops listed):Closed md ops (listed.setIfInBounds i true):=by
  obtain ⟨_,oi,hoi,hall⟩:=mem_ready.1 hi
  intro j oj hj hl e he hb
  by_cases hij:i=j
  · subst hij
    obtain rfl:oj=oi:=Option.some.inj (hj.symm.trans hoi)
    exact getD_set_true (hall e he hb)
  · rw [getD_set_ne false hij] at hl
    exact getD_set_true (hc j oj hj hl e he hb)

theorem same_tmps {o:Oper}{C:World->Prop}{v:Value}{a a':Act}(h:YieldsIn P ops C o v a)(ht:a'.tmps=a.tmps):YieldsIn P ops C o v a':=by
  have he:a'.eval=a.eval:=by funext x;cases x <;> simp [Act.eval,ht]
  exact h.of_same (by rw [he]) (by rw [ht])

theorem wpOp_swap {j:Nat}{oi oj:Oper}{v:Value}(hj:ops[j]?=some oj)(hap:oi.apart ops oj=true)
    (hsj:∀ cs b,oj.op≠.select cs b) {K:Act->World->Prop} {a:Act} {w:World}
    (h:wpOp P ops (QN fun _ _=>False) j K (a.put oi.dst v) w) :
    wpOp P ops (QN fun _ _=>False) j (fun a' w'=>(∃ u,a'.tmps=(a.put oj.dst u).tmps)/\K (a'.put oi.dst v) w') a w:=by
  obtain ⟨h1,h2,h3⟩:=Oper.apart_spec hap
  unfold wpOp at *
  simp only [hj] at *
  rw [wanted_put oj a oi.dst v h1] at h
  split
  · rename_i hw
    simp only [hw,if_true] at h
    rcases h with h | ⟨_,hl⟩
    · refine .inl ?_
      unfold Oper.wp at *
      rw [execOp_put oj hsj a oi.dst v h1] at h
      generalize (execOp a.eval oj).run P w=r at *
      cases r with
      | ok n w' =>
        cases n <;> simp only [Oper.upon] at h ⊢
        case value u=>exact ⟨⟨u,rfl⟩,by rw [<- Act.put_comm a v u h2];exact h⟩
        case skip=>exact ⟨⟨undef,rfl⟩,by rw [<- Act.put_comm a v undef h2];exact h⟩
        case defer d =>
          refine ⟨⟨undef,by cases oj.dst <;> rfl⟩, ?_⟩
          rw [<- Act.put_comm _ v undef h2,<- Act.put_defers]
          exact h
        case enter f args =>
          refine Calls.mono h fun e w'' he=>?_
          cases e with
          | returned u=>exact ⟨⟨u,rfl⟩,by rw [<- Act.put_comm a v u h2];exact he⟩
          | panicked c=>exact he
          | outgrown=>exact he
        case row row args=>exact Rows.mono h fun u w'' he=>⟨⟨u,rfl⟩,by rw [<- Act.put_comm a v u h2];exact he⟩
      | halt x w' =>
        cases x <;> simp only [Oper.upon] at h ⊢
        case panic u=>exact h
    · obtain ⟨_,_,h⟩:=hl;exact h.elim
  · rename_i hw
    simp only [hw] at h
    exact ⟨⟨undef,rfl⟩,by rw [<- Act.put_comm a v undef h2];exact h⟩

theorem stepU_swap (htrans:∀ a b c,le a b->le b c->le a c){ki kj j:Nat}{oi oj:Oper}{v:Value}(hj:ops[j]?=some oj)(hap:oi.apart ops oj=true)(hk:ki=0∨kj<=2)
    (hsi:∀ cs b,oi.op≠.select cs b) (hsj:∀ cs b,oj.op≠.select cs b) {K:Act->ι->Prop} {a:Act} {κ:ι}
    (hy:∀ κ',(ki=1->le κ κ')->YieldsIn P ops (cls κ') oi v a) (h:dT P ops cls le kj j K (a.put oi.dst v) κ) :
    dT P ops cls le kj j (fun a' κ'=>(∀ κ'',(ki=1->le κ' κ'')->YieldsIn P ops (cls κ'') oi v a')/\K (a'.put oi.dst v) κ') a κ:=by
  obtain ⟨h1,h2,h3⟩:=Oper.apart_spec hap
  have keep:∀ (a':Act) u,a'.tmps=(a.put oj.dst u).tmps->∀ κ',(ki=1->le κ κ')->YieldsIn P ops (cls κ') oi v a':=fun a' u ht κ' hκ =>
    same_tmps ((hy κ' hκ).of_same (execOp_put oi hsi a oj.dst u h3) (wanted_put oi a oj.dst u h3)) ht
  unfold dT at *
  simp only [hj] at h ⊢
  split
  · rename_i hkd
    simp only [hkd,if_true] at h
    obtain ⟨u,hu,hK⟩:=h
    refine ⟨u,fun κ' hκ=>?_,keep _ u rfl,by rw [<- Act.put_comm a v u h2];exact hK⟩
    have:=hu κ' hκ
    exact this.of_same (execOp_put oj hsj a oi.dst v h1).symm (wanted_put oj a oi.dst v h1).symm
  · rename_i hkd
    simp only [hkd,if_false] at h
    intro w hw
    refine wpOp_mono (fun a' w' ⟨⟨u,hu⟩,κ',hle,hc,hK⟩=>⟨κ',hle,hc,fun κ'' hκ=>?_,hK⟩) (wpOp_swap hj hap hsj (h w hw))
    refine keep a' u hu κ'' (fun hki=>?_)
    have hj2:kj=2:=by omega
    exact htrans _ _ _ (hle hj2) (hκ hki)

theorem wpAnyU_first (htrans:∀ a b c,le a b->le b c->le a c){kd:Nat->Nat}{Post:Act->ι->Prop}{i F:Nat}{oi:Oper}{v:Value}(hi:ops[i]?=some oi)(hki:kd i<=1)
    (hsel:∀ (j:Nat)(o:Oper) cs b,ops[j]?=some o->o.op≠.select cs b) :
    ∀ (f:Nat)(listed:Array Bool)(a:Act)(κ:ι),Closed md ops listed ->
      (∀ j oj,ops[j]?=some oj->j≠i->listed.getD j true=false->waitsT md ops F j i=true∨(oi.apart ops oj=true/\(kd i=0∨kd j<=2))) ->
      i∈Region.ready md ops listed->(∀ κ',(kd i=1->le κ κ')->YieldsIn P ops (cls κ') oi v a) ->
      wpAnyU P md ops cls le kd Post f (listed.setIfInBounds i true) (a.put oi.dst v) κ->wpAnyU P md ops cls le kd Post (f+1) listed a κ:=by
  intro f
  have self:∀ (K:Act->ι->Prop)(a:Act)(κ:ι),(∀ κ',(kd i=1->le κ κ')->YieldsIn P ops (cls κ') oi v a)->K (a.put oi.dst v) κ->dT P ops cls le (kd i) i K a κ:=fun K a κ hy hK=>by
    unfold dT
    simp only [hi,hki,if_true]
    exact ⟨v,hy,hK⟩
  induction f with
  | zero =>
    intro listed a κ _ _ hr hy H
    refine ⟨fun h=>(by rw [h] at hr;cases hr),fun j hj=>?_⟩
    by_cases hji:j=i
    · subst hji;exact self _ _ _ hy H
    · have:=ready_mono hj hji
      rw [H.1] at this
      cases this
  | succ f ih =>
    intro listed a κ hcl hfree hr hy H
    refine ⟨fun h=>(by rw [h] at hr;cases hr),fun j hj=>?_⟩
    by_cases hji:j=i
    · subst hji;exact self _ _ _ hy H
    · have h1:=H.2 j (ready_mono hj hji)
      obtain ⟨hjun,oj,hoj,hall⟩:=mem_ready.1 hj
      have hiun:=(mem_ready.1 hr).1
      have hap:oi.apart ops oj=true/\(kd i=0∨kd j<=2):=by
        rcases hfree j oj hoj hji hjun with h | h
        · have:=listed_of_waitsT hcl F j oj hoj hall h
          rw [getD_tf hiun] at this
          cases this
        · exact h
      have h2:=stepU_swap htrans hoj hap.1 hap.2 (fun cs b=>hsel i oi cs b hi) (fun cs b=>hsel j oj cs b hoj) hy h1
      refine stepU_mono (fun a' κ' h3=>ih (listed.setIfInBounds j true) a' κ' (hcl.set hj) (fun k ok hk hne hun=>?_) (ready_mono hr (Ne.symm hji)) h3.1 ?_) h2
      · refine hfree k ok hk hne ?_
        by_cases hjk:j=k
        · subst hjk;exact hjun
        · rw [getD_set_ne true hjk] at hun;exact hun
      · rw [Array.setIfInBounds_comm _ _ hji]
        exact h3.2

def DU (P:Program)(ops:Array Oper)(cls:ι->World->Prop)(le:ι->ι->Prop)(kd:Nat->Nat)(Post:Act->ι->Prop):List Nat->Act->ι->Prop
  | [],a,κ=>Post a κ
  | i::π,a,κ=>dT P ops cls le (kd i) i (DU P ops cls le kd Post π) a κ

def freeT (md:Region.Mode)(ops:Array Oper)(kd:Nat->Nat)(listed:Array Bool)(i:Nat):Bool :=
  match ops[i]? with
  | none=>false
  | some oi=>(List.range ops.size).all fun j=>j == i || listed.getD j true || match ops[j]? with
      | some oj=>(oi.apart ops oj && (kd i == 0 || Nat.ble (kd j) 2)) || waitsT md ops ops.size j i
      | none=>true

def simB (md:Region.Mode)(ops:Array Oper)(kd:Nat->Nat):List Nat->Array Bool->Bool
  | [],listed=>(Region.ready md ops listed).isEmpty
  | i::π,listed=>(bif Nat.ble (kd i) 1 then (Region.ready md ops listed).contains i && freeT md ops kd listed i else (Region.ready md ops listed == [i])) && simB md ops kd π (listed.setIfInBounds i true)

theorem wpAnyU_of_DU (htrans:∀ a b c,le a b->le b c->le a c){kd:Nat->Nat}{Post:Act->ι->Prop}(hsel:Region.noSelect ops=true) :
    ∀ (π:List Nat)(listed:Array Bool)(a:Act)(κ:ι),Closed md ops listed->simB md ops kd π listed=true->DU P ops cls le kd Post π a κ->wpAnyU P md ops cls le kd Post π.length listed a κ
  | [],listed,a,κ,_,hB,h=>⟨by simpa [simB] using hB,h⟩
  | i::π,listed,a,κ,hcl,hB,h=>by
    simp only [simB,Bool.and_eq_true] at hB
    obtain ⟨hB1,hB2⟩:=hB
    by_cases hk:kd i<=1
    · have hb:Nat.ble (kd i) 1=true:=by rw [Nat.ble_eq];exact hk
      rw [hb] at hB1
      simp only [cond_true,Bool.and_eq_true,List.contains_iff_mem] at hB1
      obtain ⟨hr,hf⟩:=hB1
      simp only [DU] at h
      unfold dT at h
      cases ho:ops[i]? with
      | none=>simp only [ho] at h
      | some o =>
        simp only [ho,hk,if_true] at h
        obtain ⟨v,hy,hK⟩:=h
        refine wpAnyU_first (F:=ops.size) htrans ho hk (fun j o cs b=>Region.noSelect_spec hsel j o cs b) π.length listed a κ hcl (fun j oj hj hne hun=>?_) hr hy
          (wpAnyU_of_DU htrans hsel π _ _ κ (hcl.set hr) hB2 hK)
        simp only [freeT,ho,List.all_eq_true,List.mem_range] at hf
        have:=hf j (Array.getElem?_eq_some_iff.1 hj).1
        simp only [hj,Bool.or_eq_true,beq_iff_eq,hne,false_or,hun,Bool.false_eq_true,Bool.and_eq_true,Nat.ble_eq] at this
        rcases this with h1 | h1
        · exact .inr h1
        · exact .inl h1
    · have hb:Nat.ble (kd i) 1=false:=by
        cases hx:Nat.ble (kd i) 1 with
        | false=>rfl
        | true=>exact absurd (by rw [Nat.ble_eq] at hx;exact hx) hk
      rw [hb] at hB1
      simp only [cond_false,beq_iff_eq] at hB1
      have hmem:i∈Region.ready md ops listed:=by rw [hB1];simp
      refine ⟨fun h0=>(by rw [h0] at hB1;cases hB1),fun j hj=>?_⟩
      rw [hB1] at hj
      obtain rfl:j=i:=by simpa using hj
      exact stepU_mono (fun a' κ' h'=>wpAnyU_of_DU htrans hsel π _ a' κ' (hcl.set hmem) hB2 h') h

structure Cw (P:Program) where
  wp:Code->(Exit->Act->World->Prop)->Act->World->Prop
  nd:Array Oper->Prop
  mono:∀ {c:Code}{Q Q':Exit->Act->World->Prop}{a:Act}{w:World},(∀ e a w,Q e a w->Q' e a w)->wp c Q a w->wp c Q' a w
  skip:∀ {Q:Exit->Act->World->Prop}{a:Act}{w:World},Q .normal a w->wp .skip Q a w
  ret:∀ {Q:Exit->Act->World->Prop}{a:Act}{w:World},Q .ret a w->wp .ret Q a w
  exit:∀ {id:Nat}{Q:Exit->Act->World->Prop}{a:Act}{w:World},Q (.exit id) a w->wp (.exit id) Q a w
  seq:∀ {x y:Code}{Q:Exit->Act->World->Prop}{a:Act}{w:World},wp x (Exit.then (wp y Q) Q) a w->wp (.seq x y) Q a w
  block:∀ {id:Nat}{c:Code}{Q:Exit->Act->World->Prop}{a:Act}{w:World},wp c (Exit.inBlock id Q) a w->wp (.block id c) Q a w
  cond:∀ {c:Operand}{x y:Code}{t:Bool}{Q:Exit->Act->World->Prop}{a:Act}{w:World},a.eval c=.bool t->(t=true->wp x Q a w)->(t=false->wp y Q a w)->wp (.cond c x y) Q a w
  loop:∀ {c:Code}{Q:Exit->Act->World->Prop}{a:Act}{w:World}(I:Act->World->Prop)(μ:Act->World->Nat),I a w ->
    (∀ a w,I a w->wp c (Exit.then (fun a' w'=>I a' w'/\μ a' w'<μ a w) Q) a w)->wp (.loop c) Q a w
  region:∀ {id:Nat}{ops:Array Oper}{Q:Exit->Act->World->Prop}{a:Act}{w:World},nd ops->wpOps P ops (QN fun a w=>Q .normal a w) (List.range ops.size) a w->wp (.region id ops false) Q a w
  any:∀ {id:Nat}{ops:Array Oper}{Q:Exit->Act->World->Prop}{a:Act}{w:World},P.follows .mixedOrders=true->nd ops ->
    wpAny P .any ops (QN fun a w=>Q .normal a w) ops.size (Array.replicate ops.size false) a { w with drawn:=w.drawn+1 }->wp (.region id ops true) Q a w

def Cw.plain (P:Program):Cw P where
  wp:=fun c Q a w=>c.wp P Q a w
  nd:=fun _=>True
  mono:=fun h q=>wp_mono q h
  skip:=wp_skip
  ret:=wp_ret
  exit:=wp_exit
  seq:=wp_seq
  block:=wp_block
  cond:=wp_cond_split
  loop:=wp_loop
  region:=fun _ h=>wp_region (wpOps_Q (N:=fun _a _w=>_) (fun _ _ h=>h) _ _ _ h)
  any:=fun hm _ h=>wp_region_any hm (wpAny_Q (N:=fun _a _w=>_) (fun _ _ h=>h) _ _ _ _ h)

theorem wp_region_sim (W:Cw P)(hnd:W.nd ops)(hrefl:∀ κ,le κ κ)(htrans:∀ a b c,le a b->le b c->le a c){kd:Nat->Nat}{Post:Act->ι->Prop}{id:Nat}{Q:Exit->Act->World->Prop}{a:Act}{w:World}{κ:ι}
    (hm:P.follows .mixedOrders=true) (hw:cls κ { w with drawn:=w.drawn+1 }) (π:List Nat)
    (hB:(Region.noSelect ops && (π.length == ops.size) && simB .any ops kd π (Array.replicate ops.size false))=true) (h:DU P ops cls le kd Post π a κ)
    (hN:∀ a κ w,Post a κ->cls κ w->Q .normal a w):W.wp (Code.region id ops true) Q a w:=by
  simp only [Bool.and_eq_true,beq_iff_eq] at hB
  obtain ⟨⟨hs,hl⟩,hsim⟩:=hB
  refine W.any hm hnd ?_
  have h0:Closed .any ops (Array.replicate ops.size false):=fun j oj _ hl=>by
    rcases Nat.lt_or_ge j ops.size with h | h <;> simp [h] at hl
  have:=wpAnyU_of_DU htrans hs π _ a κ h0 hsim h
  rw [hl] at this
  exact wpAny_of_U hrefl hN _ _ _ _ _ hw this

theorem wpOps_of_DU (hrefl:∀ κ,le κ κ){kd:Nat->Nat}{Post:Act->ι->Prop}{N:Act->World->Prop}(hN:∀ a κ w,Post a κ->cls κ w->N a w) :
    ∀ (π:List Nat)(a:Act)(κ:ι)(w:World),cls κ w->DU P ops cls le kd Post π a κ->wpOps P ops (QN N) π a w
  | [],_,_,_,hw,h=>hN _ _ _ h hw
  | i::π,a,κ,w,hw,h=>by
    rw [wpOps_cons]
    exact wpOp_of_stepU hrefl hw (fun a' κ' w' h' hw'=>wpOps_of_DU hrefl hN π a' κ' w' hw' h') h

theorem wp_region_seq (W:Cw P)(hnd:W.nd ops)(hrefl:∀ κ,le κ κ){kd:Nat->Nat}{Post:Act->ι->Prop}{id:Nat}{Q:Exit->Act->World->Prop}{a:Act}{w:World}{κ:ι}
    (hw:cls κ w) (h:DU P ops cls le kd Post (List.range ops.size) a κ) (hN:∀ a κ w,Post a κ->cls κ w->Q .normal a w):W.wp (Code.region id ops false) Q a w :=
  W.region hnd (wpOps_of_DU hrefl hN _ _ _ _ hw h)
end
end Go.Jog
namespace Go.Jog
open Go

abbrev Mem:=Nat->Option Obj
def Mem.le (C D:Mem):Prop:=∀ b o,C b=some o->D b=some o
theorem Mem.le.refl (C:Mem):C.le C:=fun _ _ h=>h
theorem Mem.le.trans {C D E:Mem}(h:C.le D)(k:D.le E):C.le E:=fun b o hb=>k b o (h b o hb)

theorem mup {C D:Mem}(h:C.le D:=by (repeat (first | exact Mem.le.refl _ | assumption | (apply Mem.le.trans;rotate_left;assumption)))):C.le D:=h
inductive Ent where
  | obj (b:Nat) (o:Obj)
  | arr (v:Value) (e:TypeId) (size n:Nat) (xs:List Value)

def Ent.own:Ent->Nat->Prop
  | .obj b _,k=>k=b
  | .arr v _ _ _ _,k=>v.ownBlock=some k

def Ent.holds (w:World):Ent->Prop
  | .obj b o=>w.heap[b]?=some o
  | .arr v e s n xs=>w.ownsRow 0 e s v n xs

def owns (L:List Ent)(k:Nat):Prop:=∃ x∈L,x.own k

structure Sep (C:Mem)(L:List Ent)(w:World):Prop where
  c:∀ b o,C b=some o->w.heap[b]?=some o
  e:∀ x∈L,x.holds w
  d:L.Pairwise fun x y=>∀ k,x.own k->¬ y.own k
  n:∀ k,owns L k->C k=none

structure Ev (F:Nat->Prop)(w w':World):Prop where
  os:w'.os=w.os
  tape:w'.tape=w.tape
  output:w'.output=w.output
  size:w.heap.size<=w'.heap.size
  block:∀ k,k<w.heap.size->¬ F k->w'.heap[k]?=w.heap[k]?
  drawn:w.drawn<=w'.drawn

theorem Ev.refl (F:Nat->Prop)(w:World):Ev F w w:=⟨rfl,rfl,rfl,Nat.le_refl _,fun _ _ _=>rfl,Nat.le_refl _⟩
theorem Ev.trans {F G:Nat->Prop}{a b c:World}(h:Ev F a b)(k:Ev G b c)(hg:∀ i,G i->F i∨a.heap.size<=i):Ev F a c :=
  ⟨k.os.trans h.os,k.tape.trans h.tape,k.output.trans h.output,Nat.le_trans h.size k.size,fun i hi hf =>
    (k.block i (Nat.lt_of_lt_of_le hi h.size) (fun hgi=>(hg i hgi).elim hf (fun h=>absurd h om_))).trans (h.block i hi hf),Nat.le_trans h.drawn k.drawn⟩
theorem Ev.mono {F G:Nat->Prop}{a b:World}(h:Ev F a b)(hg:∀ i,i<a.heap.size->F i->G i):Ev G a b :=
  ⟨h.os,h.tape,h.output,h.size,fun i hi hf=>h.block i hi (fun hF=>hf (hg i hi hF)),h.drawn⟩
theorem Ev.below {a b:World}{F:Nat->Prop}(h:Ev F a b)(hF:∀ k,¬ F k):RowKit.Below a.heap.size a b:=⟨h.os,h.tape,h.output,h.size,fun k hk=>h.block k hk (hF k)⟩

structure St (w0:World)(C0:Mem)(L0:List Ent)(C:Mem)(L:List Ent)(w:World):Prop where
  sep:Sep C L w
  ev:Ev (owns L0) w0 w
  c0:C0.le C
  cn:∀ k o,C k=some o->C0 k=some o∨w0.heap.size<=k∨owns L0 k
  ln:∀ k,owns L k->w0.heap.size<=k∨owns L0 k

theorem ask_drawn {α:Type}:∀ (q:Ask α)(w:World),w.drawn<=(w.ask q).2.drawn
  | .done a,w=>Nat.le_refl _
  | .ask what range k,w=>by
    unfold World.ask
    simp only
    split
    · exact ask_drawn (k 0) w
    · exact Nat.le_trans (Nat.le_succ _) (ask_drawn (k _) { w with drawn:=w.drawn+1 })

theorem sys_drawn (w:World)(c:Sys):w.drawn<=(w.sys c).2.drawn:=by
  unfold World.sys
  have:=ask_drawn (Kernel.perform c w.os) w
  split
  · exact Nat.le_refl _
  · rename_i r os w1 h
    rw [h] at this
    exact this

theorem viewStore_drawn {p:Program}{w w':World}{at_:Addr}{u:TypeId}{k:Addr}{v:Value}{b:Bool}{as:List Addr}(h:w.viewStore p at_ u k v b=.ok (w',as)):w'.drawn=w.drawn:=by
  unfold World.viewStore at h
  simp only [bind,Except.bind,pure,Except.pure] at h
  repeat' split at h
  all_goals first | (cases h;done) | skip
  all_goals (repeat' split at h)
  all_goals first | (cases h;rfl) | (cases h;done) | skip

theorem farStore_drawn {p:Program}{w w':World}{a:Addr}{v:Value}{b:Bool}{as:List Addr}(h:w.farStore p a v b=.ok (w',as)):w'.drawn=w.drawn:=by
  unfold World.farStore at h
  split at h
  · split at h
    · rename_i r hr;cases h;exact viewStore_drawn hr
    · cases h
  · cases h

theorem a6 {p:Program}{α:Type}:∀ (s:Sem α){w w':World}{v:α},s.run p w=.ok v w'->w.drawn<=w'.drawn
  | .pure a,w,w',v,h=>by simp only [Sem.run] at h;cases h;exact Nat.le_refl _
  | .load m a k,w,w',v,h=>by
    simp only [Sem.run] at h
    split at h
    · exact a6 (k _) h
    · split at h
      · exact a6 (k _) h
      · cases h
  | .store m a u k,w,w',v,h=>by
    cases u <;> simp only [Sem.run] at h <;> first
      | (cases h;done)
      | (split at h
         · split at h
           · cases h
           · have q:=a6 k h
             exact q
         · split at h
           · rename_i hf
             exact Nat.le_trans (Nat.le_of_eq (farStore_drawn hf).symm) (a6 k h)
           · cases h)
  | .new o k,w,w',v,h=>by
    simp only [Sem.run] at h
    have q:=a6 (k _) h
    exact q
  | .shape r k,w,w',v,h=>by simp only [Sem.run] at h;exact a6 (k _) h
  | .freeze a n k,w,w',v,h=>by
    simp only [Sem.run] at h
    refine Nat.le_trans ?_ (a6 k h)
    unfold World.freeze
    split <;> exact Nat.le_refl _
  | .frozen a k,w,w',v,h=>by simp only [Sem.run] at h;exact a6 (k _) h
  | .getObj r k,w,w',v,h=>by
    simp only [Sem.run] at h
    split at h
    · cases h
    · exact a6 (k _) h
    · cases h
  | .setObj r o k,w,w',v,h=>by
    simp only [Sem.run] at h
    split at h
    · cases h
    · have q:=a6 k h
      exact q
    · cases h
  | .choose q k,w,w',v,h=>by
    simp only [Sem.run] at h
    split at h
    · exact a6 (k _) h
    · have q:=a6 (k _) h
      exact Nat.le_trans (Nat.le_succ _) q
  | .sys c k,w,w',v,h=>by simp only [Sem.run] at h;exact Nat.le_trans (sys_drawn w c) (a6 (k _) h)
  | .program k,w,w',v,h=>by simp only [Sem.run] at h;exact a6 (k _) h
  | .mark m k,w,w',v,h=>by simp only [Sem.run] at h;exact a6 k h
  | .halt x,w,w',v,h=>by simp only [Sem.run] at h;cases h

theorem cI {w:World}{k:Nat}{o:Obj}(h:w.heap[k]?=some o):k<w.heap.size:=(Array.getElem?_eq_some_iff.1 h).1

theorem Ent.lt {w:World}{x:Ent}{k:Nat}(h:x.holds w)(ho:x.own k):k<w.heap.size:=by
  cases x with
  | obj b o=>simp only [Ent.own] at ho;subst ho;exact cI h
  | arr v e s n xs=>exact (World.ownsRow.lt h k ho).2

theorem Sep.lt {C:Mem}{L:List Ent}{w:World}(h:Sep C L w){k:Nat}(ho:owns L k):k<w.heap.size:=by
  obtain ⟨x,hx,hk⟩:=ho
  exact Ent.lt (h.e x hx) hk

theorem Ent.holds_of {w w':World}{x:Ent}(h:x.holds w)(hb:∀ k,x.own k->w'.heap[k]?=w.heap[k]?):x.holds w':=by
  cases x with
  | obj b o=>exact (hb b rfl).trans h
  | arr v e s n xs =>
    refine ⟨h.1, ?_⟩
    rcases h.2 with h2 | ⟨g,cap,cur,hv,hg,hh,r⟩
    · exact .inl h2
    · exact .inr ⟨g,cap,cur,hv,hg,(hb g (by simp [Ent.own,hv,Value.ownBlock])).trans hh,r⟩

theorem St.start {C:Mem}{L:List Ent}{w:World}(h:Sep C L w):St w C L C L w :=
  ⟨h,Ev.refl _ _,Mem.le.refl _,fun _ _ hk=>.inl hk,fun _ hk=>.inr hk⟩

section
variable {w0:World} {C0:Mem} {L0:List Ent} {C:Mem} {L:List Ent} {w w':World}

theorem St.same (h:St w0 C0 L0 C L w)(ho:w'.os=w.os)(ht:w'.tape=w.tape)(hp:w'.output=w.output)(hh:w'.heap=w.heap)(hd:w.drawn<=w'.drawn):St w0 C0 L0 C L w' :=
  ⟨⟨fun b o hb=>by rw [hh];exact h.sep.c b o hb,fun x hx=>Ent.holds_of (h.sep.e x hx) (fun k _=>by rw [hh]),h.sep.d,h.sep.n⟩,
   ⟨ho.trans h.ev.os,ht.trans h.ev.tape,hp.trans h.ev.output,by rw [hh];exact h.ev.size,fun k hk hf=>by rw [hh];exact h.ev.block k hk hf,Nat.le_trans h.ev.drawn hd⟩,h.c0,h.cn,h.ln⟩

theorem St.drew (h:St w0 C0 L0 C L w):St w0 C0 L0 C L w.drew:=h.same rfl rfl rfl rfl (Nat.le_succ _)

theorem St.perm {L':List Ent}(h:St w0 C0 L0 C L w)(hp:L.Perm L'):St w0 C0 L0 C L' w:=by
  have ho:∀ k,owns L' k->owns L k:=fun k ⟨x,hx,hk⟩=>⟨x,hp.mem_iff.2 hx,hk⟩
  exact ⟨⟨h.sep.c,fun x hx=>h.sep.e x (hp.mem_iff.2 hx),(hp.pairwise_iff (fun {x y} hxy k hy hx=>hxy k hx hy)).1 h.sep.d,fun k hk=>h.sep.n k (ho k hk)⟩,h.ev,h.c0,h.cn,fun k hk=>h.ln k (ho k hk)⟩

theorem St.drop {x:Ent}(h:St w0 C0 L0 C (x::L) w):St w0 C0 L0 C L w :=
  ⟨⟨h.sep.c,fun y hy=>h.sep.e y (by simp [hy]),(List.pairwise_cons.1 h.sep.d).2,fun k ⟨y,hy,hk⟩=>h.sep.n k ⟨y,by simp [hy],hk⟩⟩,h.ev,h.c0,h.cn,fun k ⟨y,hy,hk⟩=>h.ln k ⟨y,by simp [hy],hk⟩⟩

theorem St.alloc (h:St w0 C0 L0 C L w)(o:Obj):St w0 C0 L0 C (.obj w.heap.size o::L) (w.alloc o):=by
  have old:∀ k,k<w.heap.size->(w.alloc o).heap[k]?=w.heap[k]?:=fun k hk=>RowKit.Below.heap_alloc w o k hk
  refine ⟨⟨fun b o' hb=>?_,fun x hx=>?_,List.pairwise_cons.2 ⟨fun y hy k hk hyk=>?_,h.sep.d⟩,fun k ⟨x,hx,hk⟩=>?_⟩, ?_,h.c0,h.cn,fun k ⟨x,hx,hk⟩=>?_⟩
  · have:=h.sep.c b o' hb
    exact (old b (cI this)).trans this
  · rcases List.mem_cons.1 hx with rfl | hx
    · exact heap_alloc_new w o
    · exact Ent.holds_of (h.sep.e x hx) (fun k hk=>old k (Ent.lt (h.sep.e x hx) hk))
  · have:=Ent.lt (h.sep.e y hy) hyk
    simp only [Ent.own] at hk
    omega
  · rcases List.mem_cons.1 hx with rfl | hx
    · simp only [Ent.own] at hk
      subst hk
      cases hc:C w.heap.size with
      | none=>rfl
      | some o'=>exact absurd (cI (h.sep.c _ _ hc)) om_
    · exact h.sep.n k ⟨x,hx,hk⟩
  · exact ⟨h.ev.os,h.ev.tape,h.ev.output,by have:=h.ev.size;simp;omega,fun k hk hf=>(old k (Nat.lt_of_lt_of_le hk h.ev.size)).trans (h.ev.block k hk hf),h.ev.drawn⟩
  · rcases List.mem_cons.1 hx with rfl | hx
    · simp only [Ent.own] at hk
      subst hk
      exact .inl h.ev.size
    · exact h.ln k ⟨x,hx,hk⟩

def Mem.set (C:Mem)(b:Nat)(o:Obj):Mem:=fun k=>if k=b then some o else C k
theorem Mem.set_self (C:Mem)(b:Nat)(o:Obj):(C.set b o) b=some o:=by simp [Mem.set]
theorem Mem.le_set {C:Mem}{b:Nat}{o:Obj}(h:C b=none):C.le (C.set b o):=fun k o' hk=>by
  unfold Mem.set
  split
  · rename_i e;subst e;rw [h] at hk;cases hk
  · exact hk

theorem St.freeze {b:Nat}{o:Obj}(h:St w0 C0 L0 C (.obj b o::L) w):C.le (C.set b o)/\St w0 C0 L0 (C.set b o) L w:=by
  have hb:C b=none:=h.sep.n b ⟨_,List.mem_cons_self ..,rfl⟩
  have hd:=List.pairwise_cons.1 h.sep.d
  have hl:=Mem.le_set (o:=o) hb
  refine ⟨hl,⟨fun k o' hk=>?_,fun x hx=>h.sep.e x (by simp [hx]),hd.2,fun k hk=>?_⟩,h.ev,h.c0.trans hl,fun k o' hk=>?_,fun k ⟨x,hx,hk⟩=>h.ln k ⟨x,by simp [hx],hk⟩⟩
  · unfold Mem.set at hk
    split at hk
    · rename_i e;subst e;cases hk;exact h.sep.e _ (List.mem_cons_self ..)
    · exact h.sep.c k o' hk
  · obtain ⟨x,hx,hk⟩:=hk
    have h1:=h.sep.n k ⟨x,by simp [hx],hk⟩
    unfold Mem.set
    split
    · rename_i e
      exact absurd hk (hd.1 x hx k e)
    · exact h1
  · unfold Mem.set at hk
    split at hk
    · rename_i e;subst e;rcases h.ln k ⟨_,List.mem_cons_self ..,rfl⟩ with h1 | h1
      · exact .inr (.inl h1)
      · exact .inr (.inr h1)
    · exact h.cn k o' hk

theorem St.put {b:Nat}{o o':Obj}(h:St w0 C0 L0 C (.obj b o::L) w)(hw:w'.heap[b]?=some o')(hk:∀ k,k≠b->w'.heap[k]?=w.heap[k]?)(hs:w'.heap.size=w.heap.size)
    (h1:w'.os=w.os) (h2:w'.tape=w.tape) (h3:w'.output=w.output) (h4:w.drawn<=w'.drawn):St w0 C0 L0 C (.obj b o'::L) w':=by
  have hd:=List.pairwise_cons.1 h.sep.d
  have hb:C b=none:=h.sep.n b ⟨_,List.mem_cons_self ..,rfl⟩
  refine ⟨⟨fun k o'' hc=>?_,fun x hx=>?_,List.pairwise_cons.2 ⟨hd.1,hd.2⟩,fun k ⟨x,hx,hkx⟩=>?_⟩, ?_,h.c0,h.cn,fun k ⟨x,hx,hkx⟩=>?_⟩
  · rw [hk k (fun e=>by subst e;rw [hb] at hc;cases hc)];exact h.sep.c k o'' hc
  · rcases List.mem_cons.1 hx with rfl | hx
    · exact hw
    · exact Ent.holds_of (h.sep.e x (by simp [hx])) (fun k hkx=>hk k (fun e=>hd.1 x hx k e hkx))
  · rcases List.mem_cons.1 hx with rfl | hx
    · exact h.sep.n k ⟨_,List.mem_cons_self ..,hkx⟩
    · exact h.sep.n k ⟨x,by simp [hx],hkx⟩
  · refine ⟨h1.trans h.ev.os,h2.trans h.ev.tape,h3.trans h.ev.output,by rw [hs];exact h.ev.size,fun k hk0 hf=>?_,Nat.le_trans h.ev.drawn h4⟩
    rw [hk k (fun e=>?_)]
    · exact h.ev.block k hk0 hf
    · subst e
      rcases h.ln k ⟨_,List.mem_cons_self ..,rfl⟩ with h' | h'
      · omega
      · exact hf h'
  · rcases List.mem_cons.1 hx with rfl | hx
    · exact h.ln k ⟨_,List.mem_cons_self ..,hkx⟩
    · exact h.ln k ⟨x,by simp [hx],hkx⟩

theorem St.turn {v v':Value}{e e':TypeId}{s n s' n':Nat}{xs xs':List Value}(h:St w0 C0 L0 C (.arr v e s n xs::L) w)(hown:w'.ownsRow 0 e' s' v' n' xs')(hg:w.grownBy w' v.ownBlock)(hdr:w.drawn<=w'.drawn)
    (hv:v'.ownBlock=v.ownBlock∨v'.ownBlock=some w.heap.size∨v'.ownBlock=none):St w0 C0 L0 C (.arr v' e' s' n' xs'::L) w':=by
  have hd:=List.pairwise_cons.1 h.sep.d
  have hcold:∀ k,owns L k->¬ v.ownBlock=some k:=fun k ⟨x,hx,hk⟩ hv=>hd.1 x hx k hv hk
  have hnew:∀ k,v'.ownBlock=some k->v.ownBlock=some k∨k=w.heap.size:=fun k hk=>by
    rcases hv with h1 | h1 | h1
    · exact .inl (h1 ▸ hk)
    · rw [h1] at hk;cases hk;exact .inr rfl
    · rw [h1] at hk;cases hk
  refine ⟨⟨fun k o'' hc=>?_,fun x hx=>?_,List.pairwise_cons.2 ⟨fun x hx k hk hkx=>?_,hd.2⟩,fun k ⟨x,hx,hkx⟩=>?_⟩, ?_,h.c0,h.cn,fun k ⟨x,hx,hkx⟩=>?_⟩
  · have:=h.sep.c k o'' hc
    rw [hg.block k (cI this) (fun e=>?_)]
    · exact this
    · have:=h.sep.n k ⟨_,List.mem_cons_self ..,e.symm⟩
      rw [this] at hc;cases hc
  · rcases List.mem_cons.1 hx with rfl | hx
    · exact hown
    · have hxh:=h.sep.e x (by simp [hx])
      exact Ent.holds_of hxh (fun k hk=>hg.block k (Ent.lt hxh hk) (fun e=>hcold k ⟨x,hx,hk⟩ e.symm))
  · rcases hnew k hk with h1 | h1
    · exact hd.1 x hx k h1 hkx
    · have:=Ent.lt (h.sep.e x (by simp [hx])) hkx
      omega
  · rcases List.mem_cons.1 hx with rfl | hx
    · rcases hnew k hkx with h1 | h1
      · exact h.sep.n k ⟨_,List.mem_cons_self ..,h1⟩
      · cases hc:C k with
        | none=>rfl
        | some o'=>exact absurd (cI (h.sep.c _ _ hc)) om_
    · exact h.sep.n k ⟨x,by simp [hx],hkx⟩
  · refine ⟨hg.os.trans h.ev.os,hg.tape.trans h.ev.tape,hg.output.trans h.ev.output,Nat.le_trans h.ev.size hg.size,fun k hk hf=>?_,Nat.le_trans h.ev.drawn hdr⟩
    rw [hg.block k (Nat.lt_of_lt_of_le hk h.ev.size) (fun e=>?_)]
    · exact h.ev.block k hk hf
    · rcases h.ln k ⟨_,List.mem_cons_self ..,e.symm⟩ with h' | h'
      · omega
      · exact hf h'
  · rcases List.mem_cons.1 hx with rfl | hx
    · rcases hnew k hkx with h1 | h1
      · exact h.ln k ⟨_,List.mem_cons_self ..,h1⟩
      · subst h1;exact .inl h.ev.size
    · exact h.ln k ⟨x,by simp [hx],hkx⟩

theorem St.nilArr (h:St w0 C0 L0 C L w)(e:TypeId)(s:Nat):St w0 C0 L0 C (.arr (.slice none 0 0) e s 0 []::L) w:=by
  have hno:∀ k,¬ (Ent.arr (.slice none 0 0) e s 0 []).own k:=fun k hk=>by cases hk
  refine ⟨⟨h.sep.c,fun x hx=>?_,List.pairwise_cons.2 ⟨fun x _ k hk=>absurd hk (hno k),h.sep.d⟩,fun k ⟨x,hx,hk⟩=>?_⟩,h.ev,h.c0,h.cn,fun k ⟨x,hx,hk⟩=>?_⟩
  · rcases List.mem_cons.1 hx with rfl | hx
    · exact World.ownsRow_nil w 0 e s
    · exact h.sep.e x hx
  · rcases List.mem_cons.1 hx with rfl | hx
    · exact absurd hk (hno k)
    · exact h.sep.n k ⟨x,hx,hk⟩
  · rcases List.mem_cons.1 hx with rfl | hx
    · exact absurd hk (hno k)
    · exact h.ln k ⟨x,hx,hk⟩

theorem St.call {Lp Lr:List Ent}{C':Mem}{L':List Ent}(h:St w0 C0 L0 C (Lp++Lr) w)(k:St w C Lp C' L' w'):St w0 C0 L0 C' (L'++Lr) w':=by
  have hd:=List.pairwise_append.1 h.sep.d
  have hLr:∀ i,owns Lr i->¬ owns Lp i:=fun i ⟨x,hx,hi⟩ ⟨y,hy,hi'⟩=>hd.2.2 y hy x hx i hi' hi
  have hLrlt:∀ i,owns Lr i->i<w.heap.size:=fun i ⟨x,hx,hi⟩=>Ent.lt (h.sep.e x (by simp [hx])) hi
  have hkr:∀ i,owns Lr i->¬ owns L' i:=fun i hi hi'=>by
    rcases k.ln i hi' with h1 | h1
    · have:=hLrlt i hi;omega
    · exact hLr i hi h1
  have oapp:∀ {A B:List Ent}{i:Nat},owns (A++B) i->owns A i∨owns B i:=fun {A B i} ⟨x,hx,hi⟩=>by
    rcases List.mem_append.1 hx with h1 | h1
    · exact .inl ⟨x,h1,hi⟩
    · exact .inr ⟨x,h1,hi⟩
  have oin1:∀ {i:Nat},owns Lp i->owns (Lp++Lr) i:=fun ⟨x,hx,hi⟩=>⟨x,List.mem_append_left _ hx,hi⟩
  have oin2:∀ {i:Nat},owns Lr i->owns (Lp++Lr) i:=fun ⟨x,hx,hi⟩=>⟨x,List.mem_append_right _ hx,hi⟩
  refine ⟨⟨k.sep.c,fun x hx=>?_,List.pairwise_append.2 ⟨k.sep.d,hd.2.1,fun x hx y hy i hi hi'=>hkr i ⟨y,hy,hi'⟩ ⟨x,hx,hi⟩⟩,fun i hi=>?_⟩, ?_,h.c0.trans k.c0,fun i o hi=>?_,fun i hi=>?_⟩
  · rcases List.mem_append.1 hx with h1 | h1
    · exact k.sep.e x h1
    · have hx':=h.sep.e x (by simp [h1])
      exact Ent.holds_of hx' (fun i hi=>k.ev.block i (Ent.lt hx' hi) (hLr i ⟨x,h1,hi⟩))
  · rcases oapp hi with h1 | h1
    · exact k.sep.n i h1
    · cases hc:C' i with
      | none=>rfl
      | some o =>
        rcases k.cn i o hc with h2 | h2 | h2
        · rw [h.sep.n i (oin2 h1)] at h2;cases h2
        · have:=hLrlt i h1;omega
        · exact absurd h2 (hLr i h1)
  · refine h.ev.trans k.ev (fun i hi=>?_)
    rcases h.ln i (oin1 hi) with h1 | h1
    · exact .inr h1
    · exact .inl h1
  · rcases k.cn i o hi with h1 | h1 | h1
    · exact h.cn i o h1
    · exact .inr (.inl (Nat.le_trans h.ev.size h1))
    · rcases h.ln i (oin1 h1) with h2 | h2
      · exact .inr (.inl h2)
      · exact .inr (.inr h2)
  · rcases oapp hi with h1 | h1
    · rcases k.ln i h1 with h2 | h2
      · exact .inl (Nat.le_trans h.ev.size h2)
      · exact h.ln i (oin1 h2)
    · exact h.ln i (oin2 h1)
end

def Enters (P:Program)(f:FuncId):Bool:=match P.funcs[f]? with
  | some fn => !(fn.name == "runtime.NumGoroutine") && fn.body.isSome
  | none=>false

def Fn (P:Program)(f:FuncId)(args:List Value)(C:Mem)(L:List Ent)(post:Value->Mem->List Ent->Prop):Prop :=
  Enters P f=true/\∀ w,Sep C L w->Calls P f args.toArray w fun e w'=>∃ v C' L',e=.returned v/\St w C L C' L' w'/\post v C' L'

theorem Fn.mono {P:Program}{f:FuncId}{args:List Value}{C:Mem}{L:List Ent}{post post':Value->Mem->List Ent->Prop}(h:Fn P f args C L post)
    (hp:∀ v C' L',C.le C'->post v C' L'->post' v C' L'):Fn P f args C L post' :=
  ⟨h.1,fun w hw=>(h.2 w hw).mono fun _ _ ⟨v,C',L',e,hs,hq⟩=>⟨v,C',L',e,hs,hp v C' L' hs.c0 hq⟩⟩

def Gives (P:Program)(f:FuncId)(args:List Value)(C:Mem)(v:Value):Prop:=Fn P f args C [] fun u _ L'=>u=v/\L'=[]

theorem Fn.callAt {P:Program}{f:FuncId}{args:List Value}{C:Mem}{Lp Lr:List Ent}{post:Value->Mem->List Ent->Prop}(h:Fn P f args C Lp post)
    {w0:World} {C0:Mem} {L0:List Ent} {w:World} (hs:St w0 C0 L0 C (Lp++Lr) w) :
    Calls P f args.toArray w fun e w'=>∃ v C' L',e=.returned v/\C.le C'/\St w0 C0 L0 C' (L'++Lr) w'/\post v C' L':=by
  have hsep:Sep C Lp w:=⟨hs.sep.c,fun x hx=>hs.sep.e x (by simp [hx]),(List.pairwise_append.1 hs.sep.d).1,fun k ⟨x,hx,hk⟩=>hs.sep.n k ⟨x,by simp [hx],hk⟩⟩
  exact (h.2 w hsep).mono fun _ _ ⟨v,C',L',e,hst,hq⟩=>⟨v,C',L',e,hst.c0,hs.call hst,hq⟩

theorem St.less {w0:World}{C0:Mem}{L0:List Ent}{C D:Mem}{L:List Ent}{w:World}(h:St w0 C0 L0 D L w)(h0:C0.le C)(hl:C.le D):St w0 C0 L0 C L w :=
  ⟨⟨fun b o hb=>h.sep.c b o (hl b o hb),h.sep.e,h.sep.d,fun k hk=>by
    cases hc:C k with
    | none=>rfl
    | some o=>have:=h.sep.n k hk;rw [hl k o hc] at this;cases this⟩,h.ev,h0,fun k o hk=>h.cn k o (hl k o hk),h.ln⟩

def cls (w0:World)(C0:Mem)(L0:List Ent)(κ:Mem × List Ent)(w:World):Prop:=St w0 C0 L0 κ.1 κ.2 w
def kle (κ κ':Mem × List Ent):Prop:=κ.1.le κ'.1/\∀ x∈κ.2,x∈κ'.2
theorem kle.refl (κ:Mem × List Ent):kle κ κ:=⟨Mem.le.refl _,fun _ h=>h⟩
theorem kle.trans (a b c:Mem × List Ent)(h:kle a b)(k:kle b c):kle a c:=⟨h.1.trans k.1,fun x hx=>k.2 x (h.2 x hx)⟩

theorem Gives.quiet {P:Program}{f:FuncId}{args:List Value}{C:Mem}{v:Value}(h:Gives P f args C v){w0:World}{C0:Mem}{L0:List Ent}{κ:Mem × List Ent}{w:World}
    (hC:C.le κ.1) (hC0:C0.le C) (hw:cls w0 C0 L0 κ w):Calls P f args.toArray w fun e w'=>e=.returned v/\cls w0 C0 L0 κ w':=by
  have hsep:Sep C [] w:=(hw.less hC0 hC).sep |> fun s=>⟨s.c,fun x hx=>(by cases hx),List.Pairwise.nil,fun k ⟨x,hx,_⟩=>(by cases hx)⟩
  refine (h.2 w hsep).mono fun e w' ⟨u,C',L',he,hst,hu,hl⟩=>?_
  subst hu;subst hl
  have h2:Sep κ.1 [] w:=⟨hw.sep.c,fun x hx=>(by cases hx),List.Pairwise.nil,fun k ⟨x,hx,_⟩=>(by cases hx)⟩
  have hno:∀ k,¬ owns [] k:=fun k ⟨x,hx,_⟩=>by cases hx
  have hst':St w κ.1 [] κ.1 [] w':=⟨⟨fun b o hb=>by
      have:=hw.sep.c b o hb
      rw [hst.ev.block b (cI this) (hno b)];exact this,fun x hx=>(by cases hx),List.Pairwise.nil,fun k hk=>absurd hk (hno k)⟩,hst.ev,Mem.le.refl _,fun _ _ hk=>.inl hk,fun k hk=>absurd hk (hno k)⟩
  exact ⟨he,St.call (Lp:=[]) hw hst'⟩
end Go.Jog
namespace Go.Jog
open Go

/-! ### Types -/
inductive TK where
  | int (k:IntKind) | bool | str | ptr (e:Nat) | slice (e:Nat) | arr (n e:Nat) | struct (fs:List (Nat × Nat)) | map (k e:Nat) | func | iface | other
  deriving DecidableEq

inductive Zv where
  | int (k:IntKind) | bool | str | ptr | slice | map | func | iface
  deriving DecidableEq

def Zv.val:Zv->Value
  | .int k=>.int k 0 | .bool=>.bool false | .str=>.string ⟨#[]⟩ | .ptr=>.pointer none | .slice=>.slice none 0 0 | .map=>.map none | .func=>.nilFunc | .iface=>.nilIface

def zvB:Value->Zv->Bool
  | .int k n,.int k'=>k == k' && n == 0
  | .bool b,.bool=>!b
  | .string s,.str=>s.data.toList == []
  | .pointer none,.ptr | .slice none 0 0,.slice | .map none,.map | .nilFunc,.func | .nilIface,.iface=>true
  | _,_=>false

theorem zvB_spec {v:Value}{z:Zv}(h:zvB v z=true):v=z.val:=by
  unfold zvB at h
  split at h <;> simp_all [Zv.val]
  rename_i s
  obtain ⟨⟨l⟩⟩:=s
  simp at h
  subst h
  rfl

structure TI where
  k:TK
  size:Nat
  bytes:Nat
  zero:List Zv
  agg:Bool
  deriving DecidableEq

def tkB (d:TypeDesc):TK->Bool
  | .int k=>match d with | .int k'=>k == k' | _=>false
  | .bool=>match d with | .bool=>true | _=>false
  | .str=>match d with | .string=>true | _=>false
  | .ptr e=>match d with | .pointer e'=>e == e' | _=>false
  | .slice e=>match d with | .slice e'=>e == e' | _=>false
  | .arr n e=>match d with | .array n' e'=>n == n' && e == e' | _=>false
  | .struct fs=>match d with | .struct fields=>fields.toList.map (fun f=>(f.type,f.offset)) == fs | _=>false
  | .map k e=>match d with | .map k' e'=>k == k' && e == e' | _=>false
  | .func=>match d with | .func ..=>true | _=>false
  | .iface=>match d with | .interface _=>true | _=>false
  | .other=>true

def zerosB:List Value->List Zv->Bool
  | [],[]=>true
  | v::vs,z::zs=>zvB v z && zerosB vs zs
  | _,_=>false

def TI.zv (i:TI):Value:=bif i.agg then .agg (i.zero.map Zv.val).toArray else (i.zero.map Zv.val).headD undef

def aggD:TypeDesc->Bool
  | .struct _ | .array _ _=>true
  | _=>false

def tiB (P:Program)(t:Nat)(i:TI):Bool :=
  match P.underlying t,P.info? t with
  | some d,some f=>tkB d i.k && (aggD d == i.agg) && f.size == i.size && f.bytes == i.bytes && (i.zero.length == i.size) && (match f.zero with
    | some z=>zerosB z.cells.toList i.zero && (match z with | .agg _=>i.agg | .tuple _=>false | _=>!i.agg)
    | none=>false)
  | _,_=>false

abbrev Tab:=List (Nat × TI)
def Tab.get:Tab->Nat->Option TI
  | [],_=>none
  | (t,i)::r,s=>bif Nat.beq t s then some i else Tab.get r s

def tabB (P:Program)(T:Tab):Bool:=T.all fun (t,i)=>tiB P t i

theorem zerosB_spec:∀ {vs:List Value}{zs:List Zv},zerosB vs zs=true->vs=zs.map Zv.val
  | [],[],_=>rfl
  | v::vs,z::zs,h=>by
    simp only [zerosB,Bool.and_eq_true] at h
    rw [zvB_spec h.1,zerosB_spec h.2];rfl
  | [],_::_,h=>by simp [zerosB] at h
  | _::_,[],h=>by simp [zerosB] at h

theorem Tab.get_mem:∀ {T:Tab}{t:Nat}{i:TI},T.get t=some i->(t,i)∈T
  | (s,j)::r,t,i,h=>by
    simp only [Tab.get] at h
    cases hb:Nat.beq s t with
    | true =>
      rw [hb] at h
      simp only [cond_true,Option.some.injEq] at h
      rw [Nat.eq_of_beq_eq_true hb,h]
      exact List.mem_cons_self ..
    | false =>
      rw [hb] at h
      exact List.mem_cons_of_mem _ (Tab.get_mem h)

structure TIok (P:Program)(t:Nat)(i:TI):Prop where
  und:∃ d,P.underlying t=some d/\tkB d i.k=true/\aggD d=i.agg
  info:∃ f,P.info? t=some f/\f.size=i.size/\f.bytes=i.bytes/\f.zero=some i.zv/\i.zv.cells=(i.zero.map Zv.val).toArray
  zsize:i.zv.cells.size=i.size

theorem cq {P:Program}{T:Tab}(hT:tabB P T=true){t:Nat}{i:TI}(h:T.get t=some i):TIok P t i:=by
  have:=List.all_eq_true.1 hT _ (Tab.get_mem h)
  simp only [tiB] at this
  split at this
  · rename_i d f hd hf
    simp only [Bool.and_eq_true,beq_iff_eq] at this
    obtain ⟨⟨⟨⟨⟨h1,h2⟩,h3⟩,h4⟩,h45⟩,h5⟩:=this
    suffices hh:f.zero=some i.zv/\i.zv.cells=(i.zero.map Zv.val).toArray from ⟨⟨d,hd,h1,h2⟩,⟨f,hf,h3,h4,hh.1,hh.2⟩,by rw [hh.2];simpa using h45⟩
    split at h5
    · rename_i z hz
      simp only [Bool.and_eq_true] at h5
      obtain ⟨h6,h7⟩:=h5
      have h8:=zerosB_spec h6
      have h9:z=i.zv/\z.cells=(i.zero.map Zv.val).toArray:=by
        have hc:z.cells=(i.zero.map Zv.val).toArray:=by rw [<- h8]
        refine ⟨?_,hc⟩
        unfold TI.zv
        cases z <;> simp_all [Value.cells] <;> (try (cases h:i.zero <;> simp_all))
      exact ⟨by rw [hz,h9.1],by rw [<- h9.1];exact h9.2⟩
    · cases h5
  · cases this

/-! ### Frames -/
abbrev GL:=List (Nat × Bool)
abbrev Fr:=List (Nat × GL × Value)
def Fr.get:Fr->Nat->Option (GL × Value)
  | [],_=>none
  | (t,x)::r,s=>bif Nat.beq t s then some x else Fr.get r s

def yld (ds:List (Option Nat))(tmps:Array Value)(j:Nat):Option Bool :=
  match ((ds[j]?).bind id).bind (tmps[·]?) with
  | some (.bool b)=>some b
  | _=>none

theorem yielded_eq (l:List Oper)(tmps:Array Value):yielded l.toArray tmps=yld (l.map (·.dst)) tmps:=by
  funext j
  unfold yielded yld
  have h:((l.toArray)[j]?).bind (·.dst)=((l.map (·.dst))[j]?).bind id:=by
    simp only [List.getElem?_toArray,List.getElem?_map]
    cases l[j]? <;> rfl
  rw [h]
  rfl

def GH (ds:List (Option Nat))(tmps:Array Value)(g:GL):Prop:=∀ p∈g,yld ds tmps p.1=some p.2

structure FrOk (n:Nat)(ds:List (Option Nat))(dd:List Deferred)(fr:Fr)(a:Act):Prop where
  size:a.tmps.size=n
  defers:a.defers=dd
  ent:∀ s g v,fr.get s=some (g,v)->(GH ds a.tmps g->a.tmps[s]?=some v)/\(¬ GH ds a.tmps g->a.tmps[s]?=some undef)

def subG (ge g:GL):Bool:=ge.all fun p=>g.any fun q=>Nat.beq p.1 q.1 && (p.2 == q.2)

theorem GH.sub {ds:List (Option Nat)}{tmps:Array Value}{ge g:GL}(h:GH ds tmps g)(hs:subG ge g=true):GH ds tmps ge:=by
  intro p hp
  have:=List.all_eq_true.1 hs p hp
  obtain ⟨q,hq,hb⟩:=List.any_eq_true.1 this
  simp only [Bool.and_eq_true,beq_iff_eq] at hb
  have e1:=Nat.eq_of_beq_eq_true hb.1
  have:=h q hq
  rw [<- e1,<- hb.2] at this
  exact this

def ev (fr:Fr)(g:GL):Operand->Option Value
  | .tmp t=>match fr.get t with
    | some (ge,v)=>bif subG ge g then some v else none
    | none=>none
  | .const v=>some v
  | .global b=>some (.pointer (some ⟨b,0,none⟩))
  | .func f=>some (.func (.func f) #[] #[])

theorem bl {n:Nat}{ds:List (Option Nat)}{fr:Fr}{a:Act}{dd:List Deferred}{g:GL}(h:FrOk n ds dd fr a)(hg:GH ds a.tmps g){x:Operand}{v:Value}(hx:ev fr g x=some v):a.eval x=v:=by
  cases x with
  | tmp t =>
    simp only [ev] at hx
    split at hx
    · rename_i ge u hget
      cases hs:subG ge g with
      | false=>rw [hs] at hx;cases hx
      | true =>
        rw [hs] at hx
        simp only [cond_true,Option.some.injEq] at hx
        have:=(h.ent t ge u hget).1 (hg.sub hs)
        simp only [Act.eval,Array.getD_eq_getD_getElem?,this,Option.getD_some]
        exact hx
    · cases hx
  | const u=>simpa [ev,Act.eval] using hx
  | global b=>simpa [ev,Act.eval] using hx
  | func f=>simpa [ev,Act.eval] using hx

def gOf (ds:List (Option Nat))(fr:Fr):Option (Nat × Bool)->Option GL
  | none=>some []
  | some (j,w)=>match ((ds[j]?).bind id).bind fr.get with
    | some (g,.bool _)=>some ((j,w)::g)
    | _=>none

def GT (ds:List (Option Nat))(fr:Fr):GL->Prop
  | []=>True
  | (j,w)::r=>(match ((ds[j]?).bind id).bind fr.get with
    | some (_,.bool b)=>b=w
    | _=>False)/\GT ds fr r

theorem yld_some {ds:List (Option Nat)}{tmps:Array Value}{j:Nat}{b:Bool}(h:yld ds tmps j=some b):∃ d,(ds[j]?).bind id=some d/\tmps[d]?=some (.bool b):=by
  unfold yld at h
  cases hd:(ds[j]?).bind id with
  | none=>rw [hd] at h;cases h
  | some d =>
    refine ⟨d,rfl, ?_⟩
    rw [hd] at h
    simp only [Option.bind_some] at h
    split at h
    · rename_i b' hb;cases h;exact hb
    · cases h

theorem GT_of {n:Nat}{ds:List (Option Nat)}{fr:Fr}{a:Act}{dd:List Deferred}(h:FrOk n ds dd fr a):∀ {g:GL},GH ds a.tmps g->(∀ p∈g,∃ g' b,((ds[p.1]?).bind id).bind fr.get=some (g',.bool b))->GT ds fr g
  | [],_,_=>trivial
  | (j,w)::r,hg,hw=>by
    refine ⟨?_,GT_of h (fun p hp=>hg p (by simp [hp])) (fun p hp=>hw p (by simp [hp]))⟩
    obtain ⟨g',b,hb⟩:=hw (j,w) (by simp)
    simp only [hb]
    have hy:=hg (j,w) (by simp)
    obtain ⟨d,hd,ht⟩:=yld_some hy
    rw [hd] at hb
    have he:=h.ent d g' (.bool b) hb
    by_cases hG:GH ds a.tmps g'
    · have:=he.1 hG
      rw [ht] at this
      simp only [Option.some.injEq,Value.bool.injEq] at this
      exact this.symm
    · have:=he.2 hG
      rw [ht] at this
      simp [undef] at this

def aG (n:Nat)(ds:List (Option Nat))(fr:Fr)(d:Nat):Bool :=
  Nat.blt d n && fr.all fun (_,g,_)=>g.all fun p=>match (ds[p.1]?).bind id with
    | some e=>!(Nat.beq e d)
    | none=>true

theorem yld_put {ds:List (Option Nat)}{a:Act}{d:Nat}{v:Value}{j:Nat}(h:∀ e,(ds[j]?).bind id=some e->e≠d):yld ds (a.put (some d) v).tmps j=yld ds a.tmps j:=by
  unfold yld
  cases hd:(ds[j]?).bind id with
  | none=>rfl
  | some e =>
    have:=h e hd
    simp [Act.put,Array.getElem?_setIfInBounds_ne (Ne.symm this)]

theorem Fr.get_mem:∀ {fr:Fr}{s:Nat}{x:GL × Value},fr.get s=some x->(s,x)∈fr
  | (t,y)::r,s,x,h=>by
    simp only [Fr.get] at h
    cases hb:Nat.beq t s with
    | true =>
      rw [hb] at h
      simp only [cond_true,Option.some.injEq] at h
      rw [Nat.eq_of_beq_eq_true hb,h]
      exact List.mem_cons_self ..
    | false =>
      rw [hb] at h
      exact List.mem_cons_of_mem _ (Fr.get_mem h)

theorem FrOk.put {n:Nat}{ds:List (Option Nat)}{fr:Fr}{a:Act}{d:Nat}{g:GL}{v u:Value}{dd:List Deferred}(h:FrOk n ds dd fr a)(hp:aG n ds ((d,g,v)::fr) d=true)
    (hu:(GH ds a.tmps g->u=v)/\(¬ GH ds a.tmps g->u=undef)):FrOk n ds dd ((d,g,v)::fr) (a.put (some d) u):=by
  simp only [aG,Bool.and_eq_true,List.all_eq_true] at hp
  obtain ⟨hlt,hall⟩:=hp
  have hlt:d<n:=by simpa [Nat.blt_eq] using hlt
  have gh:∀ s g' v',(s,g',v')∈(d,g,v)::fr->(GH ds (a.put (some d) u).tmps g' ↔ GH ds a.tmps g'):=fun s g' v' hm=>by
    have hq:=hall (s,g',v') hm
    have e:∀ p∈g',yld ds (a.put (some d) u).tmps p.1=yld ds a.tmps p.1:=fun p hp'=>by
      refine yld_put (fun e he=>?_)
      have:=hq p hp'
      simp only [he,Bool.not_eq_true'] at this
      intro hed
      subst hed
      simp [Nat.beq_refl] at this
    exact ⟨fun hh p hp'=>by rw [<- e p hp'];exact hh p hp',fun hh p hp'=>by rw [e p hp'];exact hh p hp'⟩
  refine ⟨by simp [Act.put,h.size],h.defers,fun s g' v' hget=>?_⟩
  have hmem:=Fr.get_mem hget
  rw [gh s g' v' hmem]
  simp only [Fr.get] at hget
  cases hb:Nat.beq d s with
  | true =>
    rw [hb] at hget
    simp only [cond_true,Option.some.injEq,Prod.mk.injEq] at hget
    obtain ⟨rfl,rfl⟩:=hget
    have hds:=Nat.eq_of_beq_eq_true hb
    subst hds
    have hget':(a.put (some d) u).tmps[d]?=some u:=by simp [Act.put,h.size,hlt]
    exact ⟨fun hG=>by rw [hget',hu.1 hG],fun hG=>by rw [hget',hu.2 hG]⟩
  | false =>
    rw [hb] at hget
    have hne:d≠s:=fun e=>by subst e;simp [Nat.beq_refl] at hb
    have:=h.ent s g' v' hget
    simpa [Act.put,Array.getElem?_setIfInBounds_ne hne] using this

/-! ### Operations that look at no memory -/
def intPo (op:BinOp)(k:IntKind)(a b:Int):Option Value :=
  match op with
  | .add=>some (.int k (k.wrap (a+b)))
  | .sub=>some (.int k (k.wrap (a-b)))
  | .mul=>some (.int k (k.wrap (a*b)))
  | .eql=>some (.bool (a == b))
  | .neq=>some (.bool (a != b))
  | .lss=>some (.bool (decide (a<b)))
  | .leq=>some (.bool (decide (a<=b)))
  | .gtr=>some (.bool (decide (b<a)))
  | .geq=>some (.bool (decide (b<=a)))
  | _=>none

def strPo (op:BinOp)(a b:ByteArray):Option Value :=
  match op with
  | .eql=>some (.bool (a.data.toList == b.data.toList))
  | .neq=>some (.bool (!(a.data.toList == b.data.toList)))
  | .lss=>some (.bool (Op.bytesLess a.data.toList b.data.toList))
  | .leq=>some (.bool (Op.bytesLess a.data.toList b.data.toList || a.data.toList == b.data.toList))
  | .gtr=>some (.bool (!(Op.bytesLess a.data.toList b.data.toList || a.data.toList == b.data.toList)))
  | .geq=>some (.bool (!(Op.bytesLess a.data.toList b.data.toList)))
  | _=>none

def binPo (T:Tab)(op:BinOp)(t:Nat):Value->Value->Option Value
  | .int k a,.int k' b=>bif k == k' then intPo op k a b else none
  | .string a,.string b=>strPo op a b
  | .bool a,.bool b=>match T.get t with
    | some ⟨.bool,_,_,_,_⟩=>match op with
      | .eql=>some (.bool (a == b))
      | .neq=>some (.bool (!(a == b)))
      | _=>none
    | _=>none
  | _,_=>none

def listO {α β:Type}(f:α->Option β):List α->Option (List β)
  | []=>some []
  | x::xs=>match f x,listO f xs with
    | some y,some ys=>some (y::ys)
    | _,_=>none

theorem dw {α β:Type}{f:α->Option β}{f':α->β}(h:∀ x y,f x=some y->f' x=y):∀ {xs:List α}{ys:List β},listO f xs=some ys->xs.map f'=ys
  | [],ys,e=>by simp [listO] at e;simp [e]
  | x::xs,ys,e=>by
    simp only [listO] at e
    split at e
    · rename_i y ys' h1 h2
      cases e
      rw [List.map_cons,h x y h1,dw h h2]
    · cases e

def lenPo (T:Tab)(t:Nat):Value->Option Value
  | .slice _ n _=>match T.get t with
    | some ⟨.slice _,_,_,_,_⟩=>some (.int .i64 n)
    | _=>none
  | .string s=>match T.get t with
    | some ⟨.str,_,_,_,_⟩=>some (.int .i64 s.data.toList.length)
    | _=>none
  | _=>none

def po (T:Tab)(ρ:Operand->Option Value):Op->Option Value
  | .move x | .assign x=>ρ x
  | .unOp .not _ x=>match ρ x with
    | some (.bool b)=>some (.bool (!b))
    | _=>none
  | .unOp .neg _ x=>match ρ x with
    | some (.int k n)=>some (.int k (k.wrap (0-n)))
    | _=>none
  | .binOp op t x y _=>match ρ x,ρ y with
    | some u,some v=>binPo T op t u v
    | _,_=>none
  | .extract x i=>match ρ x with
    | some (.tuple vs)=>vs.toList[i]?
    | _=>none
  | .fieldAddr t x f=>match ρ x with
    | some (.pointer (some a))=>match T.get t with
      | some ⟨.struct fs,_,_,_,_⟩=>match fs[f]? with
        | some (ty,off)=>match T.get ty with
          | some ⟨_,s,_,_,_⟩=>bif Nat.beq s 0 then none else some (.pointer (some (a.add off)))
          | none=>none
        | none=>none
      | _=>none
    | _=>none
  | .nilCheck x=>match ρ x with
    | some (.pointer (some a))=>some (.pointer (some a))
    | _=>none
  | .makeFunc fn first captured=>match listO ρ first.toList,listO ρ captured.toList with
    | some vs,some us=>some (.func fn vs.toArray us.toArray)
    | _,_=>none
  | .makeInterface t x=>match ρ x,T.get t with
    | some v,some ⟨k,_,_,_,_⟩=>match k with
      | .iface=>none
      | .other=>none
      | _=>some (.iface t v)
    | _,_=>none
  | .call ⟨.builtin .len,args,ts⟩=>match args.toList,ts.toList with
    | [x],[t]=>match ρ x with
      | some v=>lenPo T t v
      | none=>none
    | _,_=>none
  | _=>none

def Sees (ρ:Operand->Option Value)(a:Act):Prop:=∀ x v,ρ x=some v->a.eval x=v

theorem toList_eq (s:ByteArray):s.toList=s.data.toList:=ByteArray.toList_eq s

theorem run_stringOp {P:Program}{op:BinOp}{a b:ByteArray}{v:Value}(h:strPo op a b=some v)(w:World):(Op.stringOp op a b).run P w=.ok v w:=by
  unfold strPo at h
  split at h <;> cases h <;> simp [Op.stringOp,toList_eq]

theorem cK {P:Program}{op:BinOp}{t:Nat}{x y:Operand}{u v:Value}(w:World)(h:∀ a b,u≠.agg a∨v≠.agg b)(h':u≠.nilIface∨v≠.nilIface) :
    (eqGuard op t x y u v).run P w=.ok () w:=by
  have key:(match u,v with
      | .nilIface,.nilIface=>(if (x matches .const _) || (y matches .const _) then pure () else do
          if <- Op.eqGuardIn Op.maxDepth t u v then unsupported (.noEntry "binop/eql: two nil values of an interface type with methods, neither of them the literal nil") : Sem Unit)
      | .agg _,.agg _=>do
        if !(<- program).eqGuardType (<- program).depth t then pure () else
        if <- Op.eqGuardIn Op.maxDepth t u v then unsupported (.noEntry "binop/eql: two nil values of an interface type with methods, in a part of a struct or an array")
      | _,_=>pure ())=pure ():=by
    split
    · rcases h' with h' | h' <;> exact absurd rfl h'
    · rename_i a b;rcases h a b with h | h <;> exact absurd rfl h
    · rfl
  cases op <;> first | rfl | (unfold eqGuard;simp only [Bool.not_true,Bool.false_eq_true,if_false];exact congrArg (fun s:Sem Unit=>s.run P w) key)

theorem kget {T:Tab}{P:Program}(hT:tabB P T=true){t:Nat}{k:TK}{s b:Nat}{z:List Zv}{g:Bool}(h:T.get t=some ⟨k,s,b,z,g⟩):∃ d,P.underlying t=some d/\tkB d k=true :=
  let ⟨d,h1,h2,_⟩:=(cq hT h).und
  ⟨d,h1,h2⟩

theorem bx {T:Tab}{P:Program}(hT:tabB P T=true){t e:Nat}{s b:Nat}{z:List Zv}{g:Bool}(h:T.get t=some ⟨.slice e,s,b,z,g⟩):P.underlying t=some (.slice e):=by
  obtain ⟨d,h1,h2⟩:=kget hT h
  cases d <;> simp [tkB] at h2
  rw [h1,h2]
theorem und_str {T:Tab}{P:Program}(hT:tabB P T=true){t:Nat}{s b:Nat}{z:List Zv}{g:Bool}(h:T.get t=some ⟨.str,s,b,z,g⟩):P.underlying t=some .string:=by
  obtain ⟨d,h1,h2⟩:=kget hT h
  cases d <;> simp [tkB] at h2
  exact h1
theorem und_bool {T:Tab}{P:Program}(hT:tabB P T=true){t:Nat}{s b:Nat}{z:List Zv}{g:Bool}(h:T.get t=some ⟨.bool,s,b,z,g⟩):P.underlying t=some .bool:=by
  obtain ⟨d,h1,h2⟩:=kget hT h
  cases d <;> simp [tkB] at h2
  exact h1
theorem und_int {T:Tab}{P:Program}(hT:tabB P T=true){t:Nat}{k:IntKind}{s b:Nat}{z:List Zv}{g:Bool}(h:T.get t=some ⟨.int k,s,b,z,g⟩):P.underlying t=some (.int k):=by
  obtain ⟨d,h1,h2⟩:=kget hT h
  cases d <;> simp [tkB] at h2
  rw [h1,h2]
theorem und_arr {T:Tab}{P:Program}(hT:tabB P T=true){t n e:Nat}{s b:Nat}{z:List Zv}{g:Bool}(h:T.get t=some ⟨.arr n e,s,b,z,g⟩):P.underlying t=some (.array n e):=by
  obtain ⟨d,h1,h2⟩:=kget hT h
  cases d <;> simp [tkB] at h2
  rw [h1,h2.1,h2.2]
theorem und_struct {T:Tab}{P:Program}(hT:tabB P T=true){t:Nat}{fs:List (Nat × Nat)}{s b:Nat}{z:List Zv}{g:Bool}(h:T.get t=some ⟨.struct fs,s,b,z,g⟩) :
    ∃ fields:Array Field,P.underlying t=some (.struct fields)/\fields.toList.map (fun f=>(f.type,f.offset))=fs:=by
  obtain ⟨d,h1,h2⟩:=kget hT h
  cases d <;> simp [tkB] at h2
  rename_i fields
  exact ⟨fields,h1,by simpa using h2⟩
theorem cF {T:Tab}{P:Program}(hT:tabB P T=true){t:Nat}{i:TI}(h:T.get t=some i)(w:World):(sizeOf t).run P w=.ok i.size w:=by
  obtain ⟨f,h1,h2,_⟩:=(cq hT h).info
  simp [sizeOf,typeInfo,h1,h2]
theorem is_agg {T:Tab}{P:Program}(hT:tabB P T=true){t:Nat}{i:TI}(h:T.get t=some i)(w:World):(isAgg t).run P w=.ok i.agg w:=by
  obtain ⟨d,h1,_,h3⟩:=(cq hT h).und
  unfold isAgg
  simp only [Sem.run_bind,run_underlying h1,Result.andThen_ok]
  rw [<- h3]
  cases d <;> rfl
theorem zero_of {T:Tab}{P:Program}(hT:tabB P T=true){t:Nat}{i:TI}(h:T.get t=some i)(w:World):(zeroValue t).run P w=.ok i.zv w:=by
  obtain ⟨f,h1,_,_,h4,_⟩:=(cq hT h).info
  simp [zeroValue,typeInfo,h1,h4]

theorem run_binOp {T:Tab}{P:Program}(hT:tabB P T=true){op:BinOp}{t:Nat}{u v r:Value}(h:binPo T op t u v=some r)(w:World):(binOp op t u v).run P w=.ok r w:=by
  unfold binPo at h
  split at h
  · rename_i k a k' b
    by_cases hk:k=k'
    · subst hk
      simp only [beq_self_eq_true,cond_true] at h
      cases op <;> simp only [intPo] at h <;> (try cases h) <;> simp [binOp,Op.intArith,Op.intCmp]
    · rw [beq_eq_false_iff_ne.2 hk] at h;cases h
  · rename_i a b
    have:=run_stringOp (P:=P) h w
    cases op <;> first | exact this | (simp [strPo] at h)
  · rename_i a b
    split at h
    · rename_i hg
      have hb:=und_bool hT hg
      split at h
      · cases h;exact run_eql_bool w t a b hb
      · cases h;exact run_neq_bool w t a b hb
      · cases h
    · cases h
  · cases h

theorem binPo_scalar {T:Tab}{op:BinOp}{t:Nat}{u v r:Value}(h:binPo T op t u v=some r):(∀ a b,u≠.agg a∨v≠.agg b)/\(u≠.nilIface∨v≠.nilIface):=by
  unfold binPo at h
  split at h <;> first | (cases h;done) | exact ⟨fun _ _=>.inl (by simp),.inl (by simp)⟩

theorem po_spec {T:Tab}{P:Program}(hT:tabB P T=true){ρ:Operand->Option Value}{a:Act}(hs:Sees ρ a){o:Oper}{v:Value}(h:po T ρ o.op=some v)(w:World) :
    (execOp a.eval o).run P w=.ok (.value v) w:=by
  obtain ⟨dst,op,ty,pos,after,guard⟩:=o
  simp only at h
  unfold po at h
  split at h
  case h_1 x=>simp [execOp,hs _ _ h]
  case h_2 x=>simp [execOp,hs _ _ h]
  case h_3 t x =>
    split at h
    · rename_i b hb;cases h;simp [execOp,hs _ _ hb,Op.unary]
    · cases h
  case h_4 t x =>
    split at h
    · rename_i k n hb;cases h;simp [execOp,hs _ _ hb,Op.unary,Op.intArith]
    · cases h
  case h_5 op t x y _ =>
    split at h
    · rename_i u r hu hr
      have hsc:=binPo_scalar h
      simp [execOp,hs _ _ hu,hs _ _ hr,cK (P:=P) (op:=op) (t:=t) (x:=x) (y:=y) w hsc.1 hsc.2,run_binOp hT h w]
    · cases h
  case h_6 x i =>
    split at h
    · rename_i vs hv
      simp only [Array.getElem?_toList] at h
      simp [execOp,hs _ _ hv,Instr.extract,h]
    · cases h
  case h_7 t x f =>
    split at h
    · rename_i ad hv
      split at h
      · rename_i fs _ _ _ _ hg
        split at h
        · rename_i fty off hf
          split at h
          · rename_i k' s b z g hg2
            cases hsz:Nat.beq s 0 with
            | true=>rw [hsz] at h;cases h
            | false =>
              rw [hsz] at h
              simp only [cond_false,Option.some.injEq] at h
              subst h
              obtain ⟨fields,hu,hm⟩:=und_struct hT hg
              have hfd:∃ fd,fields[f]?=some fd/\fd.type=fty/\fd.offset=off:=by
                rw [<- hm,List.getElem?_map] at hf
                cases hx:fields.toList[f]? with
                | none=>rw [hx] at hf;cases hf
                | some fd =>
                  rw [hx] at hf
                  simp only [Option.map_some,Option.some.injEq,Prod.mk.injEq] at hf
                  exact ⟨fd,by simpa using hx,hf.1,hf.2⟩
              obtain ⟨fd,h1,rfl,rfl⟩:=hfd
              have hs0:s≠0:=fun e=>by subst e;cases hsz
              have h2:=cF hT hg2 w
              simp only at h2
              simp [execOp,hs _ _ hv,Instr.fieldAt,run_underlying hu,h1,Instr.sureAddr,fieldPlace,h2,hs0]
          · cases h
        · cases h
      · cases h
    · cases h
  case h_8 x =>
    split at h
    · rename_i ad hv;cases h;simp [execOp,hs _ _ hv]
    · cases h
  case h_9 fn first captured =>
    split at h
    · rename_i vs us h1 h2
      cases h
      have e1:=dw (fun x y=>hs x y) h1
      have e2:=dw (fun x y=>hs x y) h2
      have e1':first.map a.eval=vs.toArray:=by apply Array.ext';rw [<- e1];simp
      have e2':captured.map a.eval=us.toArray:=by apply Array.ext';rw [<- e2];simp
      simp [execOp,Instr.makeFunc,e1',e2']
    · cases h
  case h_10 t x =>
    split at h
    · rename_i v' k _ _ _ _ hx hg
      obtain ⟨d,hu,hk⟩:=kget hT hg
      split at h
      · cases h
      · cases h
      · cases h
        rename_i h1 h2
        cases d <;> first | (simp [execOp,Instr.makeInterface,run_underlying hu,hs _ _ hx];done) | (cases k <;> simp_all [tkB])
    · cases h
  case h_11 args ts =>
    split at h
    · rename_i x t hx ht
      split at h
      · rename_i u hu
        obtain ⟨args⟩:=args
        obtain ⟨ts⟩:=ts
        simp only at hx ht
        subst hx;subst ht
        unfold lenPo at h
        split at h
        · rename_i A n c
          split at h
          · rename_i hg
            cases h
            simp [execOp,resolve,invoke,builtin,hs _ _ hu,Builtin.len_,run_underlying (bx hT hg),goInt]
          · cases h
        · rename_i s
          split at h
          · rename_i hg
            cases h
            simp [execOp,resolve,invoke,builtin,hs _ _ hu,Builtin.len_,run_underlying (und_str hT hg),goInt]
          · cases h
        · cases h
      · cases h
    · cases h
  case h_12=>cases h
end Go.Jog
namespace Go.Jog
open Go

structure Cx where
  P:Program
  T:Tab
  mixed:P.follows .mixedOrders=true
  hT:tabB P T=true

structure Bs where
  w0:World
  C0:Mem
  L0:List Ent

def Bs.cls (b:Bs):Mem × List Ent->World->Prop:=Jog.cls b.w0 b.C0 b.L0

abbrev It:=Nat × Nat × Oper

structure Rg (n:Nat)(ds:List (Option Nat)) where
  b:Bs
  ops:Array Oper
  kd:Nat->Nat
  Post:Act->Mem × List Ent->Prop
  hy:∀ tmps,yielded ops tmps=yld ds tmps
  dd:List Deferred

def D (cx:Cx){n:Nat}{ds:List (Option Nat)}(R:Rg n ds)(its:List It)(fr:Fr)(C:Mem)(L:List Ent):Prop :=
  R.b.C0.le C->(∀ x∈its,R.kd x.1=x.2.1/\R.ops[x.1]?=some x.2.2)->∀ a,FrOk n ds R.dd fr a->DU cx.P R.ops R.b.cls kle R.kd R.Post (its.map (·.1)) a (C,L)

def wfG (ds:List (Option Nat))(fr:Fr)(g:GL):Bool:=g.all fun p=>match ((ds[p.1]?).bind id).bind fr.get with
  | some (_,.bool _)=>true
  | _=>false

theorem wfG_spec {ds:List (Option Nat)}{fr:Fr}{g:GL}(h:wfG ds fr g=true):∀ p∈g,∃ g' b,((ds[p.1]?).bind id).bind fr.get=some (g',.bool b):=by
  intro p hp
  have:=List.all_eq_true.1 h p hp
  split at this
  · rename_i g' b hb;exact ⟨g',b,hb⟩
  · cases this

theorem wanted_iff {n:Nat}{ds:List (Option Nat)}{ops:Array Oper}(hy:∀ tmps,yielded ops tmps=yld ds tmps){fr:Fr}{a:Act}{dd:List Deferred}(h:FrOk n ds dd fr a){o:Oper}{g:GL}(hg:gOf ds fr o.guard=some g) :
    Region.wanted o (yielded ops a.tmps)=true ↔ GH ds a.tmps g:=by
  unfold Region.wanted
  rw [hy]
  cases hgd:o.guard with
  | none =>
    rw [hgd] at hg
    simp only [gOf,Option.some.injEq] at hg
    subst hg
    simp [GH]
  | some jw =>
    obtain ⟨j,w⟩:=jw
    rw [hgd] at hg
    simp only [gOf] at hg
    split at hg
    · rename_i g' b hb
      cases hg
      simp only [beq_iff_eq]
      constructor
      · intro hyl p hp
        rcases List.mem_cons.1 hp with rfl | hp
        · exact hyl
        · obtain ⟨d,hd,ht⟩:=yld_some hyl
          rw [hd] at hb
          have he:=h.ent d g' (.bool b) hb
          by_cases hG:GH ds a.tmps g'
          · exact hG p hp
          · have:=he.2 hG
            rw [ht] at this
            simp [undef] at this
      · intro hG
        exact hG (j,w) (by simp)
    · cases hg

def gOn (ds:List (Option Nat))(fr:Fr):Option (Nat × Bool)->Bool
  | none=>true
  | some (j,w)=>match ((ds[j]?).bind id).bind fr.get with
    | some ([],.bool b)=>b == w
    | _=>false
def gOff (ds:List (Option Nat))(fr:Fr):Option (Nat × Bool)->Bool
  | none=>false
  | some (j,w)=>match ((ds[j]?).bind id).bind fr.get with
    | some ([],.bool b)=>b != w
    | some ([],.tuple _)=>true
    | _=>false

theorem wanted_on {n:Nat}{ds:List (Option Nat)}{ops:Array Oper}(hy:∀ tmps,yielded ops tmps=yld ds tmps){fr:Fr}{a:Act}{dd:List Deferred}(h:FrOk n ds dd fr a){o:Oper}(hg:gOn ds fr o.guard=true):Region.wanted o (yielded ops a.tmps)=true:=by
  unfold Region.wanted
  rw [hy]
  cases hgd:o.guard with
  | none=>rfl
  | some jw =>
    obtain ⟨j,w⟩:=jw
    rw [hgd] at hg
    simp only [gOn] at hg
    split at hg
    · rename_i b hb
      simp only [beq_iff_eq] at hg
      subst hg
      simp only [beq_iff_eq]
      unfold yld
      cases hd:(ds[j]?).bind id with
      | none=>rw [hd] at hb;cases hb
      | some d =>
        rw [hd] at hb
        have:=(h.ent d [] _ hb).1 (fun p hp=>by cases hp)
        simp [this]
    · cases hg

theorem wanted_off {n:Nat}{ds:List (Option Nat)}{ops:Array Oper}(hy:∀ tmps,yielded ops tmps=yld ds tmps){fr:Fr}{a:Act}{dd:List Deferred}(h:FrOk n ds dd fr a){o:Oper}(hg:gOff ds fr o.guard=true):Region.wanted o (yielded ops a.tmps)=false:=by
  unfold Region.wanted
  rw [hy]
  cases hgd:o.guard with
  | none=>rw [hgd] at hg;cases hg
  | some jw =>
    obtain ⟨j,w⟩:=jw
    rw [hgd] at hg
    simp only [gOff] at hg
    split at hg
    · rename_i b hb
      simp only [beq_eq_false_iff_ne]
      unfold yld
      cases hd:(ds[j]?).bind id with
      | none=>rw [hd] at hb;cases hb
      | some d =>
        rw [hd] at hb
        have:=(h.ent d [] _ hb).1 (fun p hp=>by cases hp)
        simp [this]
        intro e
        subst e
        simp at hg
    · rename_i b hb
      simp only [beq_eq_false_iff_ne]
      unfold yld
      cases hd:(ds[j]?).bind id with
      | none=>rw [hd] at hb;cases hb
      | some d =>
        rw [hd] at hb
        have:=(h.ent d [] _ hb).1 (fun p hp=>by cases hp)
        simp [this]
    · cases hg

section
variable {cx:Cx} {n:Nat} {ds:List (Option Nat)} {R:Rg n ds} {its:List It} {fr:Fr} {C:Mem} {L:List Ent} {i k d:Nat} {o:Oper} {g:GL} {v:Value}

theorem D.det (hk:Nat.ble k 1=true)(hd:o.dst=some d)(hg:gOf ds fr o.guard=some g)(hp:aG n ds ((d,g,v)::fr) d=true)(hwf:wfG ds fr g=true)
    (hrun:GT ds fr g->∀ a,Sees (ev fr g) a->∀ κ',(k=1->kle (C,L) κ')->∀ w,R.b.cls κ' w->o.quietAt cx.P a (R.b.cls κ') w v)
    (h:D cx R its ((d,g,v)::fr) C L):D cx R ((i,k,o)::its) fr C L:=by
  intro hC0 hits a ha
  obtain ⟨hkd,ho⟩:=hits (i,k,o) (by simp)
  simp only at hkd ho
  have hk1:k<=1:=by rw [Nat.ble_eq] at hk;exact hk
  simp only [List.map_cons,DU]
  unfold dT
  simp only [ho,hkd,hk1,if_true,hd]
  have hw:=wanted_iff R.hy ha hg
  by_cases hG:GH ds a.tmps g
  · refine ⟨v,fun κ' hκ=>.inl ⟨hw.2 hG,fun w hcw=>hrun (GT_of ha hG (wfG_spec hwf)) a (fun x u hx=>bl ha hG hx) κ' hκ w hcw⟩, ?_⟩
    exact h hC0 (fun x hx=>hits x (by simp [hx])) _ (ha.put hp ⟨fun _=>rfl,fun hn=>absurd hG hn⟩)
  · refine ⟨undef,fun κ' hκ=>.inr ⟨by cases hx:Region.wanted o (yielded R.ops a.tmps) with | false=>rfl | true=>exact absurd (hw.1 hx) hG,rfl⟩, ?_⟩
    exact h hC0 (fun x hx=>hits x (by simp [hx])) _ (ha.put hp ⟨fun hn=>absurd hn hG,fun _=>rfl⟩)

theorem D.pure (hk:Nat.ble k 1=true)(hd:o.dst=some d)(hg:gOf ds fr o.guard=some g)(hv:po cx.T (ev fr g) o.op=some v)(hp:aG n ds ((d,g,v)::fr) d=true)(hwf:wfG ds fr g=true)
    (h:D cx R its ((d,g,v)::fr) C L):D cx R ((i,k,o)::its) fr C L :=
  D.det hk hd hg hp hwf (fun _ a hs κ' _ w _=>by
    unfold Oper.quietAt
    rw [po_spec cx.hT (fun x u hx=>hs x u hx) hv w]
    exact ⟨rfl,rfl⟩) h

theorem D.ac  (h:D cx R its ((d,g,v)::fr) C L) (hk:Nat.ble k 1=true:=by rfl) (hd:o.dst=some d:=by rfl) (hg:gOf ds fr o.guard=some g:=by rfl) (hv:po cx.T (ev fr g) o.op=some v:=by rfl) (hp:aG n ds ((d,g,v)::fr) d=true:=by rfl) (hwf:wfG ds fr g=true:=by rfl):D cx R ((i,k,o)::its) fr C L:=D.pure hk hd hg hv hp hwf h
def idxOf (ds:List (Option Nat))(t:Nat):Nat->Option Nat
  | j=>match ds with
    | []=>none
    | some d::r=>bif Nat.beq d t then some j else idxOf r t (j+1)
    | none::r=>idxOf r t (j+1)

theorem idxOf_spec:∀ {ds:List (Option Nat)}{t j m:Nat},idxOf ds t j=some m->j<=m/\(ds[m-j]?).bind id=some t
  | [],t,j,m,h=>by simp [idxOf] at h
  | some d::r,t,j,m,h=>by
    simp only [idxOf] at h
    cases hb:Nat.beq d t with
    | true =>
      rw [hb] at h
      simp only [cond_true,Option.some.injEq] at h
      subst h
      exact ⟨Nat.le_refl _,by simp [Nat.eq_of_beq_eq_true hb]⟩
    | false =>
      rw [hb] at h
      obtain ⟨h1,h2⟩:=idxOf_spec h
      refine ⟨by omega, ?_⟩
      rw [show m-j=(m-(j+1))+1 by omega]
      simpa using h2
  | none::r,t,j,m,h=>by
    simp only [idxOf] at h
    obtain ⟨h1,h2⟩:=idxOf_spec h
    refine ⟨by omega, ?_⟩
    rw [show m-j=(m-(j+1))+1 by omega]
    simpa using h2

theorem D.pickCore {tc jc:Nat}{x y:Operand}{cb xb yb:Bool}(hk:Nat.ble k 1=true)(hd:o.dst=some d)(hop:o.op=.pick (.tmp tc) x y)(hg:gOf ds fr o.guard=some g)
    (hc:ev fr g (.tmp tc)=some (.bool cb)) (hj:idxOf ds tc 0=some jc)
    (hx:ev fr ((jc,true)::g) x=some (.bool xb)) (hy:ev fr ((jc,false)::g) y=some (.bool yb)) (hr:v=.bool (bif cb then xb else yb))
    (hp:aG n ds ((d,g,v)::fr) d=true)
    (h:D cx R its ((d,g,v)::fr) C L):D cx R ((i,k,o)::its) fr C L:=by
  intro hC0 hits a ha
  obtain ⟨hkd,ho⟩:=hits (i,k,o) (by simp)
  simp only at hkd ho
  have hk1:k<=1:=by rw [Nat.ble_eq] at hk;exact hk
  simp only [List.map_cons,DU]
  unfold dT
  simp only [ho,hkd,hk1,if_true,hd]
  have hw:=wanted_iff R.hy ha hg
  by_cases hG:GH ds a.tmps g
  · have hcv:a.eval (.tmp tc)=.bool cb:=bl ha hG hc
    have hslot:a.tmps[tc]?=some (.bool cb):=by
      simp only [Act.eval,Array.getD_eq_getD_getElem?] at hcv
      cases ht:a.tmps[tc]? with
      | none=>rw [ht] at hcv;simp [undef] at hcv
      | some u=>rw [ht] at hcv;simp at hcv;rw [hcv]
    have hyl:yld ds a.tmps jc=some cb:=by
      unfold yld
      have:=(idxOf_spec hj).2
      simp only [Nat.sub_zero] at this
      rw [this]
      simp [hslot]
    have hval:(execOp a.eval o)=Pure.pure (.value v):=by
      have e1:execOp a.eval o=(do Pure.pure (.value (if <- asBool (a.eval (.tmp tc)) then a.eval x else a.eval y)):Sem Next):=by unfold execOp;rw [hop]
      rw [e1,hcv,hr]
      cases cb with
      | true =>
        have hG':GH ds a.tmps ((jc,true)::g):=fun p hp'=>by
          rcases List.mem_cons.1 hp' with rfl | hp'
          · exact hyl
          · exact hG p hp'
        rw [bl ha hG' hx]
        rfl
      | false =>
        have hG':GH ds a.tmps ((jc,false)::g):=fun p hp'=>by
          rcases List.mem_cons.1 hp' with rfl | hp'
          · exact hyl
          · exact hG p hp'
        rw [bl ha hG' hy]
        rfl
    refine ⟨v,fun κ' hκ=>.inl ⟨hw.2 hG,fun w hcw=>?_⟩, ?_⟩
    · unfold Oper.quietAt
      rw [hval]
      exact ⟨rfl,rfl⟩
    · exact h hC0 (fun x hx=>hits x (by simp [hx])) _ (ha.put hp ⟨fun _=>rfl,fun hn=>absurd hG hn⟩)
  · refine ⟨undef,fun κ' hκ=>.inr ⟨by cases hx:Region.wanted o (yielded R.ops a.tmps) with | false=>rfl | true=>exact absurd (hw.1 hx) hG,rfl⟩, ?_⟩
    exact h hC0 (fun x hx=>hits x (by simp [hx])) _ (ha.put hp ⟨fun hn=>absurd hn hG,fun _=>rfl⟩)

theorem D.pickAnd {tc jc:Nat}{x:Operand}{cb xb:Bool}(hk:Nat.ble k 1=true)(hd:o.dst=some d)(hop:o.op=.pick (.tmp tc) x (.const (.bool false)))(hg:gOf ds fr o.guard=some g)
    (hc:ev fr g (.tmp tc)=some (.bool cb)) (hj:idxOf ds tc 0=some jc)
    (hx:ev fr ((jc,true)::g) x=some (.bool xb))
    (hp:aG n ds ((d,g,.bool (cb && xb))::fr) d=true)
    (h:D cx R its ((d,g,.bool (cb && xb))::fr) C L):D cx R ((i,k,o)::its) fr C L :=
  D.pickCore hk hd hop hg hc hj hx (yb:=false) rfl (by cases cb <;> rfl) hp h

theorem D.aq {tc jc:Nat}{x:Operand}{cb xb:Bool}(h:D cx R its ((d,g,.bool (cb && xb))::fr) C L)(hk:Nat.ble k 1=true:=by rfl)(hd:o.dst=some d:=by rfl)(hop:o.op=.pick (.tmp tc) x (.const (.bool false)):=by rfl)(hg:gOf ds fr o.guard=some g:=by rfl)(hc:ev fr g (.tmp tc)=some (.bool cb):=by rfl)(hj:idxOf ds tc 0=some jc:=by rfl)(hx:ev fr ((jc,true)::g) x=some (.bool xb):=by rfl)(hp:aG n ds ((d,g,.bool (cb && xb))::fr) d=true:=by rfl):D cx R ((i,k,o)::its) fr C L:=D.pickAnd hk hd hop hg hc hj hx hp h
theorem D.aF {tc jc:Nat}{y:Operand}{cb yb:Bool}(hk:Nat.ble k 1=true)(hd:o.dst=some d)(hop:o.op=.pick (.tmp tc) (.const (.bool true)) y)(hg:gOf ds fr o.guard=some g)
    (hc:ev fr g (.tmp tc)=some (.bool cb)) (hj:idxOf ds tc 0=some jc)
    (hy:ev fr ((jc,false)::g) y=some (.bool yb))
    (hp:aG n ds ((d,g,.bool (cb || yb))::fr) d=true)
    (h:D cx R its ((d,g,.bool (cb || yb))::fr) C L):D cx R ((i,k,o)::its) fr C L :=
  D.pickCore hk hd hop hg hc hj (xb:=true) rfl hy (by cases cb <;> rfl) hp h

theorem D.eg {S:Value->Mem->List Ent->Prop}(hk:Nat.ble k 1=false)(hd:o.dst=some d)(hg:gOn ds fr o.guard=true)(hp:∀ v,aG n ds ((d,[],v)::fr) d=true)
    (hrun:∀ a,Sees (ev fr []) a->∀ w,R.b.C0.le C->R.b.cls (C,L) w->o.wp cx.P a w (fun a' w'=>∃ v C' L',a'=a.put o.dst v/\C.le C'/\(k=2->∀ x∈L,x∈L')/\R.b.cls (C',L') w'/\S v C' L') (QN fun _ _=>False))
    (h:∀ v C' L',C.le C'->S v C' L'->D cx R its ((d,[],v)::fr) C' L'):D cx R ((i,k,o)::its) fr C L:=by
  intro hC0 hits a ha
  obtain ⟨hkd,ho⟩:=hits (i,k,o) (by simp)
  simp only at hkd ho
  have hk1:¬ k<=1:=fun hle=>by rw [<- Nat.ble_eq] at hle;rw [hle] at hk;cases hk
  simp only [List.map_cons,DU]
  unfold dT
  simp only [ho,hkd,hk1,if_false]
  intro w hw
  unfold wpOp
  simp only [ho]
  have hwt:Region.wanted o (yielded R.ops a.tmps)=true:=wanted_on R.hy ha hg
  simp only [hwt,if_true]
  refine .inl (Oper.wp_mono (fun a' w' ⟨v,C',L',e,hle,hL,hc,hS⟩=>⟨(C',L'),fun h2=>⟨hle,hL h2⟩,hc, ?_⟩) (hrun a (fun x u hx=>bl ha (fun p hp=>by cases hp) hx) w hC0 hw))
  rw [e,hd]
  refine h v C' L' hle hS (hC0.trans hle) (fun x hx=>hits x (by simp [hx])) _ (ha.put (hp v) ⟨fun _=>rfl,fun hn=>absurd (fun p hp=>by cases hp) hn⟩)

theorem D.eff0 {S:Mem->List Ent->Prop}(hk:Nat.ble k 1=false)(hg:gOn ds fr o.guard=true)
    (hrun:∀ a,Sees (ev fr []) a->∀ w,R.b.C0.le C->R.b.cls (C,L) w->o.wp cx.P a w (fun a' w'=>∃ C' L',a'=a/\C.le C'/\(k=2->∀ x∈L,x∈L')/\R.b.cls (C',L') w'/\S C' L') (QN fun _ _=>False))
    (h:∀ C' L',C.le C'->S C' L'->D cx R its fr C' L'):D cx R ((i,k,o)::its) fr C L:=by
  intro hC0 hits a ha
  obtain ⟨hkd,ho⟩:=hits (i,k,o) (by simp)
  simp only at hkd ho
  have hk1:¬ k<=1:=fun hle=>by rw [<- Nat.ble_eq] at hle;rw [hle] at hk;cases hk
  simp only [List.map_cons,DU]
  unfold dT
  simp only [ho,hkd,hk1,if_false]
  intro w hw
  unfold wpOp
  simp only [ho]
  have hwt:Region.wanted o (yielded R.ops a.tmps)=true:=wanted_on R.hy ha hg
  simp only [hwt,if_true]
  refine .inl (Oper.wp_mono (fun a' w' ⟨C',L',e,hle,hL,hc,hS⟩=>⟨(C',L'),fun h2=>⟨hle,hL h2⟩,hc, ?_⟩) (hrun a (fun x u hx=>bl ha (fun p hp=>by cases hp) hx) w hC0 hw))
  rw [e]
  exact h C' L' hle hS (hC0.trans hle) (fun x hx=>hits x (by simp [hx])) _ ha
end

section
variable {cx:Cx} {n:Nat} {ds:List (Option Nat)} {R:Rg n ds} {its:List It} {fr:Fr} {C:Mem} {L:List Ent} {i k d:Nat} {o:Oper} {g:GL} {v:Value}

theorem D.skip (hd:o.dst=some d)(hg:gOff ds fr o.guard=true)(hp:aG n ds ((d,[],undef)::fr) d=true)
    (h:D cx R its ((d,[],undef)::fr) C L):D cx R ((i,k,o)::its) fr C L:=by
  intro hC0 hits a ha
  obtain ⟨hkd,ho⟩:=hits (i,k,o) (by simp)
  simp only at hkd ho
  have hw:=wanted_off R.hy ha hg
  simp only [List.map_cons,DU]
  unfold dT
  simp only [ho,hkd]
  by_cases hk1:k<=1
  · simp only [hk1,if_true,hd]
    refine ⟨undef,fun κ' hκ=>.inr ⟨hw,rfl⟩, ?_⟩
    exact h hC0 (fun x hx=>hits x (by simp [hx])) _ (ha.put hp ⟨fun _=>rfl,fun hn=>absurd (fun p hp=>by cases hp) hn⟩)
  · simp only [hk1,if_false]
    intro w hcw
    unfold wpOp
    simp only [ho,hw,Bool.false_eq_true,if_false]
    refine ⟨(C,L),fun _=>kle.refl _,hcw, ?_⟩
    rw [hd]
    exact h hC0 (fun x hx=>hits x (by simp [hx])) _ (ha.put hp ⟨fun _=>rfl,fun hn=>absurd (fun p hp=>by cases hp) hn⟩)

end
/-! ### Reading memory that nobody writes -/
def CCell (C:Mem)(a:Addr)(v:Value):Prop:=a.spot=none/\∃ blk t fz,C a.block=some (.cells blk t fz)/\blk[a.off]?=some v

theorem CCell.mono {C D:Mem}{a:Addr}{v:Value}(h:CCell C a v)(hl:C.le D):CCell D a v :=
  let ⟨h0,blk,t,fz,h1,h2⟩:=h
  ⟨h0,blk,t,fz,hl _ _ h1,h2⟩

theorem CCell.cell {C:Mem}{L:List Ent}{w:World}{a:Addr}{v:Value}(h:CCell C a v)(hs:Sep C L w):w.cell? a=some v:=by
  obtain ⟨h0,blk,t,fz,h1,h2⟩:=h
  simp [World.cell?,hs.c _ _ h1,h0,h2]

def PtrTo (C:Mem)(p:Value)(cs:List Value):Prop:=∃ a:Addr,p=.pointer (some a)/\a.spot=none/\∀ j v,cs[j]?=some v->CCell C (a.add j) v

theorem PtrTo.mono {C D:Mem}{p:Value}{cs:List Value}(h:PtrTo C p cs)(hl:C.le D):PtrTo D p cs :=
  let ⟨a,h1,h2,h3⟩:=h
  ⟨a,h1,h2,fun j v hj=>(h3 j v hj).mono hl⟩

theorem add_add (a:Addr)(i j:Nat)(h:a.spot=none):(a.add i).add j=a.add (i+j):=by
  obtain ⟨b,o,s⟩:=a
  simp only at h
  subst h
  unfold Addr.add
  by_cases hi:i=0 <;> by_cases hj:j=0 <;> simp [hi,hj,Nat.add_assoc]
theorem spot_add (a:Addr)(i:Nat)(h:a.spot=none):(a.add i).spot=none:=by
  unfold Addr.add;split <;> simp [h]

theorem PtrTo.part {C:Mem}{p:Value}{cs:List Value}(h:PtrTo C p cs)(o s:Nat):∃ a:Addr,p=.pointer (some a)/\PtrTo C (.pointer (some (a.add o))) ((cs.drop o).take s):=by
  obtain ⟨a,h1,h2,h3⟩:=h
  refine ⟨a,h1,a.add o,rfl,spot_add a o h2,fun j v hj=>?_⟩
  rw [add_add a o j h2]
  refine h3 _ v ?_
  rw [List.getElem?_take] at hj
  split at hj
  · simpa using hj
  · cases hj

def Sl (C:Mem)(k:Nat)(v:Value)(xs:List (List Value)):Prop :=
  ∃ A c,v=.slice A xs.length c/\xs.length<=c/\c<=maxLen/\(∀ x∈xs,x.length=k)/\∀ i x,xs[i]?=some x->∃ a:Addr,A=some a/\a.spot=none/\∀ j v,x[j]?=some v->CCell C (a.add (i*k+j)) v

theorem Sl.mono {C D:Mem}{k:Nat}{v:Value}{xs:List (List Value)}(h:Sl C k v xs)(hl:C.le D):Sl D k v xs :=
  let ⟨A,c,h1,h2,h3,h4,h5⟩:=h
  ⟨A,c,h1,h2,h3,h4,fun i x hx=>let ⟨a,e1,e2,e3⟩:=h5 i x hx;⟨a,e1,e2,fun j v hj=>(e3 j v hj).mono hl⟩⟩

theorem Sl.nil (C:Mem)(k:Nat):Sl C k (.slice none 0 0) []:=⟨none,0,rfl,Nat.le_refl _,Nat.zero_le _,fun x hx=>(by cases hx),fun i x hx=>(by simp at hx)⟩

theorem Sl.ptr {C:Mem}{k:Nat}{v:Value}{xs:List (List Value)}(h:Sl C k v xs){i:Nat}{x:List Value}(hi:xs[i]?=some x) :
    ∃ (a:Addr)(c:Nat),v=.slice (some a) xs.length c/\i<xs.length/\PtrTo C (.pointer (some (a.add (i*k)))) x:=by
  obtain ⟨A,c,h1,h2,h3,h4,h5⟩:=h
  obtain ⟨a,rfl,e2,e3⟩:=h5 i x hi
  exact ⟨a,c,h1,(List.getElem?_eq_some_iff.1 hi).1,a.add (i*k),rfl,spot_add a _ e2,fun j v hj=>by rw [add_add a _ j e2];exact e3 j v hj⟩

theorem run_load_cells {P:Program}{w:World}{a:Addr}{cs:List Value}(h:∀ j v,cs[j]?=some v->w.cell? (a.add j)=some v):(loadCells a cs.length).run P w=.ok cs.toArray w:=run_loadCells_list (P:=P) (w:=w) a cs h

theorem dA {T:Tab}{P:Program}(hT:tabB P T=true){t:Nat}{ti:TI}(ht:T.get t=some ti){w:World}{a:Addr}{cs:List Value}(h:∀ j v,cs[j]?=some v->w.cell? (a.add j)=some v)
    {v:Value} (hv:(bif ti.agg then (bif Nat.beq cs.length ti.size then some (.agg cs.toArray) else none) else cs[0]?)=some v):(loadVar t a).run P w=.ok v w:=by
  unfold loadVar
  simp only [Sem.run_bind,is_agg hT ht w,Result.andThen_ok]
  cases hag:ti.agg with
  | true =>
    rw [hag] at hv
    simp only [cond_true] at hv
    cases hl:Nat.beq cs.length ti.size with
    | false=>rw [hl] at hv;cases hv
    | true =>
      rw [hl] at hv
      simp only [cond_true,Option.some.injEq] at hv
      subst hv
      have hlen:=Nat.eq_of_beq_eq_true hl
      simp only [if_true,Sem.run_bind,cF hT ht w,Result.andThen_ok,<- hlen,run_load_cells h]
      rfl
  | false =>
    rw [hag] at hv
    simp only [cond_false] at hv
    have:=h 0 v hv
    simp only [Addr.add,if_true] at this
    simp [this]

section
variable {cx:Cx} {n:Nat} {ds:List (Option Nat)} {R:Rg n ds} {its:List It} {fr:Fr} {C:Mem} {L:List Ent} {i k d:Nat} {o:Oper} {g:GL} {v:Value}

def bS (ti:TI)(cs:List Value):Option Value:=bif ti.agg then (bif Nat.beq cs.length ti.size then some (.agg cs.toArray) else none) else cs[0]?

theorem D.aU {t:Nat}{x:Operand}{p:Value}{cs:List Value}{ti:TI}(hk:k=1)(hd:o.dst=some d)(hop:o.op=.load t x)(hg:gOf ds fr o.guard=some g)(hx:ev fr g x=some p)
    (ht:cx.T.get t=some ti) (hc:GT ds fr g->PtrTo C p cs) (hv:bS ti cs=some v) (hp:aG n ds ((d,g,v)::fr) d=true) (hwf:wfG ds fr g=true)
    (h:D cx R its ((d,g,v)::fr) C L):D cx R ((i,k,o)::its) fr C L :=
  D.det (by subst hk;rfl) hd hg hp hwf (fun hGT a hs κ' hκ w hw=>by
    obtain ⟨ad,rfl,_,hcell⟩:=hc hGT
    have hex:(execOp a.eval o).run cx.P w=.ok (.value v) w:=by
      have e1:execOp a.eval o=(do Pure.pure (.value (<- Instr.loadAt t (a.eval x))):Sem Next):=by unfold execOp;rw [hop]
      rw [e1,hs _ _ hx]
      simp only [Instr.loadAt,Instr.sureAddr,Sem.run_bind,Sem.run_pure,Result.andThen_ok]
      rw [dA cx.hT ht (fun j u hj=>((hcell j u hj).mono (hκ hk).1).cell hw.sep) hv]
      rfl
    unfold Oper.quietAt
    rw [hex]
    exact ⟨rfl,rfl⟩) h

theorem D.loadL {t b off:Nat}{x:Operand}{cs:List Value}{tb:TypeId}{fz:Nat × Nat}{ti:TI}(hm:Ent.obj b (.cells ⟨cs⟩ tb fz)∈L)(hk:k=1)(hd:o.dst=some d)(hop:o.op=.load t x)(hg:gOf ds fr o.guard=some g)(hx:ev fr g x=some (.pointer (some ⟨b,off,none⟩)))
    (ht:cx.T.get t=some ti) (hv:bS ti ((cs.drop off).take ti.size)=some v) (hp:aG n ds ((d,g,v)::fr) d=true) (hwf:wfG ds fr g=true)
    (h:D cx R its ((d,g,v)::fr) C L):D cx R ((i,k,o)::its) fr C L :=
  D.det (by subst hk;rfl) hd hg hp hwf (fun _ a hs κ' hκ w hw=>by
    have hb:w.heap[b]?=some (.cells ⟨cs⟩ tb fz):=hw.sep.e _ ((hκ hk).2 _ hm)
    have hcell:∀ j u,((cs.drop off).take ti.size)[j]?=some u->w.cell? ((⟨b,off,none⟩:Addr).add j)=some u:=fun j u hj=>by
      rw [Addr.add_lit,cell_of_row w b (off+j) _ tb fz hb]
      rw [List.getElem?_take] at hj
      split at hj
      · simpa using hj
      · cases hj
    have hex:(execOp a.eval o).run cx.P w=.ok (.value v) w:=by
      have e1:execOp a.eval o=(do Pure.pure (.value (<- Instr.loadAt t (a.eval x))):Sem Next):=by unfold execOp;rw [hop]
      rw [e1,hs _ _ hx]
      simp only [Instr.loadAt,Instr.sureAddr,Sem.run_bind,Sem.run_pure,Result.andThen_ok]
      rw [dA cx.hT ht hcell hv]
      rfl
    unfold Oper.quietAt
    rw [hex]
    exact ⟨rfl,rfl⟩) h

theorem D.ae {t b off:Nat}{x:Operand}{cs:List Value}{tb:TypeId}{fz:Nat × Nat}{ti:TI}(hm:Ent.obj b (.cells ⟨cs⟩ tb fz)∈L)(h:D cx R its ((d,g,v)::fr) C L)(hk:k=1:=by rfl)(hd:o.dst=some d:=by rfl)(hop:o.op=.load t x:=by rfl)(hg:gOf ds fr o.guard=some g:=by rfl)(hx:ev fr g x=some (.pointer (some ⟨b,off,none⟩)):=by rfl)(ht:cx.T.get t=some ti:=by rfl)(hv:bS ti ((cs.drop off).take ti.size)=some v:=by rfl)(hp:aG n ds ((d,g,v)::fr) d=true:=by rfl)(hwf:wfG ds fr g=true:=by rfl):D cx R ((i,k,o)::its) fr C L:=D.loadL hm hk hd hop hg hx ht hv hp hwf h
theorem D.index {t e:Nat}{x y:Operand}{ki:IntKind}{m:Int}{s:Value}{ke:Nat}{xs:List (List Value)}{row:List Value}{ti te:TI}(hk:Nat.ble k 1=true)(hd:o.dst=some d)(hop:o.op=.indexAddr t x y)
    (hg:gOf ds fr o.guard=some g) (hx:ev fr g x=some s) (hy:ev fr g y=some (.int ki m)) (ht:cx.T.get t=some ti) (hte:ti.k=.slice e) (he:cx.T.get e=some te) (hsz:te.size=ke)
    (hs:GT ds fr g->Sl C ke s xs/\0<=m/\xs[m.toNat]?=some row) (hp:∀ v,aG n ds ((d,g,v)::fr) d=true) (hwf:wfG ds fr g=true)
    (h:∀ p,(GT ds fr g->PtrTo C p row)->D cx R its ((d,g,p)::fr) C L):D cx R ((i,k,o)::its) fr C L:=by
  have hu:cx.P.underlying t=some (.slice e):=by
    obtain ⟨kk,s1,b1,z1,g1⟩:=ti
    simp only at hte
    subst hte
    exact bx cx.hT ht
  by_cases hG:GT ds fr g
  · obtain ⟨hsl,hm,hrow⟩:=hs hG
    obtain ⟨a0,c0,hv0,hlt,hpt⟩:=hsl.ptr hrow
    refine D.det hk hd hg (hp (.pointer (some (a0.add (m.toNat*ke))))) hwf (fun _ a hsee κ' hκ w hw=>?_) (h _ (fun _=>hpt))
    have hex:(execOp a.eval o).run cx.P w=.ok (.value (.pointer (some (a0.add (m.toNat*ke))))) w:=by
      have e1:execOp a.eval o=(do Pure.pure (.value (<- Instr.indexAt t (a.eval x) (a.eval y))):Sem Next):=by unfold execOp;rw [hop]
      rw [e1,hsee _ _ hx,hsee _ _ hy,hv0]
      have h2:=cF cx.hT he w
      rw [hsz] at h2
      have hmlt:m<(xs.length:Int):=by omega
      simp [Instr.indexAt,asIntOf,run_underlying hu,h2,hm,hmlt]
    unfold Oper.quietAt
    rw [hex]
    exact ⟨rfl,rfl⟩
  · exact D.det hk hd hg (hp undef) hwf (fun hGT=>absurd hGT hG) (h _ (fun hGT=>absurd hGT hG))

end
end Go.Jog
namespace Go.Jog
open Go

section
variable {cx:Cx} {n:Nat} {ds:List (Option Nat)} {R:Rg n ds} {its:List It} {fr:Fr} {C:Mem} {L:List Ent} {i k d:Nat} {o:Oper} {g:GL} {v:Value}

theorem D.newObj {f:Nat->Value}{ob:Obj}(hk:Nat.ble k 1=false)(hd:o.dst=some d)(hg:gOn ds fr o.guard=true)(hp:∀ v,aG n ds ((d,[],v)::fr) d=true)
    (hrun:∀ a,Sees (ev fr []) a->∀ w,(execOp a.eval o).run cx.P w=.ok (.value (f w.heap.size)) (w.alloc ob))
    (h:∀ b,D cx R its ((d,[],f b)::fr) C (.obj b ob::L)):D cx R ((i,k,o)::its) fr C L :=
  D.eg (S:=fun v C' L'=>C'=C/\∃ b,v=f b/\L'=.obj b ob::L) hk hd hg hp (fun a hs w _ hw=>by
    unfold Oper.wp
    rw [hrun a hs w]
    exact ⟨_,C,.obj w.heap.size ob::L,rfl,Mem.le.refl _,fun _ x hx=>by simp [hx],St.alloc hw ob,rfl,_,rfl,rfl⟩)
    (fun v C' L' _ ⟨e1,b,e2,e3⟩=>by subst e1;subst e2;subst e3;exact h b)

theorem D.newConst {f:Nat->Value}{ob:Obj}(hk:Nat.ble k 1=false)(hd:o.dst=some d)(hg:gOn ds fr o.guard=true)(hp:∀ v,aG n ds ((d,[],v)::fr) d=true)
    (hrun:∀ a,Sees (ev fr []) a->∀ w,(execOp a.eval o).run cx.P w=.ok (.value (f w.heap.size)) (w.alloc ob))
    (h:∀ b C',C.le C'->C' b=some ob->D cx R its ((d,[],f b)::fr) C' L):D cx R ((i,k,o)::its) fr C L :=
  D.eg (S:=fun v C' L'=>L'=L/\∃ b,v=f b/\C' b=some ob) hk hd hg hp (fun a hs w hC0 hw=>by
    unfold Oper.wp
    rw [hrun a hs w]
    have h1:=St.alloc hw ob
    have h2:=h1.freeze
    exact ⟨_,C.set w.heap.size ob,L,rfl,h2.1,fun _ x hx=>hx,h2.2,rfl,_,rfl,Mem.set_self _ _ _⟩)
    (fun v C' L' hle ⟨e1,b,e2,e3⟩=>by subst e1;subst e2;exact h b C' hle e3)

theorem run_newVar {P:Program}(t:TypeId)(v:Value)(w:World):(newVar t v).run P w=.ok ⟨w.heap.size,0,none⟩ (w.alloc (.cells v.cells t)):=rfl

theorem D.alloc {t:Nat}{ti:TI}(hk:Nat.ble k 1=false)(hd:o.dst=some d)(hg:gOn ds fr o.guard=true)(hop:o.op=.alloc t)(ht:cx.T.get t=some ti)(hp:∀ v,aG n ds ((d,[],v)::fr) d=true)
    (h:∀ b,D cx R its ((d,[],.pointer (some ⟨b,0,none⟩))::fr) C (.obj b (.cells ⟨ti.zero.map Zv.val⟩ t (0,0))::L)):D cx R ((i,k,o)::its) fr C L :=
  D.newObj (f:=fun b=>.pointer (some ⟨b,0,none⟩)) hk hd hg hp (fun a _ w=>by
    have e1:execOp a.eval o=(do Pure.pure (.value (<- Instr.alloc t true (.tuple #[]))):Sem Next):=by unfold execOp;rw [hop]
    obtain ⟨f,_,_,_,_,hz⟩:=(cq cx.hT ht).info
    rw [e1]
    simp only [Instr.alloc,Sem.run_bind,zero_of cx.hT ht w,Result.andThen_ok,run_newVar,Sem.run_pure,hz]) h

theorem D.aj {t:Nat}{ti:TI}(h:∀ b,D cx R its ((d,[],.pointer (some ⟨b,0,none⟩))::fr) C (.obj b (.cells ⟨ti.zero.map Zv.val⟩ t (0,0))::L))(hk:Nat.ble k 1=false:=by rfl)(hd:o.dst=some d:=by rfl)(hg:gOn ds fr o.guard=true:=by rfl)(hop:o.op=.alloc t:=by rfl)(ht:cx.T.get t=some ti:=by rfl)(hp:∀ v,aG n ds ((d,[],v)::fr) d=true:=by intro _;rfl):D cx R ((i,k,o)::its) fr C L:=D.alloc hk hd hg hop ht hp h
theorem D.box {t:Nat}{x:Operand}{cs:List Value}(hk:Nat.ble k 1=false)(hd:o.dst=some d)(hg:gOn ds fr o.guard=true)(hop:o.op=.box t x)(hx:ev fr [] x=some v)(hv:v.cells=⟨cs⟩)(hp:∀ v,aG n ds ((d,[],v)::fr) d=true)
    (h:∀ b,D cx R its ((d,[],.pointer (some ⟨b,0,none⟩))::fr) C (.obj b (.cells ⟨cs⟩ t (0,0))::L)):D cx R ((i,k,o)::its) fr C L :=
  D.newObj (f:=fun b=>.pointer (some ⟨b,0,none⟩)) hk hd hg hp (fun a hs w=>by
    have e1:execOp a.eval o=(do Pure.pure (.value (<- Instr.box t (a.eval x))):Sem Next):=by unfold execOp;rw [hop]
    rw [e1,hs _ _ hx]
    simp only [Instr.box,Sem.run_bind,run_newVar,Result.andThen_ok,Sem.run_pure,hv]) h

theorem D.aB {t:Nat}{x:Operand}{cs:List Value}(h:∀ b,D cx R its ((d,[],.pointer (some ⟨b,0,none⟩))::fr) C (.obj b (.cells ⟨cs⟩ t (0,0))::L))(hk:Nat.ble k 1=false:=by rfl)(hd:o.dst=some d:=by rfl)(hg:gOn ds fr o.guard=true:=by rfl)(hop:o.op=.box t x:=by rfl)(hx:ev fr [] x=some v:=by rfl)(hv:v.cells=⟨cs⟩:=by rfl)(hp:∀ v,aG n ds ((d,[],v)::fr) d=true:=by intro _;rfl):D cx R ((i,k,o)::its) fr C L:=D.box hk hd hg hop hx hv hp h
/-! ### Stores -/
def oneB:Value->Bool
  | .agg _ | .tuple _=>false
  | _=>true
theorem oneB_spec {v:Value}(h:oneB v=true):v.oneCell'=true:=by cases v <;> simp_all [oneB,Value.oneCell']

def au (cs vs:List Value)(off:Nat):List Value:=cs.take off++vs++cs.drop (off+vs.length)

theorem aN:∀ {L:List Ent}{j:Nat}{x:Ent},L[j]?=some x->L.Perm (x::L.eraseIdx j)
  | y::L,0,x,h=>by simp at h;subst h;simp
  | y::L,j+1,x,h=>by
    have h':L[j]?=some x:=by simpa using h
    have:=aN h'
    exact (this.cons y).trans (List.Perm.swap x y _)
  | [],_,_,h=>by simp at h

def pkF:List Nat->List Ent->Option (List Ent)
  | [],L=>some L
  | j::js,L=>match L[j]? with
    | none=>none
    | some x=>match pkF js (L.eraseIdx j) with
      | none=>none
      | some M=>some (x::M)
theorem pkL:∀ {L L':List Ent}(js:List Nat),pkF js L=some L'->L.Perm L'
  | _,_,[],h=>by cases h;exact List.Perm.refl _
  | L,L',j::js,h=>by
    simp only [pkF] at h
    split at h
    · cases h
    · rename_i x hx
      split at h
      · cases h
      · rename_i M hM
        cases h
        exact (aN hx).trans (List.Perm.cons _ (pkL js hM))
theorem St.setRow {w0:World}{C0:Mem}{L0:List Ent}{C:Mem}{L:List Ent}{w:World}{b:Nat}{cs:List Value}{tb:TypeId}(h:St w0 C0 L0 C (.obj b (.cells ⟨cs⟩ tb (0,0))::L) w)(cs':List Value) :
    St w0 C0 L0 C (.obj b (.cells ⟨cs'⟩ tb (0,0))::L) (w.setRow b cs'.toArray):=by
  have hb:w.heap[b]?=some (.cells ⟨cs⟩ tb (0,0)):=h.sep.e _ (List.mem_cons_self ..)
  refine St.put h (setRow_heap w b _ _ tb _ hb) (fun k hk=>setRow_other w b k _ hk) (by simp) rfl rfl rfl (Nat.le_refl _)

theorem run_storeVar {T:Tab}{P:Program}(hT:tabB P T=true){t:Nat}{ti:TI}(ht:T.get t=some ti){w:World}{b off:Nat}{cs:List Value}{tb:TypeId}{v:Value}{vs:List Value}
    (hb:w.heap[b]?=some (.cells ⟨cs⟩ tb (0,0))) (hv:v.cells=⟨vs⟩) (hl:vs.length=ti.size) (hfit:off+vs.length<=cs.length) (h1:∀ u∈vs,u.oneCell'=true) :
    (storeVar t ⟨b,off,none⟩ v).run P w=.ok () (w.setRow b (au cs vs off).toArray):=by
  unfold storeVar
  have hsz:v.cells.size=ti.size:=by rw [hv];simpa using hl
  simp only [Sem.run_bind,cF hT ht w,Result.andThen_ok,hsz,ne_eq,not_true,if_false]
  have:=run_storeCells_at P b off tb vs 0 ⟨cs⟩ w hb (by simpa using hfit) h1
  simp only [Nat.add_zero] at this
  rw [hv]
  exact this

theorem D.store {t b off j:Nat}{x y:Operand}{cs vs:List Value}{tb:TypeId}{ti:TI}(hk:k=3)(hg:gOn ds fr o.guard=true)(hd:o.dst=none)(hop:o.op=.store t x y)
    (hx:ev fr [] x=some (.pointer (some ⟨b,off,none⟩))) (hy:ev fr [] y=some v) (hm:L[j]?=some (.obj b (.cells ⟨cs⟩ tb (0,0))))
    (ht:cx.T.get t=some ti) (hv:v.cells=⟨vs⟩) (hl:Nat.beq vs.length ti.size=true) (hfit:Nat.ble (off+vs.length) cs.length=true) (h1:vs.all oneB=true)
    (h:D cx R its fr C (.obj b (.cells ⟨au cs vs off⟩ tb (0,0))::L.eraseIdx j)):D cx R ((i,k,o)::its) fr C L :=
  D.eff0 (S:=fun C' L'=>C'=C/\L'=.obj b (.cells ⟨au cs vs off⟩ tb (0,0))::L.eraseIdx j) (by subst hk;rfl) hg (fun a hs w _ hw=>by
    have hw':=St.perm hw (aN hm)
    have hb:w.heap[b]?=some (.cells ⟨cs⟩ tb (0,0)):=hw'.sep.e _ (List.mem_cons_self ..)
    have hex:(execOp a.eval o).run cx.P w=.ok .skip (w.setRow b (au cs vs off).toArray):=by
      have e1:execOp a.eval o=(do Instr.storeAt t (a.eval x) (a.eval y);Pure.pure .skip:Sem Next):=by unfold execOp;rw [hop]
      rw [e1,hs _ _ hx,hs _ _ hy]
      simp only [Instr.storeAt,Instr.sureAddr,Sem.run_bind,Sem.run_pure,Result.andThen_ok]
      rw [run_storeVar cx.hT ht hb hv (Nat.eq_of_beq_eq_true hl) (by rw [Nat.ble_eq] at hfit;exact hfit) (fun u hu=>oneB_spec (List.all_eq_true.1 h1 u hu))]
      rfl
    unfold Oper.wp
    rw [hex]
    refine ⟨C,.obj b (.cells ⟨au cs vs off⟩ tb (0,0))::L.eraseIdx j, ?_,Mem.le.refl _,fun h2=>by omega,St.setRow hw' _,rfl,rfl⟩
    rw [hd];rfl)
    (fun C' L' _ ⟨e1,e2⟩=>by subst e1;subst e2;exact h)

theorem D.ag {t b off j:Nat}{x y:Operand}{cs vs:List Value}{tb:TypeId}{ti:TI}(h:D cx R its fr C (.obj b (.cells ⟨au cs vs off⟩ tb (0,0))::L.eraseIdx j))(hk:k=3:=by rfl)(hg:gOn ds fr o.guard=true:=by rfl)(hd:o.dst=none:=by rfl)(hop:o.op=.store t x y:=by rfl)(hx:ev fr [] x=some (.pointer (some ⟨b,off,none⟩)):=by rfl)(hy:ev fr [] y=some v:=by rfl)(hm:L[j]?=some (.obj b (.cells ⟨cs⟩ tb (0,0))):=by rfl)(ht:cx.T.get t=some ti:=by rfl)(hv:v.cells=⟨vs⟩:=by rfl)(hl:Nat.beq vs.length ti.size=true:=by rfl)(hfit:Nat.ble (off+vs.length) cs.length=true:=by rfl)(h1:vs.all oneB=true:=by rfl):D cx R ((i,k,o)::its) fr C L:=D.store hk hg hd hop hx hy hm ht hv hl hfit h1 h
/-! ### Slices that are written out -/
def partsO (ρ:Operand->Option Value)(s:Nat):List (Nat × Operand)->Nat->Option (List Value)
  | [],_=>some []
  | (j,x)::r,m=>bif Nat.beq j m then (match ρ x with
    | some v=>bif Nat.beq v.cells.toList.length s then (match partsO ρ s r (m+1) with
      | some vs=>some (v.cells.toList++vs)
      | none=>none) else none
    | none=>none) else none

theorem foldl_set (cs:List Value)(off:Nat):∀ (vs:List Value)(j:Nat)(acc:Array Value),off+j+vs.length<=acc.size ->
    ((vs.zipIdx j).foldl (fun cs (c,j)=>cs.setIfInBounds (off+j) c) acc).toList=acc.toList.take (off+j)++vs++acc.toList.drop (off+j+vs.length)
  | [],j,acc,h=>by simp
  | v::vs,j,acc,h=>by
    simp only [List.zipIdx_cons,List.foldl_cons]
    simp only [List.length_cons] at h
    rw [foldl_set cs off vs (j+1) _ (by simp;omega)]
    have hl:off+j<acc.toList.length:=by simp;omega
    simp only [Array.toList_setIfInBounds,List.length_cons]
    rw [show off+(j+1)=(off+j)+1 by omega,List.take_succ_eq_append_getElem (by simpa using hl),List.take_set_of_le (Nat.le_refl _)]
    rw [List.drop_set_of_lt om_]
    simp only [List.getElem_set_self,List.append_assoc,List.singleton_append]
    rw [show off+j+1+vs.length=off+j+(vs.length+1) by omega]

theorem fill_parts {ρ:Operand->Option Value}{ρ':Operand->Value}(hρ:∀ x v,ρ x=some v->ρ' x=v){s:Nat}:∀ {ps:List (Nat × Operand)}{m:Nat}{vs:List Value}(acc:Array Value),partsO ρ s ps m=some vs->m*s+vs.length<=acc.size ->
    Instr.fill (fun i=>some (i*s,s)) acc (ps.map fun (i,x)=>(i,ρ' x))=some (acc.toList.take (m*s)++vs++acc.toList.drop (m*s+vs.length)).toArray
  | [],m,vs,acc,h,hl=>by
    simp only [partsO,Option.some.injEq] at h
    subst h
    simp [Instr.fill]
  | (j,x)::r,m,vs,acc,h,hl=>by
    simp only [partsO] at h
    cases hb:Nat.beq j m with
    | false=>rw [hb] at h;cases h
    | true =>
      rw [hb] at h
      obtain rfl:=Nat.eq_of_beq_eq_true hb
      simp only [cond_true] at h
      split at h
      · rename_i v hv
        cases hb2:Nat.beq v.cells.toList.length s with
        | false=>rw [hb2] at h;cases h
        | true =>
          rw [hb2] at h
          simp only [cond_true] at h
          split at h
          · rename_i vs' hvs
            cases h
            have hs:=Nat.eq_of_beq_eq_true hb2
            simp only [Array.length_toList] at hs
            simp only [List.length_append,Array.length_toList,hs] at hl
            simp only [List.map_cons,Instr.fill,hρ x v hv,hs]
            have hno:¬ (v.cells.size≠s || decide (j*s+v.cells.size > acc.size))=true:=by simp [hs];omega
            rw [hs] at hno
            rw [if_neg (by simpa using hno)]
            have hf:=foldl_set [] (j*s) v.cells.toList 0 acc (by simp [hs];omega)
            simp only [Nat.add_zero,Array.length_toList,hs] at hf
            have hz:(v.cells.zipIdx.foldl (fun cs (c,j_1)=>cs.setIfInBounds (j*s+j_1) c) acc)=(acc.toList.take (j*s)++v.cells.toList++acc.toList.drop (j*s+s)).toArray:=by
              apply Array.ext'
              rw [<- Array.foldl_toList,Array.toList_zipIdx]
              exact hf
            rw [hz,fill_parts hρ _ hvs (by simp [hs];rw [Nat.add_mul];omega)]
            congr 1
            have hlen:(acc.toList.take (j*s)++v.cells.toList).length=(j+1)*s:=by simp [hs,Nat.add_mul];omega
            rw [<- hlen,List.take_left]
            have e2:((acc.toList.take (j*s)++v.cells.toList)++acc.toList.drop (j*s+s)).drop ((acc.toList.take (j*s)++v.cells.toList).length+vs'.length)=acc.toList.drop (j*s+s+vs'.length):=by
              rw [List.drop_append,List.drop_eq_nil_of_le om_,List.nil_append,Nat.add_sub_cancel_left,List.drop_drop]
            rw [e2]
            have e3:j*s+(v.cells.toList++vs').length=j*s+s+vs'.length:=by simp [hs];omega
            rw [e3]
            simp only [List.append_assoc]
          · cases h
      · cases h
end
end Go.Jog
namespace Go.Jog
open Go

def rowOf:Value->List Value
  | .agg ⟨cs⟩=>cs
  | v=>[v]
theorem rowOf_cells (v:Value):v.cells.toList=rowOf v:=by cases v <;> rfl

def rowsO (ρ:Operand->Option Value):List (Nat × Operand)->Nat->Option (List (List Value))
  | [],_=>some []
  | (j,x)::r,m=>bif Nat.beq j m then (match ρ x with
    | some v=>(match rowsO ρ r (m+1) with
      | some vs=>some (rowOf v::vs)
      | none=>none)
    | none=>none) else none

theorem cA {ρ:Operand->Option Value}{s:Nat}:∀ {ps:List (Nat × Operand)}{m:Nat}{rows:List (List Value)},rowsO ρ ps m=some rows->(∀ r∈rows,r.length=s)->partsO ρ s ps m=some rows.flatten/\rows.length=ps.length
  | [],m,rows,h,_=>by simp [rowsO] at h;subst h;exact ⟨rfl,rfl⟩
  | (j,x)::r,m,rows,h,hl=>by
    simp only [rowsO] at h
    cases hb:Nat.beq j m with
    | false=>rw [hb] at h;cases h
    | true =>
      rw [hb] at h
      simp only [cond_true] at h
      split at h
      · rename_i v hv
        split at h
        · rename_i vs hvs
          cases h
          have h1:=cA hvs (fun r hr=>hl r (by simp [hr]))
          have h2:Nat.beq v.cells.toList.length s=true:=by rw [rowOf_cells,hl (rowOf v) (by simp)];exact Nat.beq_refl s
          refine ⟨?_,by simp [h1.2]⟩
          simp only [partsO,hb,cond_true,hv,h2,h1.1,List.flatten_cons]
          rw [rowOf_cells]
        · cases h
      · cases h

theorem aL {s:Nat}:∀ {rows:List (List Value)},(∀ r∈rows,r.length=s)->rows.flatten.length=rows.length*s
  | [],_=>by simp
  | r::rows,h=>by
    rw [List.flatten_cons,List.length_append,h r (by simp),aL (fun x hx=>h x (by simp [hx])),List.length_cons,Nat.add_mul]
    omega

theorem getElem?_flatten_rows {s:Nat}:∀ {rows:List (List Value)},(∀ r∈rows,r.length=s)->∀ {i:Nat}{x:List Value},rows[i]?=some x->∀ {j:Nat}{v:Value},x[j]?=some v->rows.flatten[i*s+j]?=some v
  | r::rows,h,0,x,hi,j,v,hj=>by
    simp at hi
    subst hi
    have hlt:j<r.length:=(List.getElem?_eq_some_iff.1 hj).1
    rw [List.flatten_cons,Nat.zero_mul,Nat.zero_add,List.getElem?_append_left hlt]
    exact hj
  | r::rows,h,i+1,x,hi,j,v,hj=>by
    have hr:=h r (by simp)
    rw [List.flatten_cons,List.getElem?_append_right (by rw [hr,Nat.add_mul];omega),hr]
    rw [show (i+1)*s+j-s=i*s+j by rw [Nat.add_mul];omega]
    exact getElem?_flatten_rows (fun x hx=>h x (by simp [hx])) (by simpa using hi) hj
  | [],_,i,x,hi,_,_,_=>by simp at hi

theorem Sl.ofBlock {C:Mem}{b s c:Nat}{blk:Array Value}{t:TypeId}{fz:Nat × Nat}{rows:List (List Value)}(hb:C b=some (.cells blk t fz))(hr:∀ r∈rows,r.length=s)
    (hblk:∀ (j:Nat)(v:Value),rows.flatten[j]?=some v->blk[j]?=some v) (hc:rows.length<=c) (hm:c<=maxLen):Sl C s (.slice (some ⟨b,0,none⟩) rows.length c) rows :=
  ⟨some ⟨b,0,none⟩,c,rfl,hc,hm,hr,fun i x hi=>⟨⟨b,0,none⟩,rfl,rfl,fun j v hj=>by
    rw [Addr.add_lit]
    exact ⟨rfl,blk,t,fz,hb,by simpa using hblk _ _ (getElem?_flatten_rows hr hi hj)⟩⟩⟩

section
variable {cx:Cx} {n:Nat} {ds:List (Option Nat)} {R:Rg n ds} {its:List It} {fr:Fr} {C:Mem} {L:List Ent} {i k d:Nat} {o:Oper} {g:GL} {v:Value}

theorem dU {T:Tab}{P:Program}(hT:tabB P T=true){t e len:Nat}{ti te:TI}(ht:T.get t=some ti)(hte:ti.k=.slice e)(he:T.get e=some te){ρ:Operand->Option Value}{ρ':Operand->Value}(hρ:∀ x v,ρ x=some v->ρ' x=v)
    {ps:List (Nat × Operand)} {rows:List (List Value)} (hrows:rowsO ρ ps 0=some rows) (hl:∀ r∈rows,r.length=te.size) (hlen:ps.length=len) (hbig:len*te.size<=16777216) (w:World) :
    (Instr.buildSlice t len (ps.map fun (i,x)=>(i,ρ' x)).toArray).run P w=.ok (.slice (some ⟨w.heap.size,0,none⟩) rows.length rows.length) (w.alloc (.cells ⟨rows.flatten⟩ e)):=by
  have hu:P.underlying t=some (.slice e):=by
    obtain ⟨kk,s1,b1,z1,g1⟩:=ti
    simp only at hte
    subst hte
    exact bx hT ht
  obtain ⟨h1,h2⟩:=cA hrows hl
  have hfl:=aL hl
  have hln:len=rows.length:=by rw [h2];exact hlen.symm
  subst hln
  have fillit:∀ acc:Array Value,acc.size=rows.length*te.size->Instr.fill (fun i=>some (i*te.size,te.size)) acc (ps.map fun (i,x)=>(i,ρ' x))=some ⟨rows.flatten⟩:=fun acc hacc=>by
    rw [fill_parts hρ acc h1 (by rw [hfl];omega)]
    congr 1
    apply Array.ext'
    have:acc.toList.drop (rows.length*te.size)=[]:=List.drop_eq_nil_of_le (by simp [hacc])
    simp [hfl,this]
  have hbig':¬ (16777216<rows.length*te.size):=by omega
  unfold Instr.buildSlice
  by_cases hz:rows.length*te.size=0
  · have hf:=fillit #[] (by simp [hz])
    simp [run_underlying hu,cF hT he w,hz,Array.range_zero',hf,newRow]
  · have hf:=fillit ((Array.range (rows.length*te.size)).map (te.zv.cells[· % te.zv.cells.size]!)) (by simp)
    simp [run_underlying hu,cF hT he w,hz,hbig',zero_of hT he w,hf,newRow]

theorem D.buildSlice {t e len:Nat}{parts:Array (Nat × Operand)}{ti te:TI}(rows:List (List Value))(hk:Nat.ble k 1=false)(hd:o.dst=some d)(hg:gOn ds fr o.guard=true)(hop:o.op=.buildSlice t len parts)
    (ht:cx.T.get t=some ti) (hte:ti.k=.slice e) (he:cx.T.get e=some te) (hrows:rowsO (ev fr []) parts.toList 0=some rows) (hl:(rows.all fun r=>Nat.beq r.length te.size)=true) (hlen:Nat.beq parts.toList.length len=true)
    (hbig:Nat.ble (len*te.size) 16777216=true) (hs0:Nat.beq te.size 0=false) (hp:∀ v,aG n ds ((d,[],v)::fr) d=true)
    (h:∀ p C',C.le C'->Sl C' te.size p rows->D cx R its ((d,[],p)::fr) C' L):D cx R ((i,k,o)::its) fr C L:=by
  have hl':∀ r∈rows,r.length=te.size:=fun r hr=>Nat.eq_of_beq_eq_true (List.all_eq_true.1 hl r hr)
  have hlen':=Nat.eq_of_beq_eq_true hlen
  rw [Nat.ble_eq] at hbig
  have hpl:=(cA hrows hl').2
  refine D.newConst (f:=fun b=>.slice (some ⟨b,0,none⟩) rows.length rows.length) (ob:=.cells ⟨rows.flatten⟩ e) hk hd hg hp (fun a hs w=>?_) (fun b C' hle hb=>?_)
  · have e1:execOp a.eval o=(do Pure.pure (.value (<- Instr.buildSlice t len (parts.map fun (i,x)=>(i,a.eval x)))):Sem Next):=by unfold execOp;rw [hop]
    rw [e1]
    have e2:(parts.map fun (i,x)=>(i,a.eval x))=(parts.toList.map fun (i,x)=>(i,a.eval x)).toArray:=by apply Array.ext';simp
    rw [e2]
    simp only [Sem.run_bind,dU cx.hT ht hte he (fun x v hx=>hs x v hx) hrows hl' hlen' hbig w,Result.andThen_ok,Sem.run_pure]
  · refine h _ C' hle (Sl.ofBlock hb hl' (fun j v hj=>by simpa using hj) (Nat.le_refl _) ?_)
    rw [hpl,hlen']
    have h0:0<te.size:=Nat.pos_of_ne_zero (fun e=>by rw [e] at hs0;cases hs0)
    have:len<=len*te.size:=Nat.le_mul_of_pos_right _ h0
    simp only [maxLen];omega

theorem D.ah {t e len:Nat}{parts:Array (Nat × Operand)}{ti te:TI}(rows:List (List Value))(h:∀ p C',C.le C'->Sl C' te.size p rows->D cx R its ((d,[],p)::fr) C' L)(hk:Nat.ble k 1=false:=by rfl)(hd:o.dst=some d:=by rfl)(hg:gOn ds fr o.guard=true:=by rfl)(hop:o.op=.buildSlice t len parts:=by rfl)(ht:cx.T.get t=some ti:=by rfl)(hte:ti.k=.slice e:=by rfl)(he:cx.T.get e=some te:=by rfl)(hrows:rowsO (ev fr []) parts.toList 0=some rows:=by rfl)(hl:(rows.all fun r=>Nat.beq r.length te.size)=true:=by rfl)(hlen:Nat.beq parts.toList.length len=true:=by rfl)(hbig:Nat.ble (len*te.size) 16777216=true:=by rfl)(hs0:Nat.beq te.size 0=false:=by rfl)(hp:∀ v,aG n ds ((d,[],v)::fr) d=true:=by intro _;rfl):D cx R ((i,k,o)::its) fr C L:=D.buildSlice rows hk hd hg hop ht hte he hrows hl hlen hbig hs0 hp h
theorem D.aS {t e j m:Nat}{x y:Operand}{ti te:TI}{p v0:Value}{xs:List Value}{rows:List (List Value)}(hk:k=3)(hd:o.dst=some d)(hg:gOn ds fr o.guard=true)
    (hop:o.op=.call ⟨.builtin .append,#[x,y],#[t,t]⟩) (ht:cx.T.get t=some ti) (hte:ti.k=.slice e) (he:cx.T.get e=some te) (hs0:Nat.beq te.size 0=false)
    (hx:ev fr [] x=some v0) (hy:ev fr [] y=some p) (hm:L[j]?=some (.arr v0 e te.size m xs)) (hsl:Sl C te.size p rows) (h1:rows.all (fun r=>r.all oneB)=true)
    (h63:m+rows.length<=maxLen) (hbytes:(m+rows.length)*te.bytes<=140737488355328) (hp:∀ v,aG n ds ((d,[],v)::fr) d=true)
    (h:∀ A n c,D cx R its ((d,[],.slice A n c)::fr) C (.arr (.slice A n c) e te.size (m+rows.length) (xs++rows.flatten)::L.eraseIdx j)):D cx R ((i,k,o)::its) fr C L:=by
  have hu:cx.P.underlying t=some (.slice e):=by
    obtain ⟨kk,s1,b1,z1,g1⟩:=ti
    simp only at hte
    subst hte
    exact bx cx.hT ht
  obtain ⟨inf,hi,hsize,hby,hz,hzc⟩:=(cq cx.hT he).info
  have hpos:0<te.size:=Nat.pos_of_ne_zero (fun e=>by rw [e] at hs0;cases hs0)
  obtain ⟨A,c,hpv,hlc,hcm,hrl,hcells⟩:=hsl
  -- the zero's size is the type's
  refine D.eg (S:=fun v' C' L'=>(∃ A n c,v'=.slice A n c)/\C'=C/\L'=.arr v' e te.size (m+rows.length) (xs++rows.flatten)::L.eraseIdx j) (by subst hk;rfl) hd hg hp (fun a hs w _ hw=>?_) (fun v' C' L' _ ⟨⟨A,n',c,e0⟩,e1,e2⟩=>by subst e0;subst e1;subst e2;exact h A n' c)
  have hw':=St.perm hw (aN hm)
  have hown:w.ownsRow 0 e te.size v0 m xs:=hw'.sep.e _ (List.mem_cons_self ..)
  have hone:∀ u∈rows.flatten,u.oneCell'=true:=fun u hu=>by
    obtain ⟨r,hr,hur⟩:=List.mem_flatten.1 hu
    exact oneB_spec (List.all_eq_true.1 (List.all_eq_true.1 h1 r hr) u hur)
  have hex:∃ v' w',(Builtin.append_ #[t,t] o.type #[v0,p]).run cx.P w=.ok v' w'/\w'.ownsRow 0 e te.size v' (m+rows.length) (xs++rows.flatten)/\w.grownBy w' v0.ownBlock/\(v'.ownBlock=v0.ownBlock∨v'.ownBlock=some w.heap.size):=by
    cases rows with
    | nil =>
      refine ⟨v0,w, ?_,by simpa using hown,⟨rfl,rfl,rfl,Nat.le_refl _,fun _ _ _=>rfl⟩,.inl rfl⟩
      have hlen0:p=.slice A 0 c:=hpv
      rw [hlen0]
      have hfc:∀ (W:World),(Builtin.firstCells te.size 0 (.slice A 0 c)).run cx.P W=.ok #[] W:=fun W=>by
        cases A <;> simp [Builtin.firstCells,loadCells,loadCellsFrom]
      rcases hown.2 with ⟨rfl,rfl⟩ | ⟨g0,cap,cur,rfl,_,_,hnc,_⟩
      · simp [Builtin.append_,run_underlying hu,sizeOf,typeInfo,hi,hsize,Builtin.lenOf,hfc]
      · simp [Builtin.append_,run_underlying hu,sizeOf,typeInfo,hi,hsize,Builtin.lenOf,hfc,hnc,storeCells]
    | cons r rs =>
      obtain ⟨ad,hA,hsp,_⟩:=hcells 0 r (by simp)
      subst hA
      have hnews:∀ (q:Nat)(u:Value),(r::rs).flatten[q]?=some u->w.cell? (ad.add q)=some u:=fun q u hq=>by
        have hqlt:q<(r::rs).length*te.size:=by rw [<- aL hrl];exact (List.getElem?_eq_some_iff.1 hq).1
        have hdiv:q / te.size<(r::rs).length:=Nat.div_lt_of_lt_mul (by rw [Nat.mul_comm];exact hqlt)
        have hgi:(r::rs)[q / te.size]?=some (r::rs)[q / te.size]:=List.getElem?_eq_getElem hdiv
        have hmod:q % te.size<((r::rs)[q / te.size]).length:=by rw [hrl _ (List.getElem_mem hdiv)];exact Nat.mod_lt _ hpos
        have hgj:=List.getElem?_eq_getElem hmod
        have heq:=getElem?_flatten_rows hrl hgi hgj
        have hq':q / te.size*te.size+q % te.size=q:=by rw [Nat.mul_comm];exact Nat.div_add_mod q te.size
        rw [hq',hq] at heq
        obtain ⟨ad',h3,h4,h5⟩:=hcells _ _ hgi
        cases h3
        have:=h5 _ _ hgj
        rw [hq'] at this
        rw [heq]
        exact this.cell hw.sep
      have hzs:te.zv.cells.size=te.size:=(cq cx.hT he).zsize
      obtain ⟨v',w',hr1,hr2,hr3,_,hr5⟩:=run_append_own_at (P:=cx.P) w 0 t o.type e inf te.zv te.size te.bytes hu hi hz hsize hby hzs hpos v0 m xs hown ad (r::rs).length c (r::rs).flatten (aL hrl) hnews hone h63 hbytes (Nat.zero_le _)
      exact ⟨v',w',by rw [hpv];exact hr1,hr2,hr3,hr5⟩
  obtain ⟨v',w',hr1,hr2,hr3,hr5⟩:=hex
  have hrun:(execOp a.eval o).run cx.P w=.ok (.value v') w':=by
    have e1:execOp a.eval o=(do let dd <- resolve a.eval ⟨.builtin .append,#[x,y],#[t,t]⟩ o.type;invoke dd.target dd.args:Sem Next):=by unfold execOp;rw [hop]
    rw [e1]
    simp only [resolve,invoke,builtin,Sem.run_bind,Sem.run_pure,Result.andThen_ok,List.map_toArray,List.map_cons,List.map_nil,hs _ _ hx,hs _ _ hy,hr1]
  unfold Oper.wp
  rw [hrun]
  have hform:∃ A n c,v'=.slice A n c:=by
    rcases hr2.2 with ⟨h1,_⟩ | ⟨g0,cap,cur,h1,_⟩
    · exact ⟨_,_,_,h1⟩
    · exact ⟨_,_,_,h1⟩
  exact ⟨v',C,_,rfl,Mem.le.refl _,fun h2=>by omega,St.turn hw' hr2 hr3 (a6 _ hr1) (hr5.elim .inl (fun h=>.inr (.inl h))),hform,rfl,rfl⟩

theorem D.append {t e j m:Nat}{x y:Operand}{ti te:TI}{p v0:Value}{xs:List Value}{rows:List (List Value)}(hk:k=3)(hd:o.dst=some d)(hg:gOn ds fr o.guard=true)
    (hop:o.op=.call ⟨.builtin .append,#[x,y],#[t,t]⟩) (ht:cx.T.get t=some ti) (hte:ti.k=.slice e) (he:cx.T.get e=some te) (hs0:Nat.beq te.size 0=false)
    (hx:ev fr [] x=some v0) (hy:ev fr [] y=some p) (hm:L[j]?=some (.arr v0 e te.size m xs)) (hsl:Sl C te.size p rows) (h1:rows.all (fun r=>r.all oneB)=true)
    (h63:m+rows.length<=maxLen) (hbytes:(m+rows.length)*te.bytes<=140737488355328) (hp:∀ v,aG n ds ((d,[],v)::fr) d=true)
    (h:∀ v',D cx R its ((d,[],v')::fr) C (.arr v' e te.size (m+rows.length) (xs++rows.flatten)::L.eraseIdx j)):D cx R ((i,k,o)::its) fr C L :=
  D.aS hk hd hg hop ht hte he hs0 hx hy hm hsl h1 h63 hbytes hp (fun _A _n _c=>h _)
theorem D.append_ {t e j m:Nat}{x y:Operand}{ti te:TI}{p v0:Value}{xs:List Value}{rows:List (List Value)}(hsl:Sl C te.size p rows)(h1:rows.all (fun r=>r.all oneB)=true)(h63:m+rows.length<=maxLen)(hbytes:(m+rows.length)*te.bytes<=140737488355328)(h:∀ v',D cx R its ((d,[],v')::fr) C (.arr v' e te.size (m+rows.length) (xs++rows.flatten)::L.eraseIdx j))(hk:k=3:=by rfl)(hd:o.dst=some d:=by rfl)(hg:gOn ds fr o.guard=true:=by rfl)(hop:o.op=.call ⟨.builtin .append,#[x,y],#[t,t]⟩:=by rfl)(ht:cx.T.get t=some ti:=by rfl)(hte:ti.k=.slice e:=by rfl)(he:cx.T.get e=some te:=by rfl)(hs0:Nat.beq te.size 0=false:=by rfl)(hx:ev fr [] x=some v0:=by rfl)(hy:ev fr [] y=some p:=by rfl)(hm:L[j]?=some (.arr v0 e te.size m xs):=by rfl)(hp:∀ v,aG n ds ((d,[],v)::fr) d=true:=by intro _;rfl):D cx R ((i,k,o)::its) fr C L:=D.append hk hd hg hop ht hte he hs0 hx hy hm hsl h1 h63 hbytes hp h
end
end Go.Jog
namespace Go.Jog
open Go

def Pur (P:Program)(f:FuncId)(args:List Value)(C:Mem)(post:Value->Mem->Prop):Prop:=Fn P f args C [] fun v C' L'=>L'=[]/\post v C'

theorem run_callFunc {P:Program}{f:FuncId}(h:Enters P f=true)(args:Array Value)(w:World):(callFunc f args).run P w=.ok (.enter f args) w:=by
  unfold Enters at h
  split at h
  · rename_i fn hf
    simp only [Bool.and_eq_true,Bool.not_eq_true'] at h
    have h1 : ¬ (fn.name == "runtime.NumGoroutine") = true := by rw [h.1]; simp
    have h2:¬ fn.body.isNone=true:=by
      cases hb:fn.body with
      | none=>rw [hb] at h;simp at h
      | some c=>simp
    simp only [callFunc,Sem.run_bind,run_program,Result.andThen_ok,hf]
    rw [if_neg h1,if_neg h2]
    rfl
  · cases h

section
variable {cx:Cx} {n:Nat} {ds:List (Option Nat)} {R:Rg n ds} {its:List It} {fr:Fr} {C:Mem} {L:List Ent} {i k d:Nat} {o:Oper} {g:GL} {v:Value}

theorem run_call {P:Program}{a:Act}{o:Oper}{f:Operand}{args:Array Operand}{ts:Array TypeId}{fid:FuncId}{fi ca:Array Value}{vs args':List Value}
    (hop:o.op=.call ⟨.value f,args,ts⟩) (hf:a.eval f=.func (.func fid) fi ca) (hargs:args.toList.map a.eval=vs) (he:fi.toList++vs++ca.toList=args') (hen:Enters P fid=true) (w:World) :
    (execOp a.eval o).run P w=.ok (.enter fid args'.toArray) w:=by
  have e1:execOp a.eval o=(do let dd <- resolve a.eval ⟨.value f,args,ts⟩ o.type;invoke dd.target dd.args:Sem Next):=by unfold execOp;rw [hop]
  have e2:args.map a.eval=vs.toArray:=by apply Array.ext';rw [<- hargs];simp
  have e3:fi++vs.toArray++ca=args'.toArray:=by apply Array.ext';rw [<- he];simp
  rw [e1]
  simp only [resolve,hf,Deferred.ofValue,e2,Sem.run_bind,Sem.run_pure,Result.andThen_ok,invoke,e3]
  exact run_callFunc hen _ w

theorem D.call {f:Operand}{args:Array Operand}{ts:Array TypeId}{fid:FuncId}{fi ca:Array Value}{vs args':List Value}{Lp Lr:List Ent}{post:Value->Mem->List Ent->Prop}
    (c:Fn cx.P fid args' C Lp post) (hk:Nat.ble k 1=false) (hk2:Lp=[]∨k≠2) (hd:o.dst=some d) (hg:gOn ds fr o.guard=true) (hop:o.op=.call ⟨.value f,args,ts⟩) (hf:ev fr [] f=some (.func (.func fid) fi ca))
    (hargs:listO (ev fr []) args.toList=some vs) (he:fi.toList++vs++ca.toList=args') (hL:L.Perm (Lp++Lr)) (hp:∀ v,aG n ds ((d,[],v)::fr) d=true)
    (h:∀ v C' L',C.le C'->post v C' L'->D cx R its ((d,[],v)::fr) C' (L'++Lr)):D cx R ((i,k,o)::its) fr C L :=
  D.eg (S:=fun v C' L'=>∃ L1,L'=L1++Lr/\post v C' L1) hk hd hg hp (fun a hs w _ hw=>by
    unfold Oper.wp
    rw [run_call hop (hs _ _ hf) (dw (fun x y=>hs x y) hargs) he c.1 w]
    simp only [Oper.upon]
    refine (c.callAt (St.perm hw hL)).mono fun e w' ⟨v,C',L',e1,h1,h2,h3⟩=>?_
    subst e1
    refine ⟨v,C',L'++Lr,rfl,h1,fun hk' x hx=>?_,h2,L',rfl,h3⟩
    rcases hk2 with hk2 | hk2
    · subst hk2
      have:=hL.mem_iff.1 hx
      simp only [List.nil_append] at this
      exact List.mem_append_right _ this
    · exact absurd hk' hk2)
    (fun v C' L' hle ⟨L1,e1,e2⟩=>by subst e1;exact h v C' L1 hle e2)

theorem D.aP {f:Operand}{args:Array Operand}{ts:Array TypeId}{fid:FuncId}{fi ca:Array Value}{vs args':List Value}{post:Value->Mem->Prop}
    (c:Pur cx.P fid args' C post) (hk:Nat.ble k 1=false) (hd:o.dst=some d) (hg:gOn ds fr o.guard=true) (hop:o.op=.call ⟨.value f,args,ts⟩) (hf:ev fr [] f=some (.func (.func fid) fi ca))
    (hargs:listO (ev fr []) args.toList=some vs) (he:fi.toList++vs++ca.toList=args') (hp:∀ v,aG n ds ((d,[],v)::fr) d=true)
    (h:∀ v C',C.le C'->post v C'->D cx R its ((d,[],v)::fr) C' L):D cx R ((i,k,o)::its) fr C L :=
  D.call c hk (.inl rfl) hd hg hop hf hargs he (List.Perm.refl L) hp (fun v C' L' hle ⟨e1,e2⟩=>by subst e1;exact h v C' hle e2)

theorem D.aX {f:Operand}{args:Array Operand}{ts:Array TypeId}{fid:FuncId}{fi ca:Array Value}{vs args':List Value}{post:Value->Mem->Prop}(c:Pur cx.P fid args' C post)(h:∀ v C',C.le C'->post v C'->D cx R its ((d,[],v)::fr) C' L)(hk:Nat.ble k 1=false:=by rfl)(hd:o.dst=some d:=by rfl)(hg:gOn ds fr o.guard=true:=by rfl)(hop:o.op=.call ⟨.value f,args,ts⟩:=by rfl)(hf:ev fr [] f=some (.func (.func fid) fi ca):=by rfl)(hargs:listO (ev fr []) args.toList=some vs:=by rfl)(he:fi.toList++vs++ca.toList=args':=by rfl)(hp:∀ v,aG n ds ((d,[],v)::fr) d=true:=by intro _;rfl):D cx R ((i,k,o)::its) fr C L:=D.aP c hk hd hg hop hf hargs he hp h
theorem D.aC {f:Operand}{args:Array Operand}{ts:Array TypeId}{fid:FuncId}{fi ca:Array Value}{vs args':List Value}
    (c:GT ds fr g->Gives cx.P fid args' C v) (hk:k=1) (hd:o.dst=some d) (hg:gOf ds fr o.guard=some g) (hop:o.op=.call ⟨.value f,args,ts⟩) (hf:ev fr g f=some (.func (.func fid) fi ca))
    (hargs:listO (ev fr g) args.toList=some vs) (he:fi.toList++vs++ca.toList=args') (hp:aG n ds ((d,g,v)::fr) d=true) (hwf:wfG ds fr g=true)
    (h:D cx R its ((d,g,v)::fr) C L):D cx R ((i,k,o)::its) fr C L:=by
  intro hC0
  exact D.det (by subst hk;rfl) hd hg hp hwf (fun hGT a hs κ' hκ w hw=>by
    unfold Oper.quietAt
    rw [run_call hop (hs _ _ hf) (dw (fun x y=>hs x y) hargs) he (c hGT).1 w]
    exact ⟨rfl,(c hGT).quiet (hκ hk).1 hC0 hw⟩) h hC0

theorem D.aW {f:Operand}{args:Array Operand}{ts:Array TypeId}{fid:FuncId}{fi ca:Array Value}{vs args':List Value}(c:GT ds fr g->Gives cx.P fid args' C v)(h:D cx R its ((d,g,v)::fr) C L)(hk:k=1:=by rfl)(hd:o.dst=some d:=by rfl)(hg:gOf ds fr o.guard=some g:=by rfl)(hop:o.op=.call ⟨.value f,args,ts⟩:=by rfl)(hf:ev fr g f=some (.func (.func fid) fi ca):=by rfl)(hargs:listO (ev fr g) args.toList=some vs:=by rfl)(he:fi.toList++vs++ca.toList=args':=by rfl)(hp:aG n ds ((d,g,v)::fr) d=true:=by rfl)(hwf:wfG ds fr g=true:=by rfl):D cx R ((i,k,o)::its) fr C L:=D.aC c hk hd hg hop hf hargs he hp hwf h
theorem D.ai {f:Operand}{args:Array Operand}{ts:Array TypeId}{fid:FuncId}{fi ca:Array Value}{vs args':List Value}
    (c:Gives cx.P fid args' C v) (hk:Nat.ble k 1=false) (hd:o.dst=some d) (hg:gOn ds fr o.guard=true) (hop:o.op=.call ⟨.value f,args,ts⟩) (hf:ev fr [] f=some (.func (.func fid) fi ca))
    (hargs:listO (ev fr []) args.toList=some vs) (he:fi.toList++vs++ca.toList=args') (hp:∀ v,aG n ds ((d,[],v)::fr) d=true)
    (h:D cx R its ((d,[],v)::fr) C L):D cx R ((i,k,o)::its) fr C L :=
  D.eg (S:=fun u C' L'=>u=v/\C'=C/\L'=L) hk hd hg hp (fun a hs w hC0 hw=>by
    unfold Oper.wp
    rw [run_call hop (hs _ _ hf) (dw (fun x y=>hs x y) hargs) he c.1 w]
    simp only [Oper.upon]
    refine (c.quiet (κ:=(C,L)) (Mem.le.refl _) hC0 hw).mono fun e w' ⟨e1,h1⟩=>?_
    subst e1
    exact ⟨v,C,L,rfl,Mem.le.refl _,fun _ x hx=>hx,h1,rfl,rfl,rfl⟩)
    (fun u C' L' _ ⟨e1,e2,e3⟩=>by subst e1;subst e2;subst e3;exact h)
theorem D.af {f:Operand}{args:Array Operand}{ts:Array TypeId}{fid:FuncId}{fi ca:Array Value}{vs args':List Value}(c:Gives cx.P fid args' C v)(h:D cx R its ((d,[],v)::fr) C L)(hk:Nat.ble k 1=false:=by rfl)(hd:o.dst=some d:=by rfl)(hg:gOn ds fr o.guard=true:=by rfl)(hop:o.op=.call ⟨.value f,args,ts⟩:=by rfl)(hf:ev fr [] f=some (.func (.func fid) fi ca):=by rfl)(hargs:listO (ev fr []) args.toList=some vs:=by rfl)(he:fi.toList++vs++ca.toList=args':=by rfl)(hp:∀ v,aG n ds ((d,[],v)::fr) d=true:=by intro _;rfl):D cx R ((i,k,o)::its) fr C L:=D.ai c hk hd hg hop hf hargs he hp h
end

/-! ### Reading what was known at the region's start: in whatever class -/
section
variable {cx:Cx} {n:Nat} {ds:List (Option Nat)} {R:Rg n ds} {its:List It} {fr:Fr} {C:Mem} {L:List Ent} {i k d:Nat} {o:Oper} {g:GL} {v:Value}
theorem PtrTo.block {C:Mem}{b:Nat}{cs:List Value}{t:TypeId}{fz:Nat × Nat}(h:C b=some (.cells ⟨cs⟩ t fz))(off:Nat):PtrTo C (.pointer (some ⟨b,off,none⟩)) (cs.drop off) :=
  ⟨⟨b,off,none⟩,rfl,rfl,fun j v hj=>by
    rw [Addr.add_lit]
    exact ⟨rfl,⟨cs⟩,t,fz,h,by simpa using hj⟩⟩
theorem D.loadB {t:Nat}{x:Operand}{p:Value}{cs:List Value}{ti:TI}(hc:GT ds fr g->PtrTo R.b.C0 p cs)(hk:Nat.ble k 1=true)(hd:o.dst=some d)(hop:o.op=.load t x)(hg:gOf ds fr o.guard=some g)(hx:ev fr g x=some p)
    (ht:cx.T.get t=some ti) (hv:bS ti (cs.take ti.size)=some v) (hp:aG n ds ((d,g,v)::fr) d=true) (hwf:wfG ds fr g=true)
    (h:D cx R its ((d,g,v)::fr) C L):D cx R ((i,k,o)::its) fr C L :=
  D.det hk hd hg hp hwf (fun hGT a hs κ' _ w hw=>by
    obtain ⟨ad,rfl,_,hcell⟩:=hc hGT
    have hex:(execOp a.eval o).run cx.P w=.ok (.value v) w:=by
      have e1:execOp a.eval o=(do Pure.pure (.value (<- Instr.loadAt t (a.eval x))):Sem Next):=by unfold execOp;rw [hop]
      rw [e1,hs _ _ hx]
      simp only [Instr.loadAt,Instr.sureAddr,Sem.run_bind,Sem.run_pure,Result.andThen_ok]
      rw [dA cx.hT ht (fun j u hj=>by
        rw [List.getElem?_take] at hj
        split at hj
        · exact ((hcell j u hj).mono hw.c0).cell hw.sep
        · cases hj) hv]
      rfl
    unfold Oper.quietAt
    rw [hex]
    exact ⟨rfl,rfl⟩) h
end

/-! ### The rules for what is not guarded -/
section
variable {cx:Cx} {n:Nat} {ds:List (Option Nat)} {R:Rg n ds} {its:List It} {fr:Fr} {C:Mem} {L:List Ent} {i k d:Nat} {o:Oper} {v:Value}

theorem gOf_none {ds:List (Option Nat)}{fr:Fr}{o:Oper}(h:o.guard=none):gOf ds fr o.guard=some []:=by rw [h];rfl

theorem D.al {t e:Nat}{x y:Operand}{ki:IntKind}{m:Int}{s:Value}{ke:Nat}{xs:List (List Value)}{row:List Value}{ti te:TI}(hs:Sl C ke s xs)(hk:Nat.ble k 1=true)(hd:o.dst=some d)(hop:o.op=.indexAddr t x y)
    (hg:o.guard=none) (hx:ev fr [] x=some s) (hy:ev fr [] y=some (.int ki m)) (ht:cx.T.get t=some ti) (hte:ti.k=.slice e) (he:cx.T.get e=some te) (hsz:te.size=ke) (hm:0<=m) (hrow:xs[m.toNat]?=some row)
    (hp:∀ v,aG n ds ((d,[],v)::fr) d=true)
    (h:∀ p,PtrTo C p row->D cx R its ((d,[],p)::fr) C L):D cx R ((i,k,o)::its) fr C L :=
  D.index hk hd hop (gOf_none hg) hx hy ht hte he hsz (fun _=>⟨hs,hm,hrow⟩) hp rfl (fun p hp=>h p (hp trivial))

theorem D.eO {t:Nat}{x:Operand}{p:Value}{cs:List Value}{ti:TI}(hc:PtrTo C p cs)(hk:k=1)(hd:o.dst=some d)(hop:o.op=.load t x)(hg:o.guard=none)(hx:ev fr [] x=some p)
    (ht:cx.T.get t=some ti) (hv:bS ti cs=some v) (hp:aG n ds ((d,[],v)::fr) d=true)
    (h:D cx R its ((d,[],v)::fr) C L):D cx R ((i,k,o)::its) fr C L :=
  D.aU hk hd hop (gOf_none hg) hx ht (fun _=>hc) hv hp rfl h
theorem D.aa {t:Nat}{x:Operand}{p:Value}{cs:List Value}{ti:TI}(hc:PtrTo C p cs)(h:D cx R its ((d,[],v)::fr) C L)(hk:k=1:=by rfl)(hd:o.dst=some d:=by rfl)(hop:o.op=.load t x:=by rfl)(hg:o.guard=none:=by rfl)(hx:ev fr [] x=some p:=by rfl)(ht:cx.T.get t=some ti:=by rfl)(hv:bS ti cs=some v:=by rfl)(hp:aG n ds ((d,[],v)::fr) d=true:=by rfl):D cx R ((i,k,o)::its) fr C L:=D.eO hc hk hd hop hg hx ht hv hp h
end

/-! ### Code -/
inductive KI where
  | code (c:Code)
  | blk (id:Nat)
  | inv (I:Act->World->Prop)

structure Fx where
  cx:Cx
  fn:Func
  n:Nat
  b:Bs
  post:Value->Mem->List Ent->Prop
  W:Cw cx.P
  dd:List Deferred
  last:Exit->Act->World->Prop

def finOf (b:Bs)(post:Value->Mem->List Ent->Prop)(e:Ending)(w:World):Prop:=∃ v C' L',e=.returned v/\St b.w0 b.C0 b.L0 C' L' w/\post v C' L'
def Fx.fin (F:Fx):Ending->World->Prop:=finOf F.b F.post
def Fx.ends (F:Fx):Prop:=(∀ e a w,bodyPost F.cx.P F.fn F.fin e a w->F.last e a w)/\F.dd=[]

def Kq (F:Fx):List KI->Exit->Act->World->Prop
  | []=>F.last
  | .code c::k=>fun e a w=>match e with
    | .normal=>F.W.wp c (Kq F k) a w
    | e=>Kq F k e a w
  | .blk id::k=>fun e a w=>match e with
    | .exit j=>if j=id then Kq F k .normal a w else Kq F k (.exit j) a w
    | e=>Kq F k e a w
  | .inv I::k=>fun e a w=>match e with
    | .normal=>I a w
    | e=>Kq F k e a w

theorem Fx.ends.kq {F:Fx}(he:F.ends){e:Exit}{a:Act}{w:World}(h:bodyPost F.cx.P F.fn F.fin e a w):Kq F [] e a w:=by
  exact he.1 _ _ _ h

def G (F:Fx)(k:List KI)(e:Exit)(fr:Fr)(C:Mem)(L:List Ent):Prop :=
  F.b.C0.le C->∀ a w,FrOk F.n [] F.dd fr a->F.b.cls (C,L) w->Kq F k e a w

section
variable {F:Fx} {k:List KI} {fr:Fr} {C:Mem} {L:List Ent}

theorem G.seq {x y:Code}(h:G F (.code x::.code y::k) .normal fr C L):G F (.code (.seq x y)::k) .normal fr C L:=fun h0 a w ha hw=>by
  simp only [Kq]
  refine F.W.seq (F.W.mono (fun e a w q=>?_) (h h0 a w ha hw))
  cases e <;> exact q
theorem G.block {id:Nat}{x:Code}(h:G F (.code x::.blk id::k) .normal fr C L):G F (.code (.block id x)::k) .normal fr C L:=fun h0 a w ha hw=>by
  simp only [Kq]
  refine F.W.block (F.W.mono (fun e a w q=>?_) (h h0 a w ha hw))
  cases e <;> exact q
theorem G.skip (h:G F k .normal fr C L):G F (.code .skip::k) .normal fr C L:=fun h0 a w ha hw=>F.W.skip (h h0 a w ha hw)
theorem G.ret (h:G F k .ret fr C L):G F (.code .ret::k) .normal fr C L:=fun h0 a w ha hw=>F.W.ret (h h0 a w ha hw)
theorem G.exit {id:Nat}(h:G F k (.exit id) fr C L):G F (.code (.exit id)::k) .normal fr C L:=fun h0 a w ha hw=>F.W.exit (h h0 a w ha hw)

theorem G.blkN {id:Nat}(h:G F k .normal fr C L):G F (.blk id::k) .normal fr C L:=fun h0 a w ha hw=>h h0 a w ha hw
theorem G.blkSame {id:Nat}(h:G F k .normal fr C L):G F (.blk id::k) (.exit id) fr C L:=fun h0 a w ha hw=>by
  simp only [Kq,if_true];exact h h0 a w ha hw
theorem G.blkOther {id j:Nat}(hne:Nat.beq j id=false)(h:G F k (.exit j) fr C L):G F (.blk id::k) (.exit j) fr C L:=fun h0 a w ha hw=>by
  have:j≠id:=fun e=>by subst e;rw [Nat.beq_refl] at hne;cases hne
  simp only [Kq,if_neg this];exact h h0 a w ha hw
theorem G.blkRet {id:Nat}(h:G F k .ret fr C L):G F (.blk id::k) .ret fr C L:=fun h0 a w ha hw=>h h0 a w ha hw
theorem G.codeRet {c:Code}(h:G F k .ret fr C L):G F (.code c::k) .ret fr C L:=fun h0 a w ha hw=>h h0 a w ha hw
theorem G.codeExit {c:Code}{j:Nat}(h:G F k (.exit j) fr C L):G F (.code c::k) (.exit j) fr C L:=fun h0 a w ha hw=>h h0 a w ha hw
theorem G.invRet {I:Act->World->Prop}(h:G F k .ret fr C L):G F (.inv I::k) .ret fr C L:=fun h0 a w ha hw=>h h0 a w ha hw
theorem G.invExit {I:Act->World->Prop}{j:Nat}(h:G F k (.exit j) fr C L):G F (.inv I::k) (.exit j) fr C L:=fun h0 a w ha hw=>h h0 a w ha hw

def exK (id:Nat):List KI->Option (List KI)
  | []=>none
  | .blk j::k=>bif Nat.beq j id then some k else exK id k
  | .code _::k=>exK id k
  | .inv _::k=>exK id k

def norm:Nat->List KI->List KI
  | 0,k=>k
  | _,[]=>[]
  | f+1,.blk _::k=>norm f k
  | _+1,.inv I::k=>.inv I::k
  | f+1,.code c::k=>match c with
    | .seq a b=>norm f (.code a::.code b::k)
    | .block id c=>norm f (.code c::.blk id::k)
    | .skip=>norm f k
    | .exit id=>match exK id k with
      | some k'=>norm f k'
      | none=>.code c::k
    | _=>.code c::k

theorem G.exK_ {id:Nat}:∀ {k k':List KI},exK id k=some k'->G F k' .normal fr C L->G F k (.exit id) fr C L
  | .blk j::k,k',he,h=>by
    simp only [exK] at he
    cases hb:Nat.beq j id with
    | true =>
      rw [hb] at he
      simp only [cond_true,Option.some.injEq] at he
      subst he
      obtain rfl:=Nat.eq_of_beq_eq_true hb
      exact G.blkSame h
    | false =>
      rw [hb] at he
      refine G.blkOther (F:=F) ?_ (G.exK_ he h)
      cases hx:Nat.beq id j with
      | false=>rfl
      | true=>rw [Nat.eq_of_beq_eq_true hx,Nat.beq_refl] at hb;cases hb
  | .code _::k,k',he,h=>G.codeExit (G.exK_ (k:=k) he h)
  | .inv _::k,k',he,h=>G.invExit (G.exK_ (k:=k) he h)

theorem G.bG:∀ (f:Nat){k:List KI},G F (norm f k) .normal fr C L->G F k .normal fr C L
  | 0,_,h=>h
  | _+1,[],h=>h
  | f+1,.blk _::k,h=>G.blkN (G.bG f h)
  | _+1,.inv _::_,h=>h
  | f+1,.code c::k,h=>by
    cases c <;> simp only [norm] at h <;> try exact h
    case skip=>exact G.skip (G.bG f h)
    case seq a b=>exact G.seq (G.bG f h)
    case block id c=>exact G.block (G.bG f h)
    case exit id =>
      split at h
      · rename_i k' he
        exact G.exit (G.exK_ he (G.bG f h))
      · exact h

theorem G.retK:∀ {k:List KI},G F [] .ret fr C L->G F k .ret fr C L
  | [],h=>h
  | .code _::_,h=>G.codeRet (G.retK h)
  | .blk _::_,h=>G.blkRet (G.retK h)
  | .inv _::_,h=>G.invRet (G.retK h)
theorem G.az {k:List KI}(h:G F [] .ret fr C L):G F (.code .ret::k) .normal fr C L:=G.ret (G.retK h)

theorem G.cond {c:Operand}{x y:Code}{b:Bool}(hc:ev fr [] c=some (.bool b))(ht:b=true->G F (norm 64 (.code x::k)) .normal fr C L)(hf:b=false->G F (norm 64 (.code y::k)) .normal fr C L) :
    G F (.code (.cond c x y)::k) .normal fr C L:=fun h0 a w ha hw=>by
  simp only [Kq]
  exact F.W.cond (bl ha (fun p hp=>by cases hp) hc) (fun h=>G.bG 64 (ht h) h0 a w ha hw) (fun h=>G.bG 64 (hf h) h0 a w ha hw)

theorem G.cd {c:Operand}{x y:Code}{b:Bool}(ht:b=true->G F (norm 64 (.code x::k)) .normal fr C L)(hf:b=false->G F (norm 64 (.code y::k)) .normal fr C L)(hc:ev fr [] c=some (.bool b):=by rfl):G F (.code (.cond c x y)::k) .normal fr C L:=G.cond hc ht hf
def subF (fr fr':Fr):Prop:=∀ s g v,fr'.get s=some (g,v)->fr.get s=some (g,v)
theorem FrOk.weaken {n:Nat}{ds:List (Option Nat)}{fr fr':Fr}{a:Act}{dd:List Deferred}(h:FrOk n ds dd fr a)(hs:subF fr fr'):FrOk n ds dd fr' a :=
  ⟨h.size,h.defers,fun s g v hg=>h.ent s g v (hs s g v hg)⟩

def Has (fr:Fr):List (Nat × GL × Value)->Prop
  | []=>True
  | (s,g,v)::r=>fr.get s=some (g,v)/\Has fr r
theorem Has.sub {fr:Fr}:∀ {fr':Fr},Has fr fr'->subF fr fr'
  | [],_,s,g,v,h=>by simp [Fr.get] at h
  | (t,g',v')::r,hh,s,g,v,h=>by
    simp only [Fr.get] at h
    cases hb:Nat.beq t s with
    | true =>
      rw [hb] at h
      simp only [cond_true,Option.some.injEq,Prod.mk.injEq] at h
      obtain ⟨rfl,rfl⟩:=h
      rw [<- Nat.eq_of_beq_eq_true hb]
      exact hh.1
    | false =>
      rw [hb] at h
      exact Has.sub hh.2 s g v h

theorem G.keep {e:Exit}(fr':Fr)(hh:Has fr fr')(h:G F k e fr' C L):G F k e fr C L:=fun h0 a w ha hw=>h h0 a w (ha.weaken hh.sub) hw
theorem G.perm {e:Exit}(L':List Ent)(hp:L.Perm L')(h:G F k e fr C L'):G F k e fr C L:=fun h0 a w ha hw=>h h0 a w ha (St.perm hw hp)
theorem G.cW {e:Exit}(j:Nat){x:Ent}(hj:L[j]?=some x)(h:G F k e fr C (L.eraseIdx j)):G F k e fr C L:=fun h0 a w ha hw=>h h0 a w ha (St.drop (St.perm hw (aN hj)))
theorem St.dropAll {w0:World}{C0:Mem}{L0:List Ent}{C:Mem}{w:World}:∀ {L:List Ent},St w0 C0 L0 C L w->St w0 C0 L0 C [] w
  | [],h=>h
  | _::_,h=>St.dropAll h.drop
theorem G.dropAll {e:Exit}(h:G F k e fr C []):G F k e fr C L:=fun h0 a w ha hw=>h h0 a w ha (St.dropAll hw)

theorem least {p:Nat->Prop}:∀ m,p m->∃ m0,p m0/\∀ m',p m'->m0<=m':=by
  intro m
  induction m using Nat.strongRecOn with
  | _ m ih =>
    intro hm
    by_cases h:∃ m',m'<m/\p m'
    · obtain ⟨m',hlt,hp⟩:=h
      exact ih m' hlt hp
    · exact ⟨m,hm,fun m' hp=>Nat.le_of_not_lt (fun hlt=>h ⟨m',hlt,hp⟩)⟩

theorem wp_loop_ex {P:Program}(W:Cw P){c:Code}{Q:Exit->Act->World->Prop}{a:Act}{w:World}(J:Nat->Act->World->Prop){m:Nat}(h0:J m a w)
    (hr:∀ m a w,J m a w->W.wp c (Exit.then (fun a' w'=>∃ m',m'<m/\J m' a' w') Q) a w):W.wp (Code.loop c) Q a w:=by
  classical
  refine W.loop (fun a w=>∃ m,J m a w) (fun a w=>if h:∃ m,J m a w then Classical.choose (least (p:=fun m=>J m a w) _ (Classical.choose_spec h)) else 0) ⟨m,h0⟩ ?_
  intro a w hI
  have hs:=Classical.choose_spec (least (p:=fun m=>J m a w) _ (Classical.choose_spec hI))
  refine W.mono (fun e a' w' q=>?_) (hr _ a w hs.1)
  cases e <;> try exact q
  obtain ⟨m',hlt,hJ⟩:=q
  have hI':∃ m,J m a' w':=⟨m',hJ⟩
  refine ⟨hI', ?_⟩
  rw [dif_pos hI',dif_pos hI]
  exact Nat.lt_of_le_of_lt ((Classical.choose_spec (least (p:=fun m=>J m a' w') _ (Classical.choose_spec hI'))).2 m' hJ) hlt

def IA (F:Fx)(I:Fr->Mem->List Ent->Nat->Prop)(C:Mem)(m:Nat)(a:Act)(w:World):Prop :=
  ∃ fr C' L',C.le C'/\I fr C' L' m/\FrOk F.n [] F.dd fr a/\F.b.cls (C',L') w

theorem G.loop {c:Code}(I:Fr->Mem->List Ent->Nat->Prop){m:Nat}{fr':Fr}(hs:Has fr fr')(hI:I fr' C L m)
    (hr:∀ fr C' L' m,C.le C'->I fr C' L' m->G F (norm 64 (.code c::.inv (fun a w=>∃ m',m'<m/\IA F I C m' a w)::k)) .normal fr C' L'):G F (.code (.loop c)::k) .normal fr C L:=fun h0 a w ha hw=>by
  simp only [Kq]
  refine wp_loop_ex F.W (IA F I C) ⟨fr',C,L,Mem.le.refl _,hI,ha.weaken hs.sub,hw⟩ (fun m a w ⟨fr1,C1,L1,hle,hI1,ha1,hw1⟩=>?_)
  refine F.W.mono (fun e a w q=>?_) (G.bG 64 (hr fr1 C1 L1 m hle hI1) (h0.trans hle) a w ha1 hw1)
  cases e <;> exact q

theorem G.ax {I:Fr->Mem->List Ent->Nat->Prop}{C0:Mem}{m m':Nat}{fr':Fr}(hlt:m'<m)(hle:C0.le C)(hs:Has fr fr')(hI:I fr' C L m') :
    G F (.inv (fun a w=>∃ m',m'<m/\IA F I C0 m' a w)::k) .normal fr C L:=fun _ _a _w ha hw =>
  ⟨m',hlt,fr',C,L,hle,hI,ha.weaken hs.sub,hw⟩

theorem G.cut {c:Code}(I:Fr->Mem->List Ent->Nat->Prop)(h1:G F (norm 64 (.code c::.inv (fun a w=>∃ m,IA F I C m a w)::k)) .normal fr C L)
    (h2:∀ fr C' L' m,C.le C'->I fr C' L' m->G F (norm 64 k) .normal fr C' L'):G F (.code c::k) .normal fr C L:=fun h0 a w ha hw=>by
  simp only [Kq]
  refine F.W.mono (fun e a w q=>?_) (G.bG 64 h1 h0 a w ha hw)
  cases e <;> try exact q
  obtain ⟨m,fr1,C1,L1,hle,hI,ha1,hw1⟩:=q
  exact G.bG 64 (h2 fr1 C1 L1 m hle hI) (h0.trans hle) a w ha1 hw1
theorem G.aw {I:Fr->Mem->List Ent->Nat->Prop}{C0:Mem}{fr':Fr}(m:Nat)(hle:C0.le C)(hs:Has fr fr')(hI:I fr' C L m) :
    G F (.inv (fun a w=>∃ m,IA F I C0 m a w)::k) .normal fr C L:=fun _ _a _w ha hw=>⟨m,fr',C,L,hle,hI,ha.weaken hs.sub,hw⟩

/-! ### Regions -/
def eb (o:Oper):Nat:=match o.op with
  | .load .. | .lookup .. | .entry ..=>1
  | .alloc .. | .box .. | .buildSlice .. | .makeMap .. | .makeSlice .. | .convert ..=>2
  | .store .. | .mapUpdate .. | .mapEntry .. | .entryStore .. | .insert .. | .next .. | .range ..=>3
  | .call c=>match c.callee with
    | .value _=>match o.guard with | none=>2 | some _=>1
    | .invoke ..=>3
    | .builtin b=>match b with | .len | .cap | .max | .min=>0 | _=>3
  | _=>0

def ovr:List (Nat × Nat)->Nat->Nat->Nat
  | [],_,d=>d
  | (j,k)::r,i,d=>bif Nat.beq j i then k else ovr r i d

def opAt:List Oper->Nat->Oper
  | [],_=>default
  | o::_,0=>o
  | _::r,i+1=>opAt r i

theorem opAt_spec:∀ {l:List Oper}{i:Nat},i<l.length->l[i]?=some (opAt l i)
  | [],i,h=>by simp at h
  | o::l,0,_=>rfl
  | o::l,i+1,h=>by simpa [opAt] using opAt_spec (l:=l) (i:=i) (by simpa using h)

def cQ (l:List Oper)(ov:List (Nat × Nat)):List Nat->List It
  | []=>[]
  | i::π=>(i,ovr ov i (eb (opAt l i)),opAt l i)::cQ l ov π

theorem da (l:List Oper)(ov:List (Nat × Nat)):∀ π:List Nat,(cQ l ov π).map (·.1)=π
  | []=>rfl
  | i::π=>by simp [cQ,da l ov π]
theorem mkIts_mem {l:List Oper}{ov:List (Nat × Nat)}:∀ {π:List Nat}{x:It},x∈cQ l ov π->x.1∈π/\x.2.1=ovr ov x.1 (eb (opAt l x.1))/\x.2.2=opAt l x.1
  | [],x,h=>by simp [cQ] at h
  | i::π,x,h=>by
    simp only [cQ,List.mem_cons] at h
    rcases h with rfl | h
    · exact ⟨by simp,rfl,rfl⟩
    · have:=mkIts_mem h
      exact ⟨by simp [this.1],this.2⟩

def bh:Nat->Nat->List Nat
  | 0,_=>[]
  | n+1,i=>i::bh n (i+1)
theorem dD:∀ n i,bh n i=List.range' i n
  | 0,_=>rfl
  | n+1,i=>by simp [bh,dD n,List.range'_succ]

def lenO:List Oper->Nat
  | []=>0
  | _::r=>lenO r+1
theorem lenO_eq:∀ l,lenO l=l.length
  | []=>rfl
  | _::r=>by simp [lenO,lenO_eq r]

theorem FrOk.enter {n:Nat}{fr:Fr}{a:Act}{dd:List Deferred}(h:FrOk n [] dd fr a)(ds:List (Option Nat))(hp:fr.all (fun x=>x.2.1.isEmpty)=true):FrOk n ds dd fr a :=
  ⟨h.size,h.defers,fun s g v hg=>by
    have hm:=List.all_eq_true.1 hp _ (Fr.get_mem hg)
    simp only [List.isEmpty_iff] at hm
    subst hm
    exact ⟨fun _=>(h.ent s [] v hg).1 (fun p hp=>by cases hp),fun hn=>absurd (fun p hp=>by cases hp) hn⟩⟩

theorem G.region {id:Nat}{l:List Oper}(hp:fr.all (fun x=>x.2.1.isEmpty)=true)
    (h:∀ R:Rg F.n (l.map (·.dst)),(∀ fr C L,fr.all (fun x=>x.2.1.isEmpty)=true->G F (norm 64 k) .normal fr C L->D F.cx R [] fr C L)->D F.cx R (cQ l [] (bh (lenO l) 0)) fr C L) (hnd:F.W.nd l.toArray:=by first | exact trivial | exact rfl) :
    G F (.code (.region id l.toArray false)::k) .normal fr C L:=fun h0 a w ha hw=>by
  simp only [Kq]
  let kd:=fun i=>eb (opAt l i)
  let Post:Act->Mem × List Ent->Prop:=fun a κ=>∀ w,F.b.cls κ w->Kq F k .normal a w
  let R:Rg F.n (l.map (·.dst)):=⟨F.b,l.toArray,kd,Post,fun tmps=>yielded_eq l tmps,F.dd⟩
  have hD:=h R (fun fr C L hp hG h0 _ a ha w hw=>G.bG 64 hG h0 a w ⟨ha.size,ha.defers,fun s g v hg=>by
    have hm:=List.all_eq_true.1 hp _ (Fr.get_mem hg)
    simp only [List.isEmpty_iff] at hm
    subst hm
    exact ⟨fun _=>(ha.ent s [] v hg).1 (fun p hp=>by cases hp),fun hn=>absurd (fun p hp=>by cases hp) hn⟩⟩ hw) h0 (fun x hx=>by
      obtain ⟨h1,h2,h3⟩:=mkIts_mem hx
      refine ⟨h2.symm, ?_⟩
      rw [dD,List.mem_range'_1,lenO_eq] at h1
      show (l.toArray)[x.1]?=_
      rw [List.getElem?_toArray,opAt_spec om_,h3]) a (ha.enter _ hp)
  rw [da,dD,lenO_eq] at hD
  refine wp_region_seq F.W hnd (cls:=F.b.cls) (le:=kle) kle.refl hw (κ:=(C,L)) (kd:=kd) (Post:=Post) ?_ (fun a κ w hP hw=>hP w hw)
  rw [List.range_eq_range']
  simpa using hD

theorem G.rg {id:Nat}{l:List Oper}(h:∀ R:Rg F.n (l.map (·.dst)),(∀ fr C L,fr.all (fun x=>x.2.1.isEmpty)=true->G F (norm 64 k) .normal fr C L->D F.cx R [] fr C L)->D F.cx R (cQ l [] (bh (lenO l) 0)) fr C L)(hnd:F.W.nd l.toArray:=by first | exact trivial | exact rfl)(hp:fr.all (fun x=>x.2.1.isEmpty)=true:=by rfl):G F (.code (.region id l.toArray false)::k) .normal fr C L:=G.region hp h hnd
theorem St.rebase {w0:World}{C0:Mem}{L0:List Ent}{C:Mem}{L:List Ent}{w:World}(h:St w0 C0 L0 C L w):St w0 C L0 C L w:=⟨h.sep,h.ev,Mem.le.refl _,fun _ _ hk=>.inl hk,h.ln⟩
theorem St.unbase {w0:World}{C0:Mem}{L0:List Ent}{C C':Mem}{L':List Ent}{w':World}(h0:C0.le C)(hcn:∀ k o,C k=some o->C0 k=some o∨w0.heap.size<=k∨owns L0 k)(h:St w0 C L0 C' L' w'):St w0 C0 L0 C' L' w' :=
  ⟨h.sep,h.ev,h0.trans h.c0,fun k o hk=>(h.cn k o hk).elim (hcn k o) (fun h=>.inr h),h.ln⟩

theorem G.aH {id:Nat}{l:List Oper}(π:List Nat)(ov:List (Nat × Nat))(hp:fr.all (fun x=>x.2.1.isEmpty)=true)
    (hB:(Region.noSelect l.toArray && (π.length == l.toArray.size) && simB .any l.toArray (fun i=>ovr ov i (eb (opAt l i))) π (Array.replicate l.toArray.size false) && π.all (fun i=>Nat.blt i l.length))=true)
    (h:∀ R:Rg F.n (l.map (·.dst)),C.le R.b.C0->(∀ fr C L,fr.all (fun x=>x.2.1.isEmpty)=true->G F (norm 64 k) .normal fr C L->D F.cx R [] fr C L)->D F.cx R (cQ l ov π) fr C L) (hnd:F.W.nd l.toArray:=by first | exact trivial | exact rfl) :
    G F (.code (.region id l.toArray true)::k) .normal fr C L:=fun h0 a w ha hw=>by
  simp only [Kq]
  rw [Bool.and_eq_true] at hB
  let kd:=fun i=>ovr ov i (eb (opAt l i))
  let b:Bs:=⟨F.b.w0,C,F.b.L0⟩
  let Post:Act->Mem × List Ent->Prop:=fun a κ=>∀ w,b.cls κ w->Kq F k .normal a w
  let R:Rg F.n (l.map (·.dst)):=⟨b,l.toArray,kd,Post,fun tmps=>yielded_eq l tmps,F.dd⟩
  have un:∀ κ w,b.cls κ w->F.b.cls κ w:=fun κ w hc=>St.unbase h0 hw.cn hc
  have hD:=h R (Mem.le.refl _) (fun fr C' L hp hG h0' _ a ha w hw=>G.bG 64 hG (h0.trans h0') a w ⟨ha.size,ha.defers,fun s g v hg=>by
    have hm:=List.all_eq_true.1 hp _ (Fr.get_mem hg)
    simp only [List.isEmpty_iff] at hm
    subst hm
    exact ⟨fun _=>(ha.ent s [] v hg).1 (fun p hp=>by cases hp),fun hn=>absurd (fun p hp=>by cases hp) hn⟩⟩ (un _ _ hw)) (Mem.le.refl _) (fun x hx=>by
      obtain ⟨h1,h2,h3⟩:=mkIts_mem hx
      refine ⟨h2.symm, ?_⟩
      have hlt:=List.all_eq_true.1 hB.2 x.1 h1
      rw [Nat.blt_eq] at hlt
      show (l.toArray)[x.1]?=_
      rw [List.getElem?_toArray,opAt_spec hlt,h3]) a (ha.enter _ hp)
  rw [da] at hD
  exact wp_region_sim F.W hnd (cls:=b.cls) (le:=kle) kle.refl kle.trans F.cx.mixed (St.rebase (St.drew hw)) π hB.1 hD (fun a κ w hP hw=>hP w hw)

theorem G.aI {id:Nat}{l:List Oper}(ov:List (Nat × Nat))(hp:fr.all (fun x=>x.2.1.isEmpty)=true)
    (h:∀ R:Rg F.n (l.map (·.dst)),(∀ fr C L,fr.all (fun x=>x.2.1.isEmpty)=true->G F (norm 64 k) .normal fr C L->D F.cx R [] fr C L)->D F.cx R (cQ l ov (bh (lenO l) 0)) fr C L) (hnd:F.W.nd l.toArray:=by first | exact trivial | exact rfl) :
    G F (.code (.region id l.toArray false)::k) .normal fr C L:=fun h0 a w ha hw=>by
  simp only [Kq]
  let kd:=fun i=>ovr ov i (eb (opAt l i))
  let Post:Act->Mem × List Ent->Prop:=fun a κ=>∀ w,F.b.cls κ w->Kq F k .normal a w
  let R:Rg F.n (l.map (·.dst)):=⟨F.b,l.toArray,kd,Post,fun tmps=>yielded_eq l tmps,F.dd⟩
  have hD:=h R (fun fr C L hp hG h0 _ a ha w hw=>G.bG 64 hG h0 a w ⟨ha.size,ha.defers,fun s g v hg=>by
    have hm:=List.all_eq_true.1 hp _ (Fr.get_mem hg)
    simp only [List.isEmpty_iff] at hm
    subst hm
    exact ⟨fun _=>(ha.ent s [] v hg).1 (fun p hp=>by cases hp),fun hn=>absurd (fun p hp=>by cases hp) hn⟩⟩ hw) h0 (fun x hx=>by
      obtain ⟨h1,h2,h3⟩:=mkIts_mem hx
      refine ⟨h2.symm, ?_⟩
      rw [dD,List.mem_range'_1,lenO_eq] at h1
      show (l.toArray)[x.1]?=_
      rw [List.getElem?_toArray,opAt_spec om_,h3]) a (ha.enter _ hp)
  rw [da,dD,lenO_eq] at hD
  refine wp_region_seq F.W hnd (cls:=F.b.cls) (le:=kle) kle.refl hw (κ:=(C,L)) (kd:=kd) (Post:=Post) ?_ (fun a κ w hP hw=>hP w hw)
  rw [List.range_eq_range']
  simpa using hD

theorem D.done {n:Nat}{ds:List (Option Nat)}{R:Rg n ds}{cx:Cx}(fr':Fr)(hs:Has fr fr')(h:D cx R [] fr' C L):D cx R [] fr C L:=fun h0 hits a ha=>h h0 hits a (ha.weaken hs.sub)

theorem D.dn {n:Nat}{ds:List (Option Nat)}{R:Rg n ds}{cx:Cx}{fr:Fr}{C:Mem}{L:List Ent}{P:Fr->Mem->List Ent->Prop}(fr':Fr)(hR:∀ fr C L,fr.all (fun x=>x.2.1.isEmpty)=true->P fr C L->D cx R [] fr C L)(h:P fr' C L)(hs:Has fr fr':=by (repeat (first | exact trivial | refine ⟨rfl, ?_⟩)))(hr:fr'.all (fun x=>x.2.1.isEmpty)=true:=by rfl):D cx R [] fr C L:=D.done fr' hs (hR _ _ _ hr h)
theorem D.e22 {n:Nat}{ds:List (Option Nat)}{R:Rg n ds}{cx:Cx}{fr:Fr}{C:Mem}{L:List Ent}{P:Fr->Mem->List Ent->Prop}(k0 k1 k2 k3 k4 k5 k6 k7 k8 k9 k10 k11 k12 k13 k14 k15 k16 k17 k18 k19 k20 k21:Nat){v0 v1 v2 v3 v4 v5 v6 v7 v8 v9 v10 v11 v12 v13 v14 v15 v16 v17 v18 v19 v20 v21:Value}(hR:∀ fr C L,fr.all (fun x=>x.2.1.isEmpty)=true->P fr C L->D cx R [] fr C L)(h:P [(k0,[],v0),(k1,[],v1),(k2,[],v2),(k3,[],v3),(k4,[],v4),(k5,[],v5),(k6,[],v6),(k7,[],v7),(k8,[],v8),(k9,[],v9),(k10,[],v10),(k11,[],v11),(k12,[],v12),(k13,[],v13),(k14,[],v14),(k15,[],v15),(k16,[],v16),(k17,[],v17),(k18,[],v18),(k19,[],v19),(k20,[],v20),(k21,[],v21)] C L)(hs:Has fr [(k0,[],v0),(k1,[],v1),(k2,[],v2),(k3,[],v3),(k4,[],v4),(k5,[],v5),(k6,[],v6),(k7,[],v7),(k8,[],v8),(k9,[],v9),(k10,[],v10),(k11,[],v11),(k12,[],v12),(k13,[],v13),(k14,[],v14),(k15,[],v15),(k16,[],v16),(k17,[],v17),(k18,[],v18),(k19,[],v19),(k20,[],v20),(k21,[],v21)]:=by (repeat (first | exact trivial | refine ⟨rfl, ?_⟩))):D cx R [] fr C L:=D.done [(k0,[],v0),(k1,[],v1),(k2,[],v2),(k3,[],v3),(k4,[],v4),(k5,[],v5),(k6,[],v6),(k7,[],v7),(k8,[],v8),(k9,[],v9),(k10,[],v10),(k11,[],v11),(k12,[],v12),(k13,[],v13),(k14,[],v14),(k15,[],v15),(k16,[],v16),(k17,[],v17),(k18,[],v18),(k19,[],v19),(k20,[],v20),(k21,[],v21)] hs (hR _ _ _ rfl h)
theorem D.e21 {n:Nat}{ds:List (Option Nat)}{R:Rg n ds}{cx:Cx}{fr:Fr}{C:Mem}{L:List Ent}{P:Fr->Mem->List Ent->Prop}(k0 k1 k2 k3 k4 k5 k6 k7 k8 k9 k10 k11 k12 k13 k14 k15 k16 k17 k18 k19 k20:Nat){v0 v1 v2 v3 v4 v5 v6 v7 v8 v9 v10 v11 v12 v13 v14 v15 v16 v17 v18 v19 v20:Value}(hR:∀ fr C L,fr.all (fun x=>x.2.1.isEmpty)=true->P fr C L->D cx R [] fr C L)(h:P [(k0,[],v0),(k1,[],v1),(k2,[],v2),(k3,[],v3),(k4,[],v4),(k5,[],v5),(k6,[],v6),(k7,[],v7),(k8,[],v8),(k9,[],v9),(k10,[],v10),(k11,[],v11),(k12,[],v12),(k13,[],v13),(k14,[],v14),(k15,[],v15),(k16,[],v16),(k17,[],v17),(k18,[],v18),(k19,[],v19),(k20,[],v20)] C L)(hs:Has fr [(k0,[],v0),(k1,[],v1),(k2,[],v2),(k3,[],v3),(k4,[],v4),(k5,[],v5),(k6,[],v6),(k7,[],v7),(k8,[],v8),(k9,[],v9),(k10,[],v10),(k11,[],v11),(k12,[],v12),(k13,[],v13),(k14,[],v14),(k15,[],v15),(k16,[],v16),(k17,[],v17),(k18,[],v18),(k19,[],v19),(k20,[],v20)]:=by (repeat (first | exact trivial | refine ⟨rfl, ?_⟩))):D cx R [] fr C L:=D.done [(k0,[],v0),(k1,[],v1),(k2,[],v2),(k3,[],v3),(k4,[],v4),(k5,[],v5),(k6,[],v6),(k7,[],v7),(k8,[],v8),(k9,[],v9),(k10,[],v10),(k11,[],v11),(k12,[],v12),(k13,[],v13),(k14,[],v14),(k15,[],v15),(k16,[],v16),(k17,[],v17),(k18,[],v18),(k19,[],v19),(k20,[],v20)] hs (hR _ _ _ rfl h)
theorem D.e19 {n:Nat}{ds:List (Option Nat)}{R:Rg n ds}{cx:Cx}{fr:Fr}{C:Mem}{L:List Ent}{P:Fr->Mem->List Ent->Prop}(k0 k1 k2 k3 k4 k5 k6 k7 k8 k9 k10 k11 k12 k13 k14 k15 k16 k17 k18:Nat){v0 v1 v2 v3 v4 v5 v6 v7 v8 v9 v10 v11 v12 v13 v14 v15 v16 v17 v18:Value}(hR:∀ fr C L,fr.all (fun x=>x.2.1.isEmpty)=true->P fr C L->D cx R [] fr C L)(h:P [(k0,[],v0),(k1,[],v1),(k2,[],v2),(k3,[],v3),(k4,[],v4),(k5,[],v5),(k6,[],v6),(k7,[],v7),(k8,[],v8),(k9,[],v9),(k10,[],v10),(k11,[],v11),(k12,[],v12),(k13,[],v13),(k14,[],v14),(k15,[],v15),(k16,[],v16),(k17,[],v17),(k18,[],v18)] C L)(hs:Has fr [(k0,[],v0),(k1,[],v1),(k2,[],v2),(k3,[],v3),(k4,[],v4),(k5,[],v5),(k6,[],v6),(k7,[],v7),(k8,[],v8),(k9,[],v9),(k10,[],v10),(k11,[],v11),(k12,[],v12),(k13,[],v13),(k14,[],v14),(k15,[],v15),(k16,[],v16),(k17,[],v17),(k18,[],v18)]:=by (repeat (first | exact trivial | refine ⟨rfl, ?_⟩))):D cx R [] fr C L:=D.done [(k0,[],v0),(k1,[],v1),(k2,[],v2),(k3,[],v3),(k4,[],v4),(k5,[],v5),(k6,[],v6),(k7,[],v7),(k8,[],v8),(k9,[],v9),(k10,[],v10),(k11,[],v11),(k12,[],v12),(k13,[],v13),(k14,[],v14),(k15,[],v15),(k16,[],v16),(k17,[],v17),(k18,[],v18)] hs (hR _ _ _ rfl h)
theorem D.e17 {n:Nat}{ds:List (Option Nat)}{R:Rg n ds}{cx:Cx}{fr:Fr}{C:Mem}{L:List Ent}{P:Fr->Mem->List Ent->Prop}(k0 k1 k2 k3 k4 k5 k6 k7 k8 k9 k10 k11 k12 k13 k14 k15 k16:Nat){v0 v1 v2 v3 v4 v5 v6 v7 v8 v9 v10 v11 v12 v13 v14 v15 v16:Value}(hR:∀ fr C L,fr.all (fun x=>x.2.1.isEmpty)=true->P fr C L->D cx R [] fr C L)(h:P [(k0,[],v0),(k1,[],v1),(k2,[],v2),(k3,[],v3),(k4,[],v4),(k5,[],v5),(k6,[],v6),(k7,[],v7),(k8,[],v8),(k9,[],v9),(k10,[],v10),(k11,[],v11),(k12,[],v12),(k13,[],v13),(k14,[],v14),(k15,[],v15),(k16,[],v16)] C L)(hs:Has fr [(k0,[],v0),(k1,[],v1),(k2,[],v2),(k3,[],v3),(k4,[],v4),(k5,[],v5),(k6,[],v6),(k7,[],v7),(k8,[],v8),(k9,[],v9),(k10,[],v10),(k11,[],v11),(k12,[],v12),(k13,[],v13),(k14,[],v14),(k15,[],v15),(k16,[],v16)]:=by (repeat (first | exact trivial | refine ⟨rfl, ?_⟩))):D cx R [] fr C L:=D.done [(k0,[],v0),(k1,[],v1),(k2,[],v2),(k3,[],v3),(k4,[],v4),(k5,[],v5),(k6,[],v6),(k7,[],v7),(k8,[],v8),(k9,[],v9),(k10,[],v10),(k11,[],v11),(k12,[],v12),(k13,[],v13),(k14,[],v14),(k15,[],v15),(k16,[],v16)] hs (hR _ _ _ rfl h)
theorem D.e16 {n:Nat}{ds:List (Option Nat)}{R:Rg n ds}{cx:Cx}{fr:Fr}{C:Mem}{L:List Ent}{P:Fr->Mem->List Ent->Prop}(k0 k1 k2 k3 k4 k5 k6 k7 k8 k9 k10 k11 k12 k13 k14 k15:Nat){v0 v1 v2 v3 v4 v5 v6 v7 v8 v9 v10 v11 v12 v13 v14 v15:Value}(hR:∀ fr C L,fr.all (fun x=>x.2.1.isEmpty)=true->P fr C L->D cx R [] fr C L)(h:P [(k0,[],v0),(k1,[],v1),(k2,[],v2),(k3,[],v3),(k4,[],v4),(k5,[],v5),(k6,[],v6),(k7,[],v7),(k8,[],v8),(k9,[],v9),(k10,[],v10),(k11,[],v11),(k12,[],v12),(k13,[],v13),(k14,[],v14),(k15,[],v15)] C L)(hs:Has fr [(k0,[],v0),(k1,[],v1),(k2,[],v2),(k3,[],v3),(k4,[],v4),(k5,[],v5),(k6,[],v6),(k7,[],v7),(k8,[],v8),(k9,[],v9),(k10,[],v10),(k11,[],v11),(k12,[],v12),(k13,[],v13),(k14,[],v14),(k15,[],v15)]:=by (repeat (first | exact trivial | refine ⟨rfl, ?_⟩))):D cx R [] fr C L:=D.done [(k0,[],v0),(k1,[],v1),(k2,[],v2),(k3,[],v3),(k4,[],v4),(k5,[],v5),(k6,[],v6),(k7,[],v7),(k8,[],v8),(k9,[],v9),(k10,[],v10),(k11,[],v11),(k12,[],v12),(k13,[],v13),(k14,[],v14),(k15,[],v15)] hs (hR _ _ _ rfl h)
theorem D.e15 {n:Nat}{ds:List (Option Nat)}{R:Rg n ds}{cx:Cx}{fr:Fr}{C:Mem}{L:List Ent}{P:Fr->Mem->List Ent->Prop}(k0 k1 k2 k3 k4 k5 k6 k7 k8 k9 k10 k11 k12 k13 k14:Nat){v0 v1 v2 v3 v4 v5 v6 v7 v8 v9 v10 v11 v12 v13 v14:Value}(hR:∀ fr C L,fr.all (fun x=>x.2.1.isEmpty)=true->P fr C L->D cx R [] fr C L)(h:P [(k0,[],v0),(k1,[],v1),(k2,[],v2),(k3,[],v3),(k4,[],v4),(k5,[],v5),(k6,[],v6),(k7,[],v7),(k8,[],v8),(k9,[],v9),(k10,[],v10),(k11,[],v11),(k12,[],v12),(k13,[],v13),(k14,[],v14)] C L)(hs:Has fr [(k0,[],v0),(k1,[],v1),(k2,[],v2),(k3,[],v3),(k4,[],v4),(k5,[],v5),(k6,[],v6),(k7,[],v7),(k8,[],v8),(k9,[],v9),(k10,[],v10),(k11,[],v11),(k12,[],v12),(k13,[],v13),(k14,[],v14)]:=by (repeat (first | exact trivial | refine ⟨rfl, ?_⟩))):D cx R [] fr C L:=D.done [(k0,[],v0),(k1,[],v1),(k2,[],v2),(k3,[],v3),(k4,[],v4),(k5,[],v5),(k6,[],v6),(k7,[],v7),(k8,[],v8),(k9,[],v9),(k10,[],v10),(k11,[],v11),(k12,[],v12),(k13,[],v13),(k14,[],v14)] hs (hR _ _ _ rfl h)
theorem D.e14 {n:Nat}{ds:List (Option Nat)}{R:Rg n ds}{cx:Cx}{fr:Fr}{C:Mem}{L:List Ent}{P:Fr->Mem->List Ent->Prop}(k0 k1 k2 k3 k4 k5 k6 k7 k8 k9 k10 k11 k12 k13:Nat){v0 v1 v2 v3 v4 v5 v6 v7 v8 v9 v10 v11 v12 v13:Value}(hR:∀ fr C L,fr.all (fun x=>x.2.1.isEmpty)=true->P fr C L->D cx R [] fr C L)(h:P [(k0,[],v0),(k1,[],v1),(k2,[],v2),(k3,[],v3),(k4,[],v4),(k5,[],v5),(k6,[],v6),(k7,[],v7),(k8,[],v8),(k9,[],v9),(k10,[],v10),(k11,[],v11),(k12,[],v12),(k13,[],v13)] C L)(hs:Has fr [(k0,[],v0),(k1,[],v1),(k2,[],v2),(k3,[],v3),(k4,[],v4),(k5,[],v5),(k6,[],v6),(k7,[],v7),(k8,[],v8),(k9,[],v9),(k10,[],v10),(k11,[],v11),(k12,[],v12),(k13,[],v13)]:=by (repeat (first | exact trivial | refine ⟨rfl, ?_⟩))):D cx R [] fr C L:=D.done [(k0,[],v0),(k1,[],v1),(k2,[],v2),(k3,[],v3),(k4,[],v4),(k5,[],v5),(k6,[],v6),(k7,[],v7),(k8,[],v8),(k9,[],v9),(k10,[],v10),(k11,[],v11),(k12,[],v12),(k13,[],v13)] hs (hR _ _ _ rfl h)
theorem D.e13 {n:Nat}{ds:List (Option Nat)}{R:Rg n ds}{cx:Cx}{fr:Fr}{C:Mem}{L:List Ent}{P:Fr->Mem->List Ent->Prop}(k0 k1 k2 k3 k4 k5 k6 k7 k8 k9 k10 k11 k12:Nat){v0 v1 v2 v3 v4 v5 v6 v7 v8 v9 v10 v11 v12:Value}(hR:∀ fr C L,fr.all (fun x=>x.2.1.isEmpty)=true->P fr C L->D cx R [] fr C L)(h:P [(k0,[],v0),(k1,[],v1),(k2,[],v2),(k3,[],v3),(k4,[],v4),(k5,[],v5),(k6,[],v6),(k7,[],v7),(k8,[],v8),(k9,[],v9),(k10,[],v10),(k11,[],v11),(k12,[],v12)] C L)(hs:Has fr [(k0,[],v0),(k1,[],v1),(k2,[],v2),(k3,[],v3),(k4,[],v4),(k5,[],v5),(k6,[],v6),(k7,[],v7),(k8,[],v8),(k9,[],v9),(k10,[],v10),(k11,[],v11),(k12,[],v12)]:=by (repeat (first | exact trivial | refine ⟨rfl, ?_⟩))):D cx R [] fr C L:=D.done [(k0,[],v0),(k1,[],v1),(k2,[],v2),(k3,[],v3),(k4,[],v4),(k5,[],v5),(k6,[],v6),(k7,[],v7),(k8,[],v8),(k9,[],v9),(k10,[],v10),(k11,[],v11),(k12,[],v12)] hs (hR _ _ _ rfl h)
theorem D.e12 {n:Nat}{ds:List (Option Nat)}{R:Rg n ds}{cx:Cx}{fr:Fr}{C:Mem}{L:List Ent}{P:Fr->Mem->List Ent->Prop}(k0 k1 k2 k3 k4 k5 k6 k7 k8 k9 k10 k11:Nat){v0 v1 v2 v3 v4 v5 v6 v7 v8 v9 v10 v11:Value}(hR:∀ fr C L,fr.all (fun x=>x.2.1.isEmpty)=true->P fr C L->D cx R [] fr C L)(h:P [(k0,[],v0),(k1,[],v1),(k2,[],v2),(k3,[],v3),(k4,[],v4),(k5,[],v5),(k6,[],v6),(k7,[],v7),(k8,[],v8),(k9,[],v9),(k10,[],v10),(k11,[],v11)] C L)(hs:Has fr [(k0,[],v0),(k1,[],v1),(k2,[],v2),(k3,[],v3),(k4,[],v4),(k5,[],v5),(k6,[],v6),(k7,[],v7),(k8,[],v8),(k9,[],v9),(k10,[],v10),(k11,[],v11)]:=by (repeat (first | exact trivial | refine ⟨rfl, ?_⟩))):D cx R [] fr C L:=D.done [(k0,[],v0),(k1,[],v1),(k2,[],v2),(k3,[],v3),(k4,[],v4),(k5,[],v5),(k6,[],v6),(k7,[],v7),(k8,[],v8),(k9,[],v9),(k10,[],v10),(k11,[],v11)] hs (hR _ _ _ rfl h)
theorem D.e11 {n:Nat}{ds:List (Option Nat)}{R:Rg n ds}{cx:Cx}{fr:Fr}{C:Mem}{L:List Ent}{P:Fr->Mem->List Ent->Prop}(k0 k1 k2 k3 k4 k5 k6 k7 k8 k9 k10:Nat){v0 v1 v2 v3 v4 v5 v6 v7 v8 v9 v10:Value}(hR:∀ fr C L,fr.all (fun x=>x.2.1.isEmpty)=true->P fr C L->D cx R [] fr C L)(h:P [(k0,[],v0),(k1,[],v1),(k2,[],v2),(k3,[],v3),(k4,[],v4),(k5,[],v5),(k6,[],v6),(k7,[],v7),(k8,[],v8),(k9,[],v9),(k10,[],v10)] C L)(hs:Has fr [(k0,[],v0),(k1,[],v1),(k2,[],v2),(k3,[],v3),(k4,[],v4),(k5,[],v5),(k6,[],v6),(k7,[],v7),(k8,[],v8),(k9,[],v9),(k10,[],v10)]:=by (repeat (first | exact trivial | refine ⟨rfl, ?_⟩))):D cx R [] fr C L:=D.done [(k0,[],v0),(k1,[],v1),(k2,[],v2),(k3,[],v3),(k4,[],v4),(k5,[],v5),(k6,[],v6),(k7,[],v7),(k8,[],v8),(k9,[],v9),(k10,[],v10)] hs (hR _ _ _ rfl h)
theorem D.e10 {n:Nat}{ds:List (Option Nat)}{R:Rg n ds}{cx:Cx}{fr:Fr}{C:Mem}{L:List Ent}{P:Fr->Mem->List Ent->Prop}(k0 k1 k2 k3 k4 k5 k6 k7 k8 k9:Nat){v0 v1 v2 v3 v4 v5 v6 v7 v8 v9:Value}(hR:∀ fr C L,fr.all (fun x=>x.2.1.isEmpty)=true->P fr C L->D cx R [] fr C L)(h:P [(k0,[],v0),(k1,[],v1),(k2,[],v2),(k3,[],v3),(k4,[],v4),(k5,[],v5),(k6,[],v6),(k7,[],v7),(k8,[],v8),(k9,[],v9)] C L)(hs:Has fr [(k0,[],v0),(k1,[],v1),(k2,[],v2),(k3,[],v3),(k4,[],v4),(k5,[],v5),(k6,[],v6),(k7,[],v7),(k8,[],v8),(k9,[],v9)]:=by (repeat (first | exact trivial | refine ⟨rfl, ?_⟩))):D cx R [] fr C L:=D.done [(k0,[],v0),(k1,[],v1),(k2,[],v2),(k3,[],v3),(k4,[],v4),(k5,[],v5),(k6,[],v6),(k7,[],v7),(k8,[],v8),(k9,[],v9)] hs (hR _ _ _ rfl h)
theorem D.e9 {n:Nat}{ds:List (Option Nat)}{R:Rg n ds}{cx:Cx}{fr:Fr}{C:Mem}{L:List Ent}{P:Fr->Mem->List Ent->Prop}(k0 k1 k2 k3 k4 k5 k6 k7 k8:Nat){v0 v1 v2 v3 v4 v5 v6 v7 v8:Value}(hR:∀ fr C L,fr.all (fun x=>x.2.1.isEmpty)=true->P fr C L->D cx R [] fr C L)(h:P [(k0,[],v0),(k1,[],v1),(k2,[],v2),(k3,[],v3),(k4,[],v4),(k5,[],v5),(k6,[],v6),(k7,[],v7),(k8,[],v8)] C L)(hs:Has fr [(k0,[],v0),(k1,[],v1),(k2,[],v2),(k3,[],v3),(k4,[],v4),(k5,[],v5),(k6,[],v6),(k7,[],v7),(k8,[],v8)]:=by (repeat (first | exact trivial | refine ⟨rfl, ?_⟩))):D cx R [] fr C L:=D.done [(k0,[],v0),(k1,[],v1),(k2,[],v2),(k3,[],v3),(k4,[],v4),(k5,[],v5),(k6,[],v6),(k7,[],v7),(k8,[],v8)] hs (hR _ _ _ rfl h)
theorem D.e8 {n:Nat}{ds:List (Option Nat)}{R:Rg n ds}{cx:Cx}{fr:Fr}{C:Mem}{L:List Ent}{P:Fr->Mem->List Ent->Prop}(k0 k1 k2 k3 k4 k5 k6 k7:Nat){v0 v1 v2 v3 v4 v5 v6 v7:Value}(hR:∀ fr C L,fr.all (fun x=>x.2.1.isEmpty)=true->P fr C L->D cx R [] fr C L)(h:P [(k0,[],v0),(k1,[],v1),(k2,[],v2),(k3,[],v3),(k4,[],v4),(k5,[],v5),(k6,[],v6),(k7,[],v7)] C L)(hs:Has fr [(k0,[],v0),(k1,[],v1),(k2,[],v2),(k3,[],v3),(k4,[],v4),(k5,[],v5),(k6,[],v6),(k7,[],v7)]:=by (repeat (first | exact trivial | refine ⟨rfl, ?_⟩))):D cx R [] fr C L:=D.done [(k0,[],v0),(k1,[],v1),(k2,[],v2),(k3,[],v3),(k4,[],v4),(k5,[],v5),(k6,[],v6),(k7,[],v7)] hs (hR _ _ _ rfl h)
theorem D.e7 {n:Nat}{ds:List (Option Nat)}{R:Rg n ds}{cx:Cx}{fr:Fr}{C:Mem}{L:List Ent}{P:Fr->Mem->List Ent->Prop}(k0 k1 k2 k3 k4 k5 k6:Nat){v0 v1 v2 v3 v4 v5 v6:Value}(hR:∀ fr C L,fr.all (fun x=>x.2.1.isEmpty)=true->P fr C L->D cx R [] fr C L)(h:P [(k0,[],v0),(k1,[],v1),(k2,[],v2),(k3,[],v3),(k4,[],v4),(k5,[],v5),(k6,[],v6)] C L)(hs:Has fr [(k0,[],v0),(k1,[],v1),(k2,[],v2),(k3,[],v3),(k4,[],v4),(k5,[],v5),(k6,[],v6)]:=by (repeat (first | exact trivial | refine ⟨rfl, ?_⟩))):D cx R [] fr C L:=D.done [(k0,[],v0),(k1,[],v1),(k2,[],v2),(k3,[],v3),(k4,[],v4),(k5,[],v5),(k6,[],v6)] hs (hR _ _ _ rfl h)
theorem D.e6 {n:Nat}{ds:List (Option Nat)}{R:Rg n ds}{cx:Cx}{fr:Fr}{C:Mem}{L:List Ent}{P:Fr->Mem->List Ent->Prop}(k0 k1 k2 k3 k4 k5:Nat){v0 v1 v2 v3 v4 v5:Value}(hR:∀ fr C L,fr.all (fun x=>x.2.1.isEmpty)=true->P fr C L->D cx R [] fr C L)(h:P [(k0,[],v0),(k1,[],v1),(k2,[],v2),(k3,[],v3),(k4,[],v4),(k5,[],v5)] C L)(hs:Has fr [(k0,[],v0),(k1,[],v1),(k2,[],v2),(k3,[],v3),(k4,[],v4),(k5,[],v5)]:=by (repeat (first | exact trivial | refine ⟨rfl, ?_⟩))):D cx R [] fr C L:=D.done [(k0,[],v0),(k1,[],v1),(k2,[],v2),(k3,[],v3),(k4,[],v4),(k5,[],v5)] hs (hR _ _ _ rfl h)
theorem D.e5 {n:Nat}{ds:List (Option Nat)}{R:Rg n ds}{cx:Cx}{fr:Fr}{C:Mem}{L:List Ent}{P:Fr->Mem->List Ent->Prop}(k0 k1 k2 k3 k4:Nat){v0 v1 v2 v3 v4:Value}(hR:∀ fr C L,fr.all (fun x=>x.2.1.isEmpty)=true->P fr C L->D cx R [] fr C L)(h:P [(k0,[],v0),(k1,[],v1),(k2,[],v2),(k3,[],v3),(k4,[],v4)] C L)(hs:Has fr [(k0,[],v0),(k1,[],v1),(k2,[],v2),(k3,[],v3),(k4,[],v4)]:=by (repeat (first | exact trivial | refine ⟨rfl, ?_⟩))):D cx R [] fr C L:=D.done [(k0,[],v0),(k1,[],v1),(k2,[],v2),(k3,[],v3),(k4,[],v4)] hs (hR _ _ _ rfl h)
theorem D.e4 {n:Nat}{ds:List (Option Nat)}{R:Rg n ds}{cx:Cx}{fr:Fr}{C:Mem}{L:List Ent}{P:Fr->Mem->List Ent->Prop}(k0 k1 k2 k3:Nat){v0 v1 v2 v3:Value}(hR:∀ fr C L,fr.all (fun x=>x.2.1.isEmpty)=true->P fr C L->D cx R [] fr C L)(h:P [(k0,[],v0),(k1,[],v1),(k2,[],v2),(k3,[],v3)] C L)(hs:Has fr [(k0,[],v0),(k1,[],v1),(k2,[],v2),(k3,[],v3)]:=by (repeat (first | exact trivial | refine ⟨rfl, ?_⟩))):D cx R [] fr C L:=D.done [(k0,[],v0),(k1,[],v1),(k2,[],v2),(k3,[],v3)] hs (hR _ _ _ rfl h)
theorem D.e3 {n:Nat}{ds:List (Option Nat)}{R:Rg n ds}{cx:Cx}{fr:Fr}{C:Mem}{L:List Ent}{P:Fr->Mem->List Ent->Prop}(k0 k1 k2:Nat){v0 v1 v2:Value}(hR:∀ fr C L,fr.all (fun x=>x.2.1.isEmpty)=true->P fr C L->D cx R [] fr C L)(h:P [(k0,[],v0),(k1,[],v1),(k2,[],v2)] C L)(hs:Has fr [(k0,[],v0),(k1,[],v1),(k2,[],v2)]:=by (repeat (first | exact trivial | refine ⟨rfl, ?_⟩))):D cx R [] fr C L:=D.done [(k0,[],v0),(k1,[],v1),(k2,[],v2)] hs (hR _ _ _ rfl h)
theorem D.e2 {n:Nat}{ds:List (Option Nat)}{R:Rg n ds}{cx:Cx}{fr:Fr}{C:Mem}{L:List Ent}{P:Fr->Mem->List Ent->Prop}(k0 k1:Nat){v0 v1:Value}(hR:∀ fr C L,fr.all (fun x=>x.2.1.isEmpty)=true->P fr C L->D cx R [] fr C L)(h:P [(k0,[],v0),(k1,[],v1)] C L)(hs:Has fr [(k0,[],v0),(k1,[],v1)]:=by (repeat (first | exact trivial | refine ⟨rfl, ?_⟩))):D cx R [] fr C L:=D.done [(k0,[],v0),(k1,[],v1)] hs (hR _ _ _ rfl h)
theorem D.e1 {n:Nat}{ds:List (Option Nat)}{R:Rg n ds}{cx:Cx}{fr:Fr}{C:Mem}{L:List Ent}{P:Fr->Mem->List Ent->Prop}(k0:Nat){v0:Value}(hR:∀ fr C L,fr.all (fun x=>x.2.1.isEmpty)=true->P fr C L->D cx R [] fr C L)(h:P [(k0,[],v0)] C L)(hs:Has fr [(k0,[],v0)]:=by (repeat (first | exact trivial | refine ⟨rfl, ?_⟩))):D cx R [] fr C L:=D.done [(k0,[],v0)] hs (hR _ _ _ rfl h)
def runP (cx:Cx)(n:Nat)(ds:List (Option Nat)):Nat->List It->Fr->Option (List It × Fr)
  | 0,its,fr=>some (its,fr)
  | _+1,[],_=>none
  | m+1,(_,k,o)::its,fr=>match o.dst with
    | none=>none
    | some d=>match gOf ds fr o.guard with
      | none=>none
      | some g=>match po cx.T (ev fr g) o.op with
        | none=>none
        | some v=>bif Nat.ble k 1 && (aG n ds ((d,g,v)::fr) d && wfG ds fr g) then runP cx n ds m its ((d,g,v)::fr) else none
theorem D.ps {n:Nat}{ds:List (Option Nat)}{R:Rg n ds}{cx:Cx}{its its':List It}{fr fr':Fr}{C:Mem}{L:List Ent}(m:Nat)(h:D cx R its' fr' C L)(he:runP cx n ds m its fr=some (its',fr'):=by rfl):D cx R its fr C L:=by
  induction m generalizing its fr with
  | zero=>cases he;exact h
  | succ m ih=>match its,he with
    | (i,k,o)::its,he =>
      simp only [runP] at he
      split at he
      · cases he
      · rename_i d hd
        split at he
        · cases he
        · rename_i g hg
          split at he
          · cases he
          · rename_i v hv
            cases hb:(Nat.ble k 1 && (aG n ds ((d,g,v)::fr) d && wfG ds fr g)) with
            | false=>rw [hb] at he;cases he
            | true =>
              rw [hb] at he
              simp only [Bool.and_eq_true] at hb
              exact D.pure hb.1 hd hg hv hb.2.1 hb.2.2 (ih he)
theorem h_1 {fr:Fr}{v0:Value}(k0:Nat)(h:Has fr [(k0,[],v0)]:=by (repeat (first | exact trivial | refine ⟨rfl, ?_⟩))):Has fr [(k0,[],v0)]:=h
theorem h_2 {fr:Fr}{v0 v1:Value}(k0 k1:Nat)(h:Has fr [(k0,[],v0),(k1,[],v1)]:=by (repeat (first | exact trivial | refine ⟨rfl, ?_⟩))):Has fr [(k0,[],v0),(k1,[],v1)]:=h
theorem h_3 {fr:Fr}{v0 v1 v2:Value}(k0 k1 k2:Nat)(h:Has fr [(k0,[],v0),(k1,[],v1),(k2,[],v2)]:=by (repeat (first | exact trivial | refine ⟨rfl, ?_⟩))):Has fr [(k0,[],v0),(k1,[],v1),(k2,[],v2)]:=h
theorem h_4 {fr:Fr}{v0 v1 v2 v3:Value}(k0 k1 k2 k3:Nat)(h:Has fr [(k0,[],v0),(k1,[],v1),(k2,[],v2),(k3,[],v3)]:=by (repeat (first | exact trivial | refine ⟨rfl, ?_⟩))):Has fr [(k0,[],v0),(k1,[],v1),(k2,[],v2),(k3,[],v3)]:=h
theorem h_5 {fr:Fr}{v0 v1 v2 v3 v4:Value}(k0 k1 k2 k3 k4:Nat)(h:Has fr [(k0,[],v0),(k1,[],v1),(k2,[],v2),(k3,[],v3),(k4,[],v4)]:=by (repeat (first | exact trivial | refine ⟨rfl, ?_⟩))):Has fr [(k0,[],v0),(k1,[],v1),(k2,[],v2),(k3,[],v3),(k4,[],v4)]:=h
theorem h_6 {fr:Fr}{v0 v1 v2 v3 v4 v5:Value}(k0 k1 k2 k3 k4 k5:Nat)(h:Has fr [(k0,[],v0),(k1,[],v1),(k2,[],v2),(k3,[],v3),(k4,[],v4),(k5,[],v5)]:=by (repeat (first | exact trivial | refine ⟨rfl, ?_⟩))):Has fr [(k0,[],v0),(k1,[],v1),(k2,[],v2),(k3,[],v3),(k4,[],v4),(k5,[],v5)]:=h
theorem h_7 {fr:Fr}{v0 v1 v2 v3 v4 v5 v6:Value}(k0 k1 k2 k3 k4 k5 k6:Nat)(h:Has fr [(k0,[],v0),(k1,[],v1),(k2,[],v2),(k3,[],v3),(k4,[],v4),(k5,[],v5),(k6,[],v6)]:=by (repeat (first | exact trivial | refine ⟨rfl, ?_⟩))):Has fr [(k0,[],v0),(k1,[],v1),(k2,[],v2),(k3,[],v3),(k4,[],v4),(k5,[],v5),(k6,[],v6)]:=h
theorem h_8 {fr:Fr}{v0 v1 v2 v3 v4 v5 v6 v7:Value}(k0 k1 k2 k3 k4 k5 k6 k7:Nat)(h:Has fr [(k0,[],v0),(k1,[],v1),(k2,[],v2),(k3,[],v3),(k4,[],v4),(k5,[],v5),(k6,[],v6),(k7,[],v7)]:=by (repeat (first | exact trivial | refine ⟨rfl, ?_⟩))):Has fr [(k0,[],v0),(k1,[],v1),(k2,[],v2),(k3,[],v3),(k4,[],v4),(k5,[],v5),(k6,[],v6),(k7,[],v7)]:=h
theorem h_9 {fr:Fr}{v0 v1 v2 v3 v4 v5 v6 v7 v8:Value}(k0 k1 k2 k3 k4 k5 k6 k7 k8:Nat)(h:Has fr [(k0,[],v0),(k1,[],v1),(k2,[],v2),(k3,[],v3),(k4,[],v4),(k5,[],v5),(k6,[],v6),(k7,[],v7),(k8,[],v8)]:=by (repeat (first | exact trivial | refine ⟨rfl, ?_⟩))):Has fr [(k0,[],v0),(k1,[],v1),(k2,[],v2),(k3,[],v3),(k4,[],v4),(k5,[],v5),(k6,[],v6),(k7,[],v7),(k8,[],v8)]:=h
theorem h_11 {fr:Fr}{v0 v1 v2 v3 v4 v5 v6 v7 v8 v9 v10:Value}(k0 k1 k2 k3 k4 k5 k6 k7 k8 k9 k10:Nat)(h:Has fr [(k0,[],v0),(k1,[],v1),(k2,[],v2),(k3,[],v3),(k4,[],v4),(k5,[],v5),(k6,[],v6),(k7,[],v7),(k8,[],v8),(k9,[],v9),(k10,[],v10)]:=by (repeat (first | exact trivial | refine ⟨rfl, ?_⟩))):Has fr [(k0,[],v0),(k1,[],v1),(k2,[],v2),(k3,[],v3),(k4,[],v4),(k5,[],v5),(k6,[],v6),(k7,[],v7),(k8,[],v8),(k9,[],v9),(k10,[],v10)]:=h
theorem h_13 {fr:Fr}{v0 v1 v2 v3 v4 v5 v6 v7 v8 v9 v10 v11 v12:Value}(k0 k1 k2 k3 k4 k5 k6 k7 k8 k9 k10 k11 k12:Nat)(h:Has fr [(k0,[],v0),(k1,[],v1),(k2,[],v2),(k3,[],v3),(k4,[],v4),(k5,[],v5),(k6,[],v6),(k7,[],v7),(k8,[],v8),(k9,[],v9),(k10,[],v10),(k11,[],v11),(k12,[],v12)]:=by (repeat (first | exact trivial | refine ⟨rfl, ?_⟩))):Has fr [(k0,[],v0),(k1,[],v1),(k2,[],v2),(k3,[],v3),(k4,[],v4),(k5,[],v5),(k6,[],v6),(k7,[],v7),(k8,[],v8),(k9,[],v9),(k10,[],v10),(k11,[],v11),(k12,[],v12)]:=h
theorem D.q1 {n:Nat}{ds:List (Option Nat)}{R:Rg n ds}{cx:Cx}{fr:Fr}{C:Mem}{L:List Ent}{its:List It}{fr':Fr}{P:Fr->Mem->List Ent->Prop}(m:Nat)(k0:Nat){v0:Value}(hR:∀ fr C L,fr.all (fun x=>x.2.1.isEmpty)=true->P fr C L->D cx R [] fr C L)(h:P [(k0,[],v0)] C L)(he:runP cx n ds m its fr=some ([],fr'):=by rfl)(hs:Has fr' [(k0,[],v0)]:=by (repeat (first | exact trivial | refine ⟨rfl, ?_⟩))):D cx R its fr C L:=D.ps m (D.e1 k0 hR h hs) he
theorem D.q2 {n:Nat}{ds:List (Option Nat)}{R:Rg n ds}{cx:Cx}{fr:Fr}{C:Mem}{L:List Ent}{its:List It}{fr':Fr}{P:Fr->Mem->List Ent->Prop}(m:Nat)(k0 k1:Nat){v0 v1:Value}(hR:∀ fr C L,fr.all (fun x=>x.2.1.isEmpty)=true->P fr C L->D cx R [] fr C L)(h:P [(k0,[],v0),(k1,[],v1)] C L)(he:runP cx n ds m its fr=some ([],fr'):=by rfl)(hs:Has fr' [(k0,[],v0),(k1,[],v1)]:=by (repeat (first | exact trivial | refine ⟨rfl, ?_⟩))):D cx R its fr C L:=D.ps m (D.e2 k0 k1 hR h hs) he
theorem D.q3 {n:Nat}{ds:List (Option Nat)}{R:Rg n ds}{cx:Cx}{fr:Fr}{C:Mem}{L:List Ent}{its:List It}{fr':Fr}{P:Fr->Mem->List Ent->Prop}(m:Nat)(k0 k1 k2:Nat){v0 v1 v2:Value}(hR:∀ fr C L,fr.all (fun x=>x.2.1.isEmpty)=true->P fr C L->D cx R [] fr C L)(h:P [(k0,[],v0),(k1,[],v1),(k2,[],v2)] C L)(he:runP cx n ds m its fr=some ([],fr'):=by rfl)(hs:Has fr' [(k0,[],v0),(k1,[],v1),(k2,[],v2)]:=by (repeat (first | exact trivial | refine ⟨rfl, ?_⟩))):D cx R its fr C L:=D.ps m (D.e3 k0 k1 k2 hR h hs) he
theorem D.q4 {n:Nat}{ds:List (Option Nat)}{R:Rg n ds}{cx:Cx}{fr:Fr}{C:Mem}{L:List Ent}{its:List It}{fr':Fr}{P:Fr->Mem->List Ent->Prop}(m:Nat)(k0 k1 k2 k3:Nat){v0 v1 v2 v3:Value}(hR:∀ fr C L,fr.all (fun x=>x.2.1.isEmpty)=true->P fr C L->D cx R [] fr C L)(h:P [(k0,[],v0),(k1,[],v1),(k2,[],v2),(k3,[],v3)] C L)(he:runP cx n ds m its fr=some ([],fr'):=by rfl)(hs:Has fr' [(k0,[],v0),(k1,[],v1),(k2,[],v2),(k3,[],v3)]:=by (repeat (first | exact trivial | refine ⟨rfl, ?_⟩))):D cx R its fr C L:=D.ps m (D.e4 k0 k1 k2 k3 hR h hs) he
theorem D.q5 {n:Nat}{ds:List (Option Nat)}{R:Rg n ds}{cx:Cx}{fr:Fr}{C:Mem}{L:List Ent}{its:List It}{fr':Fr}{P:Fr->Mem->List Ent->Prop}(m:Nat)(k0 k1 k2 k3 k4:Nat){v0 v1 v2 v3 v4:Value}(hR:∀ fr C L,fr.all (fun x=>x.2.1.isEmpty)=true->P fr C L->D cx R [] fr C L)(h:P [(k0,[],v0),(k1,[],v1),(k2,[],v2),(k3,[],v3),(k4,[],v4)] C L)(he:runP cx n ds m its fr=some ([],fr'):=by rfl)(hs:Has fr' [(k0,[],v0),(k1,[],v1),(k2,[],v2),(k3,[],v3),(k4,[],v4)]:=by (repeat (first | exact trivial | refine ⟨rfl, ?_⟩))):D cx R its fr C L:=D.ps m (D.e5 k0 k1 k2 k3 k4 hR h hs) he
theorem D.q6 {n:Nat}{ds:List (Option Nat)}{R:Rg n ds}{cx:Cx}{fr:Fr}{C:Mem}{L:List Ent}{its:List It}{fr':Fr}{P:Fr->Mem->List Ent->Prop}(m:Nat)(k0 k1 k2 k3 k4 k5:Nat){v0 v1 v2 v3 v4 v5:Value}(hR:∀ fr C L,fr.all (fun x=>x.2.1.isEmpty)=true->P fr C L->D cx R [] fr C L)(h:P [(k0,[],v0),(k1,[],v1),(k2,[],v2),(k3,[],v3),(k4,[],v4),(k5,[],v5)] C L)(he:runP cx n ds m its fr=some ([],fr'):=by rfl)(hs:Has fr' [(k0,[],v0),(k1,[],v1),(k2,[],v2),(k3,[],v3),(k4,[],v4),(k5,[],v5)]:=by (repeat (first | exact trivial | refine ⟨rfl, ?_⟩))):D cx R its fr C L:=D.ps m (D.e6 k0 k1 k2 k3 k4 k5 hR h hs) he
theorem D.q7 {n:Nat}{ds:List (Option Nat)}{R:Rg n ds}{cx:Cx}{fr:Fr}{C:Mem}{L:List Ent}{its:List It}{fr':Fr}{P:Fr->Mem->List Ent->Prop}(m:Nat)(k0 k1 k2 k3 k4 k5 k6:Nat){v0 v1 v2 v3 v4 v5 v6:Value}(hR:∀ fr C L,fr.all (fun x=>x.2.1.isEmpty)=true->P fr C L->D cx R [] fr C L)(h:P [(k0,[],v0),(k1,[],v1),(k2,[],v2),(k3,[],v3),(k4,[],v4),(k5,[],v5),(k6,[],v6)] C L)(he:runP cx n ds m its fr=some ([],fr'):=by rfl)(hs:Has fr' [(k0,[],v0),(k1,[],v1),(k2,[],v2),(k3,[],v3),(k4,[],v4),(k5,[],v5),(k6,[],v6)]:=by (repeat (first | exact trivial | refine ⟨rfl, ?_⟩))):D cx R its fr C L:=D.ps m (D.e7 k0 k1 k2 k3 k4 k5 k6 hR h hs) he
theorem D.q8 {n:Nat}{ds:List (Option Nat)}{R:Rg n ds}{cx:Cx}{fr:Fr}{C:Mem}{L:List Ent}{its:List It}{fr':Fr}{P:Fr->Mem->List Ent->Prop}(m:Nat)(k0 k1 k2 k3 k4 k5 k6 k7:Nat){v0 v1 v2 v3 v4 v5 v6 v7:Value}(hR:∀ fr C L,fr.all (fun x=>x.2.1.isEmpty)=true->P fr C L->D cx R [] fr C L)(h:P [(k0,[],v0),(k1,[],v1),(k2,[],v2),(k3,[],v3),(k4,[],v4),(k5,[],v5),(k6,[],v6),(k7,[],v7)] C L)(he:runP cx n ds m its fr=some ([],fr'):=by rfl)(hs:Has fr' [(k0,[],v0),(k1,[],v1),(k2,[],v2),(k3,[],v3),(k4,[],v4),(k5,[],v5),(k6,[],v6),(k7,[],v7)]:=by (repeat (first | exact trivial | refine ⟨rfl, ?_⟩))):D cx R its fr C L:=D.ps m (D.e8 k0 k1 k2 k3 k4 k5 k6 k7 hR h hs) he
theorem D.q9 {n:Nat}{ds:List (Option Nat)}{R:Rg n ds}{cx:Cx}{fr:Fr}{C:Mem}{L:List Ent}{its:List It}{fr':Fr}{P:Fr->Mem->List Ent->Prop}(m:Nat)(k0 k1 k2 k3 k4 k5 k6 k7 k8:Nat){v0 v1 v2 v3 v4 v5 v6 v7 v8:Value}(hR:∀ fr C L,fr.all (fun x=>x.2.1.isEmpty)=true->P fr C L->D cx R [] fr C L)(h:P [(k0,[],v0),(k1,[],v1),(k2,[],v2),(k3,[],v3),(k4,[],v4),(k5,[],v5),(k6,[],v6),(k7,[],v7),(k8,[],v8)] C L)(he:runP cx n ds m its fr=some ([],fr'):=by rfl)(hs:Has fr' [(k0,[],v0),(k1,[],v1),(k2,[],v2),(k3,[],v3),(k4,[],v4),(k5,[],v5),(k6,[],v6),(k7,[],v7),(k8,[],v8)]:=by (repeat (first | exact trivial | refine ⟨rfl, ?_⟩))):D cx R its fr C L:=D.ps m (D.e9 k0 k1 k2 k3 k4 k5 k6 k7 k8 hR h hs) he
theorem D.q10 {n:Nat}{ds:List (Option Nat)}{R:Rg n ds}{cx:Cx}{fr:Fr}{C:Mem}{L:List Ent}{its:List It}{fr':Fr}{P:Fr->Mem->List Ent->Prop}(m:Nat)(k0 k1 k2 k3 k4 k5 k6 k7 k8 k9:Nat){v0 v1 v2 v3 v4 v5 v6 v7 v8 v9:Value}(hR:∀ fr C L,fr.all (fun x=>x.2.1.isEmpty)=true->P fr C L->D cx R [] fr C L)(h:P [(k0,[],v0),(k1,[],v1),(k2,[],v2),(k3,[],v3),(k4,[],v4),(k5,[],v5),(k6,[],v6),(k7,[],v7),(k8,[],v8),(k9,[],v9)] C L)(he:runP cx n ds m its fr=some ([],fr'):=by rfl)(hs:Has fr' [(k0,[],v0),(k1,[],v1),(k2,[],v2),(k3,[],v3),(k4,[],v4),(k5,[],v5),(k6,[],v6),(k7,[],v7),(k8,[],v8),(k9,[],v9)]:=by (repeat (first | exact trivial | refine ⟨rfl, ?_⟩))):D cx R its fr C L:=D.ps m (D.e10 k0 k1 k2 k3 k4 k5 k6 k7 k8 k9 hR h hs) he
theorem D.q11 {n:Nat}{ds:List (Option Nat)}{R:Rg n ds}{cx:Cx}{fr:Fr}{C:Mem}{L:List Ent}{its:List It}{fr':Fr}{P:Fr->Mem->List Ent->Prop}(m:Nat)(k0 k1 k2 k3 k4 k5 k6 k7 k8 k9 k10:Nat){v0 v1 v2 v3 v4 v5 v6 v7 v8 v9 v10:Value}(hR:∀ fr C L,fr.all (fun x=>x.2.1.isEmpty)=true->P fr C L->D cx R [] fr C L)(h:P [(k0,[],v0),(k1,[],v1),(k2,[],v2),(k3,[],v3),(k4,[],v4),(k5,[],v5),(k6,[],v6),(k7,[],v7),(k8,[],v8),(k9,[],v9),(k10,[],v10)] C L)(he:runP cx n ds m its fr=some ([],fr'):=by rfl)(hs:Has fr' [(k0,[],v0),(k1,[],v1),(k2,[],v2),(k3,[],v3),(k4,[],v4),(k5,[],v5),(k6,[],v6),(k7,[],v7),(k8,[],v8),(k9,[],v9),(k10,[],v10)]:=by (repeat (first | exact trivial | refine ⟨rfl, ?_⟩))):D cx R its fr C L:=D.ps m (D.e11 k0 k1 k2 k3 k4 k5 k6 k7 k8 k9 k10 hR h hs) he
theorem D.q12 {n:Nat}{ds:List (Option Nat)}{R:Rg n ds}{cx:Cx}{fr:Fr}{C:Mem}{L:List Ent}{its:List It}{fr':Fr}{P:Fr->Mem->List Ent->Prop}(m:Nat)(k0 k1 k2 k3 k4 k5 k6 k7 k8 k9 k10 k11:Nat){v0 v1 v2 v3 v4 v5 v6 v7 v8 v9 v10 v11:Value}(hR:∀ fr C L,fr.all (fun x=>x.2.1.isEmpty)=true->P fr C L->D cx R [] fr C L)(h:P [(k0,[],v0),(k1,[],v1),(k2,[],v2),(k3,[],v3),(k4,[],v4),(k5,[],v5),(k6,[],v6),(k7,[],v7),(k8,[],v8),(k9,[],v9),(k10,[],v10),(k11,[],v11)] C L)(he:runP cx n ds m its fr=some ([],fr'):=by rfl)(hs:Has fr' [(k0,[],v0),(k1,[],v1),(k2,[],v2),(k3,[],v3),(k4,[],v4),(k5,[],v5),(k6,[],v6),(k7,[],v7),(k8,[],v8),(k9,[],v9),(k10,[],v10),(k11,[],v11)]:=by (repeat (first | exact trivial | refine ⟨rfl, ?_⟩))):D cx R its fr C L:=D.ps m (D.e12 k0 k1 k2 k3 k4 k5 k6 k7 k8 k9 k10 k11 hR h hs) he
theorem D.q13 {n:Nat}{ds:List (Option Nat)}{R:Rg n ds}{cx:Cx}{fr:Fr}{C:Mem}{L:List Ent}{its:List It}{fr':Fr}{P:Fr->Mem->List Ent->Prop}(m:Nat)(k0 k1 k2 k3 k4 k5 k6 k7 k8 k9 k10 k11 k12:Nat){v0 v1 v2 v3 v4 v5 v6 v7 v8 v9 v10 v11 v12:Value}(hR:∀ fr C L,fr.all (fun x=>x.2.1.isEmpty)=true->P fr C L->D cx R [] fr C L)(h:P [(k0,[],v0),(k1,[],v1),(k2,[],v2),(k3,[],v3),(k4,[],v4),(k5,[],v5),(k6,[],v6),(k7,[],v7),(k8,[],v8),(k9,[],v9),(k10,[],v10),(k11,[],v11),(k12,[],v12)] C L)(he:runP cx n ds m its fr=some ([],fr'):=by rfl)(hs:Has fr' [(k0,[],v0),(k1,[],v1),(k2,[],v2),(k3,[],v3),(k4,[],v4),(k5,[],v5),(k6,[],v6),(k7,[],v7),(k8,[],v8),(k9,[],v9),(k10,[],v10),(k11,[],v11),(k12,[],v12)]:=by (repeat (first | exact trivial | refine ⟨rfl, ?_⟩))):D cx R its fr C L:=D.ps m (D.e13 k0 k1 k2 k3 k4 k5 k6 k7 k8 k9 k10 k11 k12 hR h hs) he
theorem D.q14 {n:Nat}{ds:List (Option Nat)}{R:Rg n ds}{cx:Cx}{fr:Fr}{C:Mem}{L:List Ent}{its:List It}{fr':Fr}{P:Fr->Mem->List Ent->Prop}(m:Nat)(k0 k1 k2 k3 k4 k5 k6 k7 k8 k9 k10 k11 k12 k13:Nat){v0 v1 v2 v3 v4 v5 v6 v7 v8 v9 v10 v11 v12 v13:Value}(hR:∀ fr C L,fr.all (fun x=>x.2.1.isEmpty)=true->P fr C L->D cx R [] fr C L)(h:P [(k0,[],v0),(k1,[],v1),(k2,[],v2),(k3,[],v3),(k4,[],v4),(k5,[],v5),(k6,[],v6),(k7,[],v7),(k8,[],v8),(k9,[],v9),(k10,[],v10),(k11,[],v11),(k12,[],v12),(k13,[],v13)] C L)(he:runP cx n ds m its fr=some ([],fr'):=by rfl)(hs:Has fr' [(k0,[],v0),(k1,[],v1),(k2,[],v2),(k3,[],v3),(k4,[],v4),(k5,[],v5),(k6,[],v6),(k7,[],v7),(k8,[],v8),(k9,[],v9),(k10,[],v10),(k11,[],v11),(k12,[],v12),(k13,[],v13)]:=by (repeat (first | exact trivial | refine ⟨rfl, ?_⟩))):D cx R its fr C L:=D.ps m (D.e14 k0 k1 k2 k3 k4 k5 k6 k7 k8 k9 k10 k11 k12 k13 hR h hs) he
theorem D.q15 {n:Nat}{ds:List (Option Nat)}{R:Rg n ds}{cx:Cx}{fr:Fr}{C:Mem}{L:List Ent}{its:List It}{fr':Fr}{P:Fr->Mem->List Ent->Prop}(m:Nat)(k0 k1 k2 k3 k4 k5 k6 k7 k8 k9 k10 k11 k12 k13 k14:Nat){v0 v1 v2 v3 v4 v5 v6 v7 v8 v9 v10 v11 v12 v13 v14:Value}(hR:∀ fr C L,fr.all (fun x=>x.2.1.isEmpty)=true->P fr C L->D cx R [] fr C L)(h:P [(k0,[],v0),(k1,[],v1),(k2,[],v2),(k3,[],v3),(k4,[],v4),(k5,[],v5),(k6,[],v6),(k7,[],v7),(k8,[],v8),(k9,[],v9),(k10,[],v10),(k11,[],v11),(k12,[],v12),(k13,[],v13),(k14,[],v14)] C L)(he:runP cx n ds m its fr=some ([],fr'):=by rfl)(hs:Has fr' [(k0,[],v0),(k1,[],v1),(k2,[],v2),(k3,[],v3),(k4,[],v4),(k5,[],v5),(k6,[],v6),(k7,[],v7),(k8,[],v8),(k9,[],v9),(k10,[],v10),(k11,[],v11),(k12,[],v12),(k13,[],v13),(k14,[],v14)]:=by (repeat (first | exact trivial | refine ⟨rfl, ?_⟩))):D cx R its fr C L:=D.ps m (D.e15 k0 k1 k2 k3 k4 k5 k6 k7 k8 k9 k10 k11 k12 k13 k14 hR h hs) he
theorem D.q17 {n:Nat}{ds:List (Option Nat)}{R:Rg n ds}{cx:Cx}{fr:Fr}{C:Mem}{L:List Ent}{its:List It}{fr':Fr}{P:Fr->Mem->List Ent->Prop}(m:Nat)(k0 k1 k2 k3 k4 k5 k6 k7 k8 k9 k10 k11 k12 k13 k14 k15 k16:Nat){v0 v1 v2 v3 v4 v5 v6 v7 v8 v9 v10 v11 v12 v13 v14 v15 v16:Value}(hR:∀ fr C L,fr.all (fun x=>x.2.1.isEmpty)=true->P fr C L->D cx R [] fr C L)(h:P [(k0,[],v0),(k1,[],v1),(k2,[],v2),(k3,[],v3),(k4,[],v4),(k5,[],v5),(k6,[],v6),(k7,[],v7),(k8,[],v8),(k9,[],v9),(k10,[],v10),(k11,[],v11),(k12,[],v12),(k13,[],v13),(k14,[],v14),(k15,[],v15),(k16,[],v16)] C L)(he:runP cx n ds m its fr=some ([],fr'):=by rfl)(hs:Has fr' [(k0,[],v0),(k1,[],v1),(k2,[],v2),(k3,[],v3),(k4,[],v4),(k5,[],v5),(k6,[],v6),(k7,[],v7),(k8,[],v8),(k9,[],v9),(k10,[],v10),(k11,[],v11),(k12,[],v12),(k13,[],v13),(k14,[],v14),(k15,[],v15),(k16,[],v16)]:=by (repeat (first | exact trivial | refine ⟨rfl, ?_⟩))):D cx R its fr C L:=D.ps m (D.e17 k0 k1 k2 k3 k4 k5 k6 k7 k8 k9 k10 k11 k12 k13 k14 k15 k16 hR h hs) he
theorem D.q19 {n:Nat}{ds:List (Option Nat)}{R:Rg n ds}{cx:Cx}{fr:Fr}{C:Mem}{L:List Ent}{its:List It}{fr':Fr}{P:Fr->Mem->List Ent->Prop}(m:Nat)(k0 k1 k2 k3 k4 k5 k6 k7 k8 k9 k10 k11 k12 k13 k14 k15 k16 k17 k18:Nat){v0 v1 v2 v3 v4 v5 v6 v7 v8 v9 v10 v11 v12 v13 v14 v15 v16 v17 v18:Value}(hR:∀ fr C L,fr.all (fun x=>x.2.1.isEmpty)=true->P fr C L->D cx R [] fr C L)(h:P [(k0,[],v0),(k1,[],v1),(k2,[],v2),(k3,[],v3),(k4,[],v4),(k5,[],v5),(k6,[],v6),(k7,[],v7),(k8,[],v8),(k9,[],v9),(k10,[],v10),(k11,[],v11),(k12,[],v12),(k13,[],v13),(k14,[],v14),(k15,[],v15),(k16,[],v16),(k17,[],v17),(k18,[],v18)] C L)(he:runP cx n ds m its fr=some ([],fr'):=by rfl)(hs:Has fr' [(k0,[],v0),(k1,[],v1),(k2,[],v2),(k3,[],v3),(k4,[],v4),(k5,[],v5),(k6,[],v6),(k7,[],v7),(k8,[],v8),(k9,[],v9),(k10,[],v10),(k11,[],v11),(k12,[],v12),(k13,[],v13),(k14,[],v14),(k15,[],v15),(k16,[],v16),(k17,[],v17),(k18,[],v18)]:=by (repeat (first | exact trivial | refine ⟨rfl, ?_⟩))):D cx R its fr C L:=D.ps m (D.e19 k0 k1 k2 k3 k4 k5 k6 k7 k8 k9 k10 k11 k12 k13 k14 k15 k16 k17 k18 hR h hs) he
theorem D.q21 {n:Nat}{ds:List (Option Nat)}{R:Rg n ds}{cx:Cx}{fr:Fr}{C:Mem}{L:List Ent}{its:List It}{fr':Fr}{P:Fr->Mem->List Ent->Prop}(m:Nat)(k0 k1 k2 k3 k4 k5 k6 k7 k8 k9 k10 k11 k12 k13 k14 k15 k16 k17 k18 k19 k20:Nat){v0 v1 v2 v3 v4 v5 v6 v7 v8 v9 v10 v11 v12 v13 v14 v15 v16 v17 v18 v19 v20:Value}(hR:∀ fr C L,fr.all (fun x=>x.2.1.isEmpty)=true->P fr C L->D cx R [] fr C L)(h:P [(k0,[],v0),(k1,[],v1),(k2,[],v2),(k3,[],v3),(k4,[],v4),(k5,[],v5),(k6,[],v6),(k7,[],v7),(k8,[],v8),(k9,[],v9),(k10,[],v10),(k11,[],v11),(k12,[],v12),(k13,[],v13),(k14,[],v14),(k15,[],v15),(k16,[],v16),(k17,[],v17),(k18,[],v18),(k19,[],v19),(k20,[],v20)] C L)(he:runP cx n ds m its fr=some ([],fr'):=by rfl)(hs:Has fr' [(k0,[],v0),(k1,[],v1),(k2,[],v2),(k3,[],v3),(k4,[],v4),(k5,[],v5),(k6,[],v6),(k7,[],v7),(k8,[],v8),(k9,[],v9),(k10,[],v10),(k11,[],v11),(k12,[],v12),(k13,[],v13),(k14,[],v14),(k15,[],v15),(k16,[],v16),(k17,[],v17),(k18,[],v18),(k19,[],v19),(k20,[],v20)]:=by (repeat (first | exact trivial | refine ⟨rfl, ?_⟩))):D cx R its fr C L:=D.ps m (D.e21 k0 k1 k2 k3 k4 k5 k6 k7 k8 k9 k10 k11 k12 k13 k14 k15 k16 k17 k18 k19 k20 hR h hs) he
theorem D.q22 {n:Nat}{ds:List (Option Nat)}{R:Rg n ds}{cx:Cx}{fr:Fr}{C:Mem}{L:List Ent}{its:List It}{fr':Fr}{P:Fr->Mem->List Ent->Prop}(m:Nat)(k0 k1 k2 k3 k4 k5 k6 k7 k8 k9 k10 k11 k12 k13 k14 k15 k16 k17 k18 k19 k20 k21:Nat){v0 v1 v2 v3 v4 v5 v6 v7 v8 v9 v10 v11 v12 v13 v14 v15 v16 v17 v18 v19 v20 v21:Value}(hR:∀ fr C L,fr.all (fun x=>x.2.1.isEmpty)=true->P fr C L->D cx R [] fr C L)(h:P [(k0,[],v0),(k1,[],v1),(k2,[],v2),(k3,[],v3),(k4,[],v4),(k5,[],v5),(k6,[],v6),(k7,[],v7),(k8,[],v8),(k9,[],v9),(k10,[],v10),(k11,[],v11),(k12,[],v12),(k13,[],v13),(k14,[],v14),(k15,[],v15),(k16,[],v16),(k17,[],v17),(k18,[],v18),(k19,[],v19),(k20,[],v20),(k21,[],v21)] C L)(he:runP cx n ds m its fr=some ([],fr'):=by rfl)(hs:Has fr' [(k0,[],v0),(k1,[],v1),(k2,[],v2),(k3,[],v3),(k4,[],v4),(k5,[],v5),(k6,[],v6),(k7,[],v7),(k8,[],v8),(k9,[],v9),(k10,[],v10),(k11,[],v11),(k12,[],v12),(k13,[],v13),(k14,[],v14),(k15,[],v15),(k16,[],v16),(k17,[],v17),(k18,[],v18),(k19,[],v19),(k20,[],v20),(k21,[],v21)]:=by (repeat (first | exact trivial | refine ⟨rfl, ?_⟩))):D cx R its fr C L:=D.ps m (D.e22 k0 k1 k2 k3 k4 k5 k6 k7 k8 k9 k10 k11 k12 k13 k14 k15 k16 k17 k18 k19 k20 k21 hR h hs) he
theorem G.rp {F:Fx}{k:List KI}{fr fr':Fr}{C:Mem}{L:List Ent}{id:Nat}{l:List Oper}{its:List It}(m:Nat)(h:∀ R:Rg F.n (l.map (·.dst)),(∀ fr C L,fr.all (fun x=>x.2.1.isEmpty)=true->G F (norm 64 k) .normal fr C L->D F.cx R [] fr C L)->D F.cx R its fr' C L)(hnd:F.W.nd l.toArray:=by first | exact trivial | exact rfl)(hp:fr.all (fun x=>x.2.1.isEmpty)=true:=by rfl)(he:runP F.cx F.n (l.map (·.dst)) m (cQ l [] (bh (lenO l) 0)) fr=some (its,fr'):=by rfl):G F (.code (.region id l.toArray false)::k) .normal fr C L:=G.rg (fun R hR=>D.ps m (h R hR) he) hnd hp
theorem G.z1 {F:Fx}{k:List KI}{fr fr':Fr}{C:Mem}{L:List Ent}{id:Nat}{l:List Oper}(m:Nat)(k0:Nat){v0:Value}(h:G F (norm 64 k) .normal [(k0,[],v0)] C L)(hnd:F.W.nd l.toArray:=by first | exact trivial | exact rfl)(hp:fr.all (fun x=>x.2.1.isEmpty)=true:=by rfl)(he:runP F.cx F.n (l.map (·.dst)) m (cQ l [] (bh (lenO l) 0)) fr=some ([],fr'):=by rfl)(hs:Has fr' [(k0,[],v0)]:=by (repeat (first | exact trivial | refine ⟨rfl, ?_⟩))):G F (.code (.region id l.toArray false)::k) .normal fr C L:=G.rg (fun _ hR=>D.ps m (D.e1 k0 hR h hs) he) hnd hp
theorem G.z2 {F:Fx}{k:List KI}{fr fr':Fr}{C:Mem}{L:List Ent}{id:Nat}{l:List Oper}(m:Nat)(k0 k1:Nat){v0 v1:Value}(h:G F (norm 64 k) .normal [(k0,[],v0),(k1,[],v1)] C L)(hnd:F.W.nd l.toArray:=by first | exact trivial | exact rfl)(hp:fr.all (fun x=>x.2.1.isEmpty)=true:=by rfl)(he:runP F.cx F.n (l.map (·.dst)) m (cQ l [] (bh (lenO l) 0)) fr=some ([],fr'):=by rfl)(hs:Has fr' [(k0,[],v0),(k1,[],v1)]:=by (repeat (first | exact trivial | refine ⟨rfl, ?_⟩))):G F (.code (.region id l.toArray false)::k) .normal fr C L:=G.rg (fun _ hR=>D.ps m (D.e2 k0 k1 hR h hs) he) hnd hp
theorem G.z3 {F:Fx}{k:List KI}{fr fr':Fr}{C:Mem}{L:List Ent}{id:Nat}{l:List Oper}(m:Nat)(k0 k1 k2:Nat){v0 v1 v2:Value}(h:G F (norm 64 k) .normal [(k0,[],v0),(k1,[],v1),(k2,[],v2)] C L)(hnd:F.W.nd l.toArray:=by first | exact trivial | exact rfl)(hp:fr.all (fun x=>x.2.1.isEmpty)=true:=by rfl)(he:runP F.cx F.n (l.map (·.dst)) m (cQ l [] (bh (lenO l) 0)) fr=some ([],fr'):=by rfl)(hs:Has fr' [(k0,[],v0),(k1,[],v1),(k2,[],v2)]:=by (repeat (first | exact trivial | refine ⟨rfl, ?_⟩))):G F (.code (.region id l.toArray false)::k) .normal fr C L:=G.rg (fun _ hR=>D.ps m (D.e3 k0 k1 k2 hR h hs) he) hnd hp
theorem G.z4 {F:Fx}{k:List KI}{fr fr':Fr}{C:Mem}{L:List Ent}{id:Nat}{l:List Oper}(m:Nat)(k0 k1 k2 k3:Nat){v0 v1 v2 v3:Value}(h:G F (norm 64 k) .normal [(k0,[],v0),(k1,[],v1),(k2,[],v2),(k3,[],v3)] C L)(hnd:F.W.nd l.toArray:=by first | exact trivial | exact rfl)(hp:fr.all (fun x=>x.2.1.isEmpty)=true:=by rfl)(he:runP F.cx F.n (l.map (·.dst)) m (cQ l [] (bh (lenO l) 0)) fr=some ([],fr'):=by rfl)(hs:Has fr' [(k0,[],v0),(k1,[],v1),(k2,[],v2),(k3,[],v3)]:=by (repeat (first | exact trivial | refine ⟨rfl, ?_⟩))):G F (.code (.region id l.toArray false)::k) .normal fr C L:=G.rg (fun _ hR=>D.ps m (D.e4 k0 k1 k2 k3 hR h hs) he) hnd hp
theorem G.z5 {F:Fx}{k:List KI}{fr fr':Fr}{C:Mem}{L:List Ent}{id:Nat}{l:List Oper}(m:Nat)(k0 k1 k2 k3 k4:Nat){v0 v1 v2 v3 v4:Value}(h:G F (norm 64 k) .normal [(k0,[],v0),(k1,[],v1),(k2,[],v2),(k3,[],v3),(k4,[],v4)] C L)(hnd:F.W.nd l.toArray:=by first | exact trivial | exact rfl)(hp:fr.all (fun x=>x.2.1.isEmpty)=true:=by rfl)(he:runP F.cx F.n (l.map (·.dst)) m (cQ l [] (bh (lenO l) 0)) fr=some ([],fr'):=by rfl)(hs:Has fr' [(k0,[],v0),(k1,[],v1),(k2,[],v2),(k3,[],v3),(k4,[],v4)]:=by (repeat (first | exact trivial | refine ⟨rfl, ?_⟩))):G F (.code (.region id l.toArray false)::k) .normal fr C L:=G.rg (fun _ hR=>D.ps m (D.e5 k0 k1 k2 k3 k4 hR h hs) he) hnd hp
theorem G.z6 {F:Fx}{k:List KI}{fr fr':Fr}{C:Mem}{L:List Ent}{id:Nat}{l:List Oper}(m:Nat)(k0 k1 k2 k3 k4 k5:Nat){v0 v1 v2 v3 v4 v5:Value}(h:G F (norm 64 k) .normal [(k0,[],v0),(k1,[],v1),(k2,[],v2),(k3,[],v3),(k4,[],v4),(k5,[],v5)] C L)(hnd:F.W.nd l.toArray:=by first | exact trivial | exact rfl)(hp:fr.all (fun x=>x.2.1.isEmpty)=true:=by rfl)(he:runP F.cx F.n (l.map (·.dst)) m (cQ l [] (bh (lenO l) 0)) fr=some ([],fr'):=by rfl)(hs:Has fr' [(k0,[],v0),(k1,[],v1),(k2,[],v2),(k3,[],v3),(k4,[],v4),(k5,[],v5)]:=by (repeat (first | exact trivial | refine ⟨rfl, ?_⟩))):G F (.code (.region id l.toArray false)::k) .normal fr C L:=G.rg (fun _ hR=>D.ps m (D.e6 k0 k1 k2 k3 k4 k5 hR h hs) he) hnd hp
theorem G.z7 {F:Fx}{k:List KI}{fr fr':Fr}{C:Mem}{L:List Ent}{id:Nat}{l:List Oper}(m:Nat)(k0 k1 k2 k3 k4 k5 k6:Nat){v0 v1 v2 v3 v4 v5 v6:Value}(h:G F (norm 64 k) .normal [(k0,[],v0),(k1,[],v1),(k2,[],v2),(k3,[],v3),(k4,[],v4),(k5,[],v5),(k6,[],v6)] C L)(hnd:F.W.nd l.toArray:=by first | exact trivial | exact rfl)(hp:fr.all (fun x=>x.2.1.isEmpty)=true:=by rfl)(he:runP F.cx F.n (l.map (·.dst)) m (cQ l [] (bh (lenO l) 0)) fr=some ([],fr'):=by rfl)(hs:Has fr' [(k0,[],v0),(k1,[],v1),(k2,[],v2),(k3,[],v3),(k4,[],v4),(k5,[],v5),(k6,[],v6)]:=by (repeat (first | exact trivial | refine ⟨rfl, ?_⟩))):G F (.code (.region id l.toArray false)::k) .normal fr C L:=G.rg (fun _ hR=>D.ps m (D.e7 k0 k1 k2 k3 k4 k5 k6 hR h hs) he) hnd hp
theorem G.z8 {F:Fx}{k:List KI}{fr fr':Fr}{C:Mem}{L:List Ent}{id:Nat}{l:List Oper}(m:Nat)(k0 k1 k2 k3 k4 k5 k6 k7:Nat){v0 v1 v2 v3 v4 v5 v6 v7:Value}(h:G F (norm 64 k) .normal [(k0,[],v0),(k1,[],v1),(k2,[],v2),(k3,[],v3),(k4,[],v4),(k5,[],v5),(k6,[],v6),(k7,[],v7)] C L)(hnd:F.W.nd l.toArray:=by first | exact trivial | exact rfl)(hp:fr.all (fun x=>x.2.1.isEmpty)=true:=by rfl)(he:runP F.cx F.n (l.map (·.dst)) m (cQ l [] (bh (lenO l) 0)) fr=some ([],fr'):=by rfl)(hs:Has fr' [(k0,[],v0),(k1,[],v1),(k2,[],v2),(k3,[],v3),(k4,[],v4),(k5,[],v5),(k6,[],v6),(k7,[],v7)]:=by (repeat (first | exact trivial | refine ⟨rfl, ?_⟩))):G F (.code (.region id l.toArray false)::k) .normal fr C L:=G.rg (fun _ hR=>D.ps m (D.e8 k0 k1 k2 k3 k4 k5 k6 k7 hR h hs) he) hnd hp
theorem G.z9 {F:Fx}{k:List KI}{fr fr':Fr}{C:Mem}{L:List Ent}{id:Nat}{l:List Oper}(m:Nat)(k0 k1 k2 k3 k4 k5 k6 k7 k8:Nat){v0 v1 v2 v3 v4 v5 v6 v7 v8:Value}(h:G F (norm 64 k) .normal [(k0,[],v0),(k1,[],v1),(k2,[],v2),(k3,[],v3),(k4,[],v4),(k5,[],v5),(k6,[],v6),(k7,[],v7),(k8,[],v8)] C L)(hnd:F.W.nd l.toArray:=by first | exact trivial | exact rfl)(hp:fr.all (fun x=>x.2.1.isEmpty)=true:=by rfl)(he:runP F.cx F.n (l.map (·.dst)) m (cQ l [] (bh (lenO l) 0)) fr=some ([],fr'):=by rfl)(hs:Has fr' [(k0,[],v0),(k1,[],v1),(k2,[],v2),(k3,[],v3),(k4,[],v4),(k5,[],v5),(k6,[],v6),(k7,[],v7),(k8,[],v8)]:=by (repeat (first | exact trivial | refine ⟨rfl, ?_⟩))):G F (.code (.region id l.toArray false)::k) .normal fr C L:=G.rg (fun _ hR=>D.ps m (D.e9 k0 k1 k2 k3 k4 k5 k6 k7 k8 hR h hs) he) hnd hp
theorem G.z10 {F:Fx}{k:List KI}{fr fr':Fr}{C:Mem}{L:List Ent}{id:Nat}{l:List Oper}(m:Nat)(k0 k1 k2 k3 k4 k5 k6 k7 k8 k9:Nat){v0 v1 v2 v3 v4 v5 v6 v7 v8 v9:Value}(h:G F (norm 64 k) .normal [(k0,[],v0),(k1,[],v1),(k2,[],v2),(k3,[],v3),(k4,[],v4),(k5,[],v5),(k6,[],v6),(k7,[],v7),(k8,[],v8),(k9,[],v9)] C L)(hnd:F.W.nd l.toArray:=by first | exact trivial | exact rfl)(hp:fr.all (fun x=>x.2.1.isEmpty)=true:=by rfl)(he:runP F.cx F.n (l.map (·.dst)) m (cQ l [] (bh (lenO l) 0)) fr=some ([],fr'):=by rfl)(hs:Has fr' [(k0,[],v0),(k1,[],v1),(k2,[],v2),(k3,[],v3),(k4,[],v4),(k5,[],v5),(k6,[],v6),(k7,[],v7),(k8,[],v8),(k9,[],v9)]:=by (repeat (first | exact trivial | refine ⟨rfl, ?_⟩))):G F (.code (.region id l.toArray false)::k) .normal fr C L:=G.rg (fun _ hR=>D.ps m (D.e10 k0 k1 k2 k3 k4 k5 k6 k7 k8 k9 hR h hs) he) hnd hp
theorem G.z11 {F:Fx}{k:List KI}{fr fr':Fr}{C:Mem}{L:List Ent}{id:Nat}{l:List Oper}(m:Nat)(k0 k1 k2 k3 k4 k5 k6 k7 k8 k9 k10:Nat){v0 v1 v2 v3 v4 v5 v6 v7 v8 v9 v10:Value}(h:G F (norm 64 k) .normal [(k0,[],v0),(k1,[],v1),(k2,[],v2),(k3,[],v3),(k4,[],v4),(k5,[],v5),(k6,[],v6),(k7,[],v7),(k8,[],v8),(k9,[],v9),(k10,[],v10)] C L)(hnd:F.W.nd l.toArray:=by first | exact trivial | exact rfl)(hp:fr.all (fun x=>x.2.1.isEmpty)=true:=by rfl)(he:runP F.cx F.n (l.map (·.dst)) m (cQ l [] (bh (lenO l) 0)) fr=some ([],fr'):=by rfl)(hs:Has fr' [(k0,[],v0),(k1,[],v1),(k2,[],v2),(k3,[],v3),(k4,[],v4),(k5,[],v5),(k6,[],v6),(k7,[],v7),(k8,[],v8),(k9,[],v9),(k10,[],v10)]:=by (repeat (first | exact trivial | refine ⟨rfl, ?_⟩))):G F (.code (.region id l.toArray false)::k) .normal fr C L:=G.rg (fun _ hR=>D.ps m (D.e11 k0 k1 k2 k3 k4 k5 k6 k7 k8 k9 k10 hR h hs) he) hnd hp
theorem G.z12 {F:Fx}{k:List KI}{fr fr':Fr}{C:Mem}{L:List Ent}{id:Nat}{l:List Oper}(m:Nat)(k0 k1 k2 k3 k4 k5 k6 k7 k8 k9 k10 k11:Nat){v0 v1 v2 v3 v4 v5 v6 v7 v8 v9 v10 v11:Value}(h:G F (norm 64 k) .normal [(k0,[],v0),(k1,[],v1),(k2,[],v2),(k3,[],v3),(k4,[],v4),(k5,[],v5),(k6,[],v6),(k7,[],v7),(k8,[],v8),(k9,[],v9),(k10,[],v10),(k11,[],v11)] C L)(hnd:F.W.nd l.toArray:=by first | exact trivial | exact rfl)(hp:fr.all (fun x=>x.2.1.isEmpty)=true:=by rfl)(he:runP F.cx F.n (l.map (·.dst)) m (cQ l [] (bh (lenO l) 0)) fr=some ([],fr'):=by rfl)(hs:Has fr' [(k0,[],v0),(k1,[],v1),(k2,[],v2),(k3,[],v3),(k4,[],v4),(k5,[],v5),(k6,[],v6),(k7,[],v7),(k8,[],v8),(k9,[],v9),(k10,[],v10),(k11,[],v11)]:=by (repeat (first | exact trivial | refine ⟨rfl, ?_⟩))):G F (.code (.region id l.toArray false)::k) .normal fr C L:=G.rg (fun _ hR=>D.ps m (D.e12 k0 k1 k2 k3 k4 k5 k6 k7 k8 k9 k10 k11 hR h hs) he) hnd hp
abbrev E_ (k:Nat)(v:Value):Nat × GL × Value:=(k,[],v)
/-! ### The function -/
theorem G.fin1 {r:Nat}{v:Value}(hres:F.fn.results=#[.tmp r])(hv:ev fr [] (.tmp r)=some v)(h:F.post v C L)(he:F.ends:=by exact ⟨fun _ _ _ h=>h,rfl⟩):G F [] .ret fr C L:=fun _ a w ha hw=>by
  have hv':=bl ha (fun p hp=>by cases hp) hv
  simp only [Act.eval] at hv'
  exact he.kq <| bodyPost_ret (v:=v) (by rw [results_tmp hres,hv']) (ha.defers.trans he.2) ⟨v,C,L,rfl,hw,h⟩
theorem G.rf {k:List KI}{r:Nat}{v:Value}(h:F.post v C [])(hres:F.fn.results=#[.tmp r]:=by rfl)(hv:ev fr [] (.tmp r)=some v:=by rfl)(he:F.ends:=by exact ⟨fun _ _ _ h=>h,rfl⟩):G F (.code .ret::k) .normal fr C L:=G.az (G.dropAll (G.fin1 hres hv h he))
theorem G.aK {r s:Nat}{u v:Value}(hres:F.fn.results=#[.tmp r,.tmp s])(hu:ev fr [] (.tmp r)=some u)(hv:ev fr [] (.tmp s)=some v)(h:F.post (.tuple #[u,v]) C L)(he:F.ends:=by exact ⟨fun _ _ _ h=>h,rfl⟩):G F [] .ret fr C L:=fun _ a w ha hw=>by
  have hu':=bl ha (fun p hp=>by cases hp) hu
  have hv':=bl ha (fun p hp=>by cases hp) hv
  simp only [Act.eval] at hu' hv'
  exact he.kq <| bodyPost_ret (v:=.tuple #[u,v]) (by rw [results_tmp2 hres,hu',hv']) (ha.defers.trans he.2) ⟨_,C,L,rfl,hw,h⟩
theorem G.eM {r s t:Nat}{u v x:Value}(hres:F.fn.results=#[.tmp r,.tmp s,.tmp t])(hu:ev fr [] (.tmp r)=some u)(hv:ev fr [] (.tmp s)=some v)(hx:ev fr [] (.tmp t)=some x)(h:F.post (.tuple #[u,v,x]) C L)(he:F.ends:=by exact ⟨fun _ _ _ h=>h,rfl⟩):G F [] .ret fr C L:=fun _ a w ha hw=>by
  have hu':=bl ha (fun p hp=>by cases hp) hu
  have hv':=bl ha (fun p hp=>by cases hp) hv
  have hx':=bl ha (fun p hp=>by cases hp) hx
  simp only [Act.eval] at hu' hv' hx'
  simp only [Array.getD_eq_getD_getElem?] at hu' hv' hx'
  exact he.kq <| bodyPost_ret (v:=.tuple #[u,v,x]) (by simp [results,hres,hu',hv',hx']) (ha.defers.trans he.2) ⟨_,C,L,rfl,hw,h⟩
theorem G.end0 (hres:F.fn.results=#[])(h:F.post (.tuple #[]) C L)(he:F.ends:=by exact ⟨fun _ _ _ h=>h,rfl⟩):G F [] .normal fr C L:=fun _ _a _w ha hw =>
  he.kq <| bodyPost_end (results_none hres _ _ _) (ha.defers.trans he.2) ⟨_,C,L,rfl,hw,h⟩

def args0:List Value->Nat->Fr
  | [],_=>[]
  | v::vs,i=>(i,[],v)::args0 vs (i+1)

theorem args0_get:∀ {vs:List Value}{i s:Nat}{g:GL}{v:Value},(args0 vs i).get s=some (g,v)->g=[]/\i<=s/\vs[s-i]?=some v
  | [],i,s,g,v,h=>by simp [args0,Fr.get] at h
  | u::vs,i,s,g,v,h=>by
    simp only [args0,Fr.get] at h
    cases hb:Nat.beq i s with
    | true =>
      rw [hb] at h
      simp only [cond_true,Option.some.injEq,Prod.mk.injEq] at h
      obtain ⟨rfl,rfl⟩:=h
      obtain rfl:=Nat.eq_of_beq_eq_true hb
      exact ⟨rfl,Nat.le_refl _,by simp⟩
    | false =>
      rw [hb] at h
      obtain ⟨h1,h2,h3⟩:=args0_get h
      exact ⟨h1,by omega,by rw [show s-i=(s-(i+1))+1 by omega];simpa using h3⟩

theorem Fn.intro {cx:Cx}{f:FuncId}{fn:Func}{c:Code}{args:List Value}{C:Mem}{L:List Ent}{post:Value->Mem->List Ent->Prop}(hen:Enters cx.P f=true)(hf:cx.P.funcs[f]?=some fn)(hb:fn.body=some c)
    (n:Nat) (hnt:fn.ntmps=n) (hn:Nat.ble args.length n=true)
    (h:∀ w0,G ⟨cx,fn,n,⟨w0,C,L⟩,post,Cw.plain cx.P,[],bodyPost cx.P fn (finOf ⟨w0,C,L⟩ post)⟩ (norm 64 [.code c]) .normal (args0 args 0) C L):Fn cx.P f args C L post:=by
  subst hnt
  refine ⟨hen,fun w hw=>?_⟩
  refine calls_of_wp hf hb ?_
  rw [Nat.ble_eq] at hn
  have:=G.bG 64 (h w) (Mem.le.refl _) { tmps:=args.toArray++Array.replicate (fn.ntmps-args.toArray.size) undef,defers:=[] } w
    ⟨by simp;omega,rfl,fun s g v hg=>by
      obtain ⟨rfl,_,hv⟩:=args0_get hg
      refine ⟨fun _=>?_,fun hn=>absurd (fun p hp=>by cases hp) hn⟩
      simp only [Nat.sub_zero] at hv
      have hlt:=(List.getElem?_eq_some_iff.1 hv).1
      simp only [Array.getElem?_append,List.size_toArray,hlt,if_true,List.getElem?_toArray]
      exact hv⟩ (St.start hw)
  simp only [Kq] at this
  refine Code.wp_mono (fun e a w q=>?_) this
  cases e <;> exact q
theorem Fn.it {cx:Cx}{f:FuncId}{fn:Func}{c:Code}{args:List Value}{C:Mem}{L:List Ent}{post:Value->Mem->List Ent->Prop}(hen:Enters cx.P f=true)(hf:cx.P.funcs[f]?=some fn)(n:Nat)(h:∀ w0,G ⟨cx,fn,n,⟨w0,C,L⟩,post,Cw.plain cx.P,[],bodyPost cx.P fn (finOf ⟨w0,C,L⟩ post)⟩ (norm 64 [.code c]) .normal (args0 args 0) C L)(hb:fn.body=some c:=by rfl)(hnt:fn.ntmps=n:=by rfl)(hn:Nat.ble args.length n=true:=by rfl):Fn cx.P f args C L post:=Fn.intro hen hf hb n hnt hn h
end
end Go.Jog
namespace Go.Jog
open Go

/-! ### Integers -/
theorem wrap_i64 {n:Int}(h1:-9223372036854775808<=n)(h2:n<=9223372036854775807):IntKind.i64.wrap n=n:=by
  rw [IntKind.wrap_i64];omega

section
variable {cx:Cx} {n:Nat} {ds:List (Option Nat)} {R:Rg n ds} {its:List It} {fr:Fr} {C:Mem} {L:List Ent} {i k d:Nat} {o:Oper} {g:GL} {v:Value}

theorem D.cG (c:Int){e:Int}(hk:Nat.ble k 1=true)(hd:o.dst=some d)(hg:gOf ds fr o.guard=some g)(hv:po cx.T (ev fr g) o.op=some (.int .i64 (IntKind.i64.wrap e)))(he:e=c)(h1:-9223372036854775808<=c)(h2:c<=9223372036854775807)
    (hp:aG n ds ((d,g,.int .i64 c)::fr) d=true) (hwf:wfG ds fr g=true)
    (h:D cx R its ((d,g,.int .i64 c)::fr) C L):D cx R ((i,k,o)::its) fr C L:=by
  subst he
  exact D.pure hk hd hg (by rw [hv,wrap_i64 h1 h2]) hp hwf h

theorem D.am {e:Int}(c:Int)(h:D cx R its ((d,g,.int .i64 c)::fr) C L)(hk:Nat.ble k 1=true:=by rfl)(hd:o.dst=some d:=by rfl)(hg:gOf ds fr o.guard=some g:=by rfl)(hv:po cx.T (ev fr g) o.op=some (.int .i64 (IntKind.i64.wrap e)):=by rfl)(he:e=c:=by rfl)(h1:-9223372036854775808<=c:=by omega)(h2:c<=9223372036854775807:=by omega)(hp:aG n ds ((d,g,.int .i64 c)::fr) d=true:=by rfl)(hwf:wfG ds fr g=true:=by rfl):D cx R ((i,k,o)::its) fr C L:=D.cG c hk hd hg hv he h1 h2 hp hwf h
theorem D.as {u:Value}(v:Value)(hk:Nat.ble k 1=true)(hd:o.dst=some d)(hg:gOf ds fr o.guard=some g)(hv:po cx.T (ev fr g) o.op=some u)(he:u=v)
    (hp:aG n ds ((d,g,v)::fr) d=true) (hwf:wfG ds fr g=true)
    (h:D cx R its ((d,g,v)::fr) C L):D cx R ((i,k,o)::its) fr C L:=by
  subst he
  exact D.pure hk hd hg hv hp hwf h

theorem D.run (v:Value)(hk:Nat.ble k 1=true)(hd:o.dst=some d)(hg:gOf ds fr o.guard=some g)(hrun:GT ds fr g->∀ a,Sees (ev fr g) a->∀ w,(execOp a.eval o).run cx.P w=.ok (.value v) w)
    (hp:aG n ds ((d,g,v)::fr) d=true) (hwf:wfG ds fr g=true)
    (h:D cx R its ((d,g,v)::fr) C L):D cx R ((i,k,o)::its) fr C L :=
  D.det hk hd hg hp hwf (fun hG a hs κ' _ w _=>by
    unfold Oper.quietAt
    rw [hrun hG a hs w]
    exact ⟨rfl,rfl⟩) h

theorem bY {P:Program}{a:Act}{o:Oper}{op:BinOp}{t ty:Nat}{x y:Operand}{u v:Value}(hop:o.op=.binOp op t x y ty)(hx:a.eval x=u)(hy:a.eval y=v)(h1:∀ a b,u≠.agg a∨v≠.agg b)(h2:u≠.nilIface∨v≠.nilIface)(w:World) :
    (execOp a.eval o).run P w=((binOp op t u v).run P w).andThen fun r w'=>.ok (.value r) w':=by
  have e1:execOp a.eval o=((eqGuard op t x y (a.eval x) (a.eval y) >>= fun _=>binOp op t (a.eval x) (a.eval y)) >>= fun r=>Pure.pure (.value r)):=by
    obtain ⟨dst,op',ty',pos,after,guard⟩:=o
    simp only at hop
    subst hop
    rfl
  rw [e1,hx,hy]
  simp only [Sem.run_bind,cK (P:=P) (op:=op) (t:=t) (x:=x) (y:=y) w h1 h2,Result.andThen_ok,Sem.run_pure]

theorem D.quo {t ty:Nat}{x y:Operand}{ki:IntKind}{p q:Int}(hk:Nat.ble k 1=true)(hd:o.dst=some d)(hop:o.op=.binOp .quo t x y ty)(hg:gOf ds fr o.guard=some g)(hx:ev fr g x=some (.int ki p))(hy:ev fr g y=some (.int ki q))
    (hq:0<q) (h0:0<=p) (hr:ki.wrap (p / q)=p / q) (hp:aG n ds ((d,g,.int ki (p / q))::fr) d=true) (hwf:wfG ds fr g=true)
    (h:D cx R its ((d,g,.int ki (p / q))::fr) C L):D cx R ((i,k,o)::its) fr C L :=
  D.run _ hk hd hg (fun _ a hs w=>by
    rw [bY hop (hs _ _ hx) (hs _ _ hy) (fun _ _=>.inl (by simp)) (.inl (by simp)) w]
    have hq0:q≠0:=by omega
    simp [binOp,Op.intDiv,hq0,Int.tdiv_eq_ediv_of_nonneg h0,hr]) hp hwf h

theorem D.rem {t ty:Nat}{x y:Operand}{ki:IntKind}{p q:Int}(hk:Nat.ble k 1=true)(hd:o.dst=some d)(hop:o.op=.binOp .rem t x y ty)(hg:gOf ds fr o.guard=some g)(hx:ev fr g x=some (.int ki p))(hy:ev fr g y=some (.int ki q))
    (hq:0<q) (h0:0<=p) (hp:aG n ds ((d,g,.int ki (p % q))::fr) d=true) (hwf:wfG ds fr g=true)
    (h:D cx R its ((d,g,.int ki (p % q))::fr) C L):D cx R ((i,k,o)::its) fr C L :=
  D.run _ hk hd hg (fun _ a hs w=>by
    rw [bY hop (hs _ _ hx) (hs _ _ hy) (fun _ _=>.inl (by simp)) (.inl (by simp)) w]
    have hq0:q≠0:=by omega
    simp [binOp,Op.intDiv,hq0,Int.tmod_eq_emod_of_nonneg h0]) hp hwf h

theorem D.cR {src dst:Nat}{x:Operand}{ki kj:IntKind}{p c:Int}{ts td:TI}(hk:k=2)(hd:o.dst=some d)(hop:o.op=.convert src dst x)(hg:gOn ds fr o.guard=true)(hx:ev fr [] x=some (.int ki p))
    (hts:cx.T.get src=some ts) (htd:cx.T.get dst=some td) (hkd:td.k=.int kj) (hc:kj.wrap p=c) (hp:∀ v,aG n ds ((d,[],v)::fr) d=true)
    (h:D cx R its ((d,[],.int kj c)::fr) C L):D cx R ((i,k,o)::its) fr C L :=
  D.eg (S:=fun v C' L'=>v=.int kj c/\C'=C/\L'=L) (by subst hk;rfl) hd hg hp (fun a hs w _ hw=>by
    have hex:(execOp a.eval o).run cx.P w=.ok (.value (.int kj c)) w:=by
      have e1:execOp a.eval o=(do Pure.pure (.value (<- convert src dst (a.eval x))):Sem Next):=by unfold execOp;rw [hop]
      rw [e1,hs _ _ hx]
      obtain ⟨du,h1,h2⟩:=(cq cx.hT hts).und
      obtain ⟨kk,s1,b1,z1,g1⟩:=td
      simp only at hkd
      subst hkd
      subst hc
      simp [convert,run_underlying h1,run_underlying (und_int cx.hT htd),Conv.intToInt]
    unfold Oper.wp
    rw [hex]
    exact ⟨_,C,L,rfl,Mem.le.refl _,fun _ _ h=>h,hw,rfl,rfl,rfl⟩)
    (fun v C' L' _ ⟨e1,e2,e3⟩=>by subst e1;subst e2;subst e3;exact h)
end

/-! ### New blocks whose content the tape settles -/
structure Fresh (w w':World)(ob:Obj):Prop where
  os:w'.os=w.os
  tape:w'.tape=w.tape
  output:w'.output=w.output
  size:w'.heap.size=w.heap.size+1
  old:∀ k,k<w.heap.size->w'.heap[k]?=w.heap[k]?
  new:w'.heap[w.heap.size]?=some ob
  drawn:w.drawn<=w'.drawn

theorem Fresh.alloc (w:World)(ob:Obj):Fresh w (w.alloc ob) ob:=⟨rfl,rfl,rfl,by simp,fun k hk=>RowKit.Below.heap_alloc w ob k hk,heap_alloc_new w ob,Nat.le_refl _⟩

theorem St.fresh {w0:World}{C0:Mem}{L0:List Ent}{C:Mem}{L:List Ent}{w w':World}(h:St w0 C0 L0 C L w){ob:Obj}(hf:Fresh w w' ob):St w0 C0 L0 C (.obj w.heap.size ob::L) w':=by
  have h1:=St.alloc h ob
  have hh:w'.heap=(w.alloc ob).heap:=by
    apply Array.ext_getElem?
    intro k
    rcases Nat.lt_trichotomy k w.heap.size with hk | hk | hk
    · rw [hf.old k hk,RowKit.Below.heap_alloc w ob k hk]
    · subst hk;rw [hf.new,heap_alloc_new]
    · rw [Array.getElem?_eq_none (by rw [hf.size];omega),Array.getElem?_eq_none (by simp;omega)]
  exact h1.same hf.os hf.tape hf.output hh hf.drawn

section
variable {cx:Cx} {n:Nat} {ds:List (Option Nat)} {R:Rg n ds} {its:List It} {fr:Fr} {C:Mem} {L:List Ent} {i k d:Nat} {o:Oper} {g:GL} {v:Value}

theorem D.freshC {S:Value->Nat->Obj->Prop}(hk:Nat.ble k 1=false)(hd:o.dst=some d)(hg:gOn ds fr o.guard=true)(hp:∀ v,aG n ds ((d,[],v)::fr) d=true)
    (hrun:∀ a,Sees (ev fr []) a->∀ w C0 L0 w0,St w0 C0 L0 C L w->∃ v ob w',(execOp a.eval o).run cx.P w=.ok (.value v) w'/\Fresh w w' ob/\S v w.heap.size ob)
    (h:∀ v b ob C',C.le C'->C' b=some ob->S v b ob->D cx R its ((d,[],v)::fr) C' L):D cx R ((i,k,o)::its) fr C L :=
  D.eg (S:=fun v C' L'=>L'=L/\∃ b ob,C' b=some ob/\S v b ob) hk hd hg hp (fun a hs w _ hw=>by
    obtain ⟨v,ob,w',hr,hf,hS⟩:=hrun a hs w _ _ _ hw
    unfold Oper.wp
    rw [hr]
    have h1:=St.fresh hw hf
    have h2:=h1.freeze
    exact ⟨v,C.set w.heap.size ob,L,rfl,h2.1,fun _ x hx=>hx,h2.2,rfl,w.heap.size,ob,Mem.set_self _ _ _,hS⟩)
    (fun v C' L' hle ⟨e1,b,ob,e2,e3⟩=>by subst e1;exact h v b ob C' hle e2 e3)

theorem dW (s:List UInt8):(s.map fun b=>[Value.int .u8 b.toNat]).flatten=s.map fun b=>Value.int .u8 b.toNat:=by
  induction s with
  | nil=>rfl
  | cons b s ih=>simp [ih]

theorem D.strBytes {src dst e:Nat}{x:Operand}{s:List UInt8}{ts td te:TI}(hk:k=2)(hd:o.dst=some d)(hop:o.op=.convert src dst x)(hg:gOn ds fr o.guard=true)(hx:ev fr [] x=some (.string ⟨s.toArray⟩))
    (hts:cx.T.get src=some ts) (htd:cx.T.get dst=some td) (hkd:td.k=.slice e) (hte:cx.T.get e=some te) (hke:te.k=.int .u8) (hlen:s.length<=maxLen) (hp:∀ v,aG n ds ((d,[],v)::fr) d=true)
    (h:∀ p C',C.le C'->Sl C' 1 p (s.map fun b=>[.int .u8 b.toNat])->D cx R its ((d,[],p)::fr) C' L):D cx R ((i,k,o)::its) fr C L:=by
  refine D.freshC (S:=fun v b ob=>∃ (blk:Array Value)(fz:Nat × Nat)(c:Nat),v=.slice (some ⟨b,0,none⟩) s.length c/\ob=.cells blk e fz/\s.length<=c/\c<=maxLen/\∀ (j:Nat)(u:Value),(s.map fun b=>Value.int .u8 b.toNat)[j]?=some u->blk[j]?=some u)
    (by subst hk;rfl) hd hg hp (fun a hs w _ _ _ _=>?_) (fun v b ob C' hle hb ⟨blk,fz,c,e1,e2,e3,e4,e5⟩=>?_)
  · obtain ⟨du,h1,_⟩:=(cq cx.hT hts).und
    obtain ⟨kk,s1,b1,z1,g1⟩:=td
    simp only at hkd
    subst hkd
    obtain ⟨kk2,s2,b2,z2,g2⟩:=te
    simp only at hke
    subst hke
    have hr:=Lib.run_convert_string_bytes (P:=cx.P) w src dst e ⟨s.toArray⟩ h1 (bx cx.hT htd) (und_int cx.hT hte)
    refine ⟨.slice (some ⟨w.heap.size,0,none⟩) s.length (grownCap w s.length 0 e),_,Lib.bytesWorld w e ⟨s.toArray⟩, ?_,⟨?_, ?_, ?_,Lib.bytesWorld_size w e ⟨s.toArray⟩,fun k hk=>Lib.bytesWorld_at_old w e ⟨s.toArray⟩ k hk,Lib.bytesWorld_at_new w e ⟨s.toArray⟩,a6 _ hr⟩, ?_⟩
    · have e1:execOp a.eval o=(do Pure.pure (.value (<- convert src dst (a.eval x))):Sem Next):=by unfold execOp;rw [hop]
      rw [e1,hs _ _ hx]
      simp only [Sem.run_bind,hr,Result.andThen_ok,Sem.run_pure]
      rfl
    · unfold Lib.bytesWorld World.freeze;split <;> rfl
    · unfold Lib.bytesWorld World.freeze;split <;> rfl
    · unfold Lib.bytesWorld World.freeze;split <;> rfl
    · refine ⟨_,_,_,rfl,rfl,by have:=grownCap_ge w s.length 0 e;simpa [ByteArray.size] using this,by have:=grownCap_le_maxLen w s.length 0 e hlen;simpa [ByteArray.size] using this,fun j u hj=>?_⟩
      have hj':j<s.length:=by have:=(List.getElem?_eq_some_iff.1 hj).1;simpa using this
      rw [List.getElem?_map] at hj
      simp only [Lib.bytesCells]
      rw [Array.getElem?_append_left (by simp;exact hj')]
      simp only [Array.getElem?_map,List.getElem?_toArray]
      exact hj
  · subst e1;subst e2
    have:=Sl.ofBlock (rows:=s.map fun b=>[Value.int .u8 b.toNat]) (s:=1) (c:=c) hb (by simp) (fun j v hj=>e5 j v (by
      have hf:(s.map fun b=>[Value.int .u8 b.toNat]).flatten=s.map fun b=>Value.int .u8 b.toNat:=by
        exact dW s
      rw [hf] at hj;exact hj)) (by simpa using e3) e4
    simp only [List.length_map] at this
    exact h _ C' hle this

/-! ### Rows of the function's own: reading and writing elements -/
theorem D.ce (off:Nat){t e g0 len cap size:Nat}{x y:Operand}{ki:IntKind}{m:Int}{ti te:TI}(hk:Nat.ble k 1=true)(hd:o.dst=some d)(hop:o.op=.indexAddr t x y)
    (hg:gOf ds fr o.guard=some g) (hx:ev fr g x=some (.slice (some ⟨g0,0,none⟩) len cap)) (hy:ev fr g y=some (.int ki m)) (ht:cx.T.get t=some ti) (hte:ti.k=.slice e) (he:cx.T.get e=some te) (hsz:te.size=size)
    (h0:GT ds fr g->0<=m/\m<len/\off=m.toNat*size) (hp:aG n ds ((d,g,.pointer (some ⟨g0,off,none⟩))::fr) d=true) (hwf:wfG ds fr g=true)
    (h:D cx R its ((d,g,.pointer (some ⟨g0,off,none⟩))::fr) C L):D cx R ((i,k,o)::its) fr C L:=by
  have hu:cx.P.underlying t=some (.slice e):=by
    obtain ⟨kk,s1,b1,z1,g1⟩:=ti
    simp only at hte
    subst hte
    exact bx cx.hT ht
  refine D.run _ hk hd hg (fun hGT a hs w=>?_) hp hwf h
  obtain ⟨hm0,hml,rfl⟩:=h0 hGT
  have e1:execOp a.eval o=(do Pure.pure (.value (<- Instr.indexAt t (a.eval x) (a.eval y))):Sem Next):=by unfold execOp;rw [hop]
  rw [e1,hs _ _ hx,hs _ _ hy]
  have h2:=cF cx.hT he w
  rw [hsz] at h2
  simp [Instr.indexAt,asIntOf,run_underlying hu,h2,hm0,hml,Addr.add_lit]

theorem cM {w:World}{e size len g0 m cap:Nat}{xs:List Value}(h:w.ownsRow 0 e size (.slice (some ⟨g0,0,none⟩) m cap) len xs) :
    m=len/\len<=cap/\cap<=maxLen/\∃ cur:Array Value,w.heap[g0]?=some (.cells cur e (0,0))/\cur.size=cap*size/\cur.toList.take (len*size)=xs:=by
  rcases h.2 with ⟨h1,_⟩ | ⟨g,c,cur,hv,_,hh,h3,h4,h5,h6⟩
  · cases h1
  · cases hv
    exact ⟨rfl,h3,h4,cur,hh,h5,h6⟩

theorem D.loadArr {t g0 off e size len m cap:Nat}{x:Operand}{xs:List Value}{ti:TI}(hm:Ent.arr (.slice (some ⟨g0,0,none⟩) m cap) e size len xs∈L)(hk:k=1)(hd:o.dst=some d)(hop:o.op=.load t x)(hg:gOf ds fr o.guard=some g)(hx:ev fr g x=some (.pointer (some ⟨g0,off,none⟩)))
    (ht:cx.T.get t=some ti) (hv:GT ds fr g->bS ti ((xs.drop off).take ti.size)=some v) (hp:aG n ds ((d,g,v)::fr) d=true) (hwf:wfG ds fr g=true)
    (h:D cx R its ((d,g,v)::fr) C L):D cx R ((i,k,o)::its) fr C L :=
  D.det (by subst hk;rfl) hd hg hp hwf (fun hGT a hs κ' hκ w hw=>by
    have hown:w.ownsRow 0 e size (.slice (some ⟨g0,0,none⟩) m cap) len xs:=hw.sep.e _ ((hκ hk).2 _ hm)
    obtain ⟨_,_,_,cur,hb,_,htake⟩:=cM hown
    have hcell:∀ j u,((xs.drop off).take ti.size)[j]?=some u->w.cell? ((⟨g0,off,none⟩:Addr).add j)=some u:=fun j u hj=>by
      rw [Addr.add_lit,cell_of_row w g0 (off+j) _ e (0,0) hb]
      rw [List.getElem?_take] at hj
      split at hj
      · rw [List.getElem?_drop,<- htake,List.getElem?_take] at hj
        split at hj
        · simpa using hj
        · cases hj
      · cases hj
    have hex:(execOp a.eval o).run cx.P w=.ok (.value v) w:=by
      have e1:execOp a.eval o=(do Pure.pure (.value (<- Instr.loadAt t (a.eval x))):Sem Next):=by unfold execOp;rw [hop]
      rw [e1,hs _ _ hx]
      simp only [Instr.loadAt,Instr.sureAddr,Sem.run_bind,Sem.run_pure,Result.andThen_ok]
      rw [dA cx.hT ht hcell (hv hGT)]
      rfl
    unfold Oper.quietAt
    rw [hex]
    exact ⟨rfl,rfl⟩) h

theorem dS (cs vs:List Value)(off n:Nat)(h:off+vs.length<=n)(hn:n<=cs.length):(au cs vs off).take n=au (cs.take n) vs off:=by
  unfold au
  apply List.ext_getElem?
  intro i
  simp only [List.getElem?_take,List.getElem?_append,List.length_append,List.length_take,List.getElem?_drop]
  have e1:min off cs.length=off:=by omega
  have e2:min off (min n cs.length)=off:=by omega
  rw [e1,e2]
  by_cases h1:i<off
  · simp [h1,show i<off+vs.length by omega,show i<n by omega]
  · by_cases h2:i<off+vs.length
    · simp [h1,h2,show i<n by omega]
    · simp only [h1,h2,if_false]
      have e3:off+vs.length+(i-(off+vs.length))=i:=by omega
      rw [e3]

theorem D.bH {t g0 off j e size len m cap:Nat}{x y:Operand}{xs vs:List Value}{ti:TI}(hk:k=3)(hg:gOn ds fr o.guard=true)(hd:o.dst=none)(hop:o.op=.store t x y)
    (hx:ev fr [] x=some (.pointer (some ⟨g0,off,none⟩))) (hy:ev fr [] y=some v) (hm:L[j]?=some (.arr (.slice (some ⟨g0,0,none⟩) m cap) e size len xs))
    (ht:cx.T.get t=some ti) (hv:v.cells=⟨vs⟩) (hl:Nat.beq vs.length ti.size=true) (h1:vs.all oneB=true) (hfit:off+vs.length<=xs.length)
    (h:D cx R its fr C (.arr (.slice (some ⟨g0,0,none⟩) m cap) e size len (au xs vs off)::L.eraseIdx j)):D cx R ((i,k,o)::its) fr C L :=
  D.eff0 (S:=fun C' L'=>C'=C/\L'=.arr (.slice (some ⟨g0,0,none⟩) m cap) e size len (au xs vs off)::L.eraseIdx j) (by subst hk;rfl) hg (fun a hs w _ hw=>by
    have hw':=St.perm hw (aN hm)
    have hown:w.ownsRow 0 e size (.slice (some ⟨g0,0,none⟩) m cap) len xs:=hw'.sep.e _ (List.mem_cons_self ..)
    obtain ⟨rfl,hlc,hcm,cur,hb,hcs,htake⟩:=cM hown
    obtain ⟨cur⟩:=cur
    simp only [List.size_toArray] at hcs
    simp only at htake
    have hxl:xs.length=m*size:=hown.1
    have hcl:m*size<=cur.length:=by rw [hcs];exact Nat.mul_le_mul_right _ hlc
    have hex:(execOp a.eval o).run cx.P w=.ok .skip (w.setRow g0 (au cur vs off).toArray):=by
      have e1:execOp a.eval o=(do Instr.storeAt t (a.eval x) (a.eval y);Pure.pure .skip:Sem Next):=by unfold execOp;rw [hop]
      rw [e1,hs _ _ hx,hs _ _ hy]
      simp only [Instr.storeAt,Instr.sureAddr,Sem.run_bind,Sem.run_pure,Result.andThen_ok]
      rw [run_storeVar cx.hT ht hb hv (Nat.eq_of_beq_eq_true hl) om_ (fun u hu=>oneB_spec (List.all_eq_true.1 h1 u hu))]
      rfl
    have hlen:(au cur vs off).length=cur.length:=by unfold au;simp;omega
    have hnew:(w.setRow g0 (au cur vs off).toArray).ownsRow 0 e size (.slice (some ⟨g0,0,none⟩) m cap) m (au xs vs off) :=
      ⟨by have:(au xs vs off).length=xs.length:=by unfold au;simp;omega
          omega,.inr ⟨g0,cap,_,rfl,Nat.zero_le _,setRow_heap w g0 _ _ e _ hb,hlc,hcm,by simp [hlen,hcs],by
            rw [<- htake];exact dS cur vs off (m*size) om_ hcl⟩⟩
    unfold Oper.wp
    rw [hex]
    refine ⟨C,.arr (.slice (some ⟨g0,0,none⟩) m cap) e size m (au xs vs off)::L.eraseIdx j, ?_,Mem.le.refl _,fun h2=>by omega,
      St.turn hw' hnew ⟨rfl,rfl,rfl,by simp,fun k _ hk=>setRow_other w g0 k _ (fun e=>hk (by simp [Value.ownBlock,e]))⟩ (Nat.le_refl _) (.inl rfl),rfl,rfl⟩
    rw [hd];rfl)
    (fun C' L' _ ⟨e1,e2⟩=>by subst e1;subst e2;exact h)
end

section
variable {F:Fx} {k:List KI} {fr:Fr} {C:Mem} {L:List Ent}
def ArrForm (v:Value)(n:Nat):Prop:=(v=.slice none 0 0/\n=0)∨∃ g c,v=.slice (some ⟨g,0,none⟩) n c/\n<=c/\c<=maxLen
theorem G.form {e:Exit}{v:Value}{t size len:Nat}{xs:List Value}(hm:Ent.arr v t size len xs∈L)(h:ArrForm v len->xs.length=len*size->G F k e fr C L):G F k e fr C L:=fun h0 a w ha hw=>by
  have hown:w.ownsRow 0 t size v len xs:=hw.sep.e _ hm
  refine h ?_ hown.1 h0 a w ha hw
  rcases hown.2 with h1 | ⟨g,c,cur,hv,_,_,h3,h4,_⟩
  · exact .inl h1
  · exact .inr ⟨g,c,hv,h3,h4⟩

theorem St.freezeArr {w0:World}{C0:Mem}{L0:List Ent}{w:World}{v:Value}{t size len:Nat}{rows:List (List Value)}(h:St w0 C0 L0 C (.arr v t size len rows.flatten::L) w)(hl:∀ r∈rows,r.length=size)(hn:rows.length=len) :
    ∃ C',C.le C'/\Sl C' size v rows/\St w0 C0 L0 C' L w:=by
  have hown:w.ownsRow 0 t size v len rows.flatten:=h.sep.e _ (List.mem_cons_self ..)
  subst hn
  rcases hown.2 with ⟨rfl,hz⟩ | ⟨g,c,cur,rfl,_,hh,h3,h4,h5,h6⟩
  · have:rows=[]:=List.eq_nil_of_length_eq_zero hz
    subst this
    exact ⟨C,Mem.le.refl _,Sl.nil C size,h.drop⟩
  · have h':St w0 C0 L0 C (.obj g (.cells cur t (0,0))::L) w :=
      ⟨⟨h.sep.c,fun x hx=>by
        rcases List.mem_cons.1 hx with rfl | hx
        · exact hh
        · exact h.sep.e x (by simp [hx]),by
        have:=List.pairwise_cons.1 h.sep.d
        exact List.pairwise_cons.2 ⟨fun y hy k hk=>this.1 y hy k (by simp only [Ent.own] at hk ⊢;simp [Value.ownBlock,hk]),this.2⟩,fun k ⟨x,hx,hk⟩=>by
        rcases List.mem_cons.1 hx with rfl | hx
        · simp only [Ent.own] at hk
          exact h.sep.n k ⟨_,List.mem_cons_self ..,by simp [Ent.own,Value.ownBlock,hk]⟩
        · exact h.sep.n k ⟨x,by simp [hx],hk⟩⟩,h.ev,h.c0,h.cn,fun k ⟨x,hx,hk⟩=>by
        rcases List.mem_cons.1 hx with rfl | hx
        · simp only [Ent.own] at hk
          exact h.ln k ⟨_,List.mem_cons_self ..,by simp [Ent.own,Value.ownBlock,hk]⟩
        · exact h.ln k ⟨x,by simp [hx],hk⟩⟩
    have h2:=h'.freeze
    refine ⟨_,h2.1,Sl.ofBlock (Mem.set_self C g _) hl (fun j u hj=>?_) h3 h4,h2.2⟩
    rw [<- h6,List.getElem?_take] at hj
    split at hj
    · simpa using hj
    · cases hj

theorem G.freezeArr {e:Exit}(j:Nat){v:Value}{t size len:Nat}(rows:List (List Value)){xs:List Value}(hj:L[j]?=some (.arr v t size len xs))(hx:xs=rows.flatten)(hl:∀ r∈rows,r.length=size)(hn:rows.length=len)
    (h:∀ C',C.le C'->Sl C' size v rows->G F k e fr C' (L.eraseIdx j)):G F k e fr C L:=fun h0 a w ha hw=>by
  subst hx
  obtain ⟨C',h1,h2,h3⟩:=St.freezeArr (St.perm hw (aN hj)) hl hn
  exact h C' h1 h2 (h0.trans h1) a w ha h3

theorem G.freeze {e:Exit}(j:Nat){b:Nat}{ob:Obj}(hj:L[j]?=some (.obj b ob))(h:∀ C',C.le C'->C' b=some ob->G F k e fr C' (L.eraseIdx j)):G F k e fr C L:=fun h0 a w ha hw=>by
  have h1:=St.freeze (St.perm hw (aN hj))
  exact h _ h1.1 (Mem.set_self _ _ _) (h0.trans h1.1) a w ha h1.2

theorem G.nilArr {e:Exit}(t size:Nat)(h:G F k e fr C (.arr (.slice none 0 0) t size 0 []::L)):G F k e fr C L:=fun h0 a w ha hw=>h h0 a w ha (St.nilArr hw t size)
end
end Go.Jog
namespace Go.Jog
open Go

/-! ### Literals -/
def fillL (place:Nat->Option (Nat × Nat))(cs:List Value):List (Nat × Value)->Option (List Value)
  | []=>some cs
  | (i,v)::r=>match place i with
    | some (off,size)=>bif Nat.beq (rowOf v).length size && Nat.ble (off+size) cs.length then fillL place (au cs (rowOf v) off) r else none
    | none=>none

theorem cC {cs vs:List Value}{off:Nat}(h:off+vs.length<=cs.length):(au cs vs off).length=cs.length:=by unfold au;simp;omega

theorem fill_eq {place:Nat->Option (Nat × Nat)}:∀ {ps:List (Nat × Value)}{cs cs':List Value},fillL place cs ps=some cs'->Instr.fill place ⟨cs⟩ ps=some ⟨cs'⟩
  | [],cs,cs',h=>by simp [fillL] at h;subst h;simp [Instr.fill]
  | (i,v)::r,cs,cs',h=>by
    simp only [fillL] at h
    split at h
    · rename_i off size hp
      cases hb:Nat.beq (rowOf v).length size && Nat.ble (off+size) cs.length with
      | false=>rw [hb] at h;cases h
      | true =>
        rw [hb] at h
        simp only [cond_true] at h
        rw [Bool.and_eq_true] at hb
        have h1:=Nat.eq_of_beq_eq_true hb.1
        have h2:off+size<=cs.length:=by have:=hb.2;rwa [Nat.ble_eq] at this
        have hc:v.cells.toList=rowOf v:=rowOf_cells v
        have hs:v.cells.size=size:=by rw [<- h1,<- hc];simp
        simp only [Instr.fill,hp]
        have hno:¬ (v.cells.size≠size || decide (off+v.cells.size > (⟨cs⟩:Array Value).size))=true:=by simp [hs];omega
        rw [if_neg (by simpa using hno)]
        have hf:=foldl_set [] off v.cells.toList 0 ⟨cs⟩ (by simp [hs];omega)
        simp only [Nat.add_zero,Array.length_toList] at hf
        have hz:(v.cells.zipIdx.foldl (fun (cs:Array Value)(c,j_1)=>cs.setIfInBounds (off+j_1) c) (⟨cs⟩:Array Value))=(⟨au cs (rowOf v) off⟩:Array Value):=by
          apply Array.ext'
          rw [<- Array.foldl_toList,Array.toList_zipIdx]
          rw [hf]
          unfold au
          rw [<- hc];simp
        rw [hz]
        exact fill_eq h
    · cases h

def placesO (T:Tab):List (Nat × Nat)->Option (List (Nat × Nat))
  | []=>some []
  | (ty,off)::r=>match T.get ty,placesO T r with
    | some i,some ps=>some ((off,i.size)::ps)
    | _,_=>none

theorem placesO_spec {T:Tab}{P:Program}(hT:tabB P T=true):∀ {fs:List Field}{ps:List (Nat × Nat)},placesO T (fs.map fun f=>(f.type,f.offset))=some ps->fs.mapM (fun f=>(P.info? f.type).map fun i=>(f.offset,i.size))=some ps
  | [],ps,h=>by simp [placesO] at h;subst h;rfl
  | f::fs,ps,h=>by
    simp only [List.map_cons,placesO] at h
    split at h
    · rename_i i ps' hi hps
      cases h
      obtain ⟨inf,h1,h2,_⟩:=(cq hT hi).info
      have:=placesO_spec hT hps
      simp [List.mapM_cons,h1,this,h2]
    · cases h

def litO (T:Tab)(t:Nat)(parts:List (Nat × Value)):Option (List Value):=match T.get t with
  | some ⟨.struct fs,_,_,z,_⟩=>match placesO T fs with
    | some ps=>fillL (ps[·]?) (z.map Zv.val) parts
    | none=>none
  | some ⟨.arr _ e,_,_,z,_⟩=>match T.get e with
    | some i=>fillL (fun j=>some (j*i.size,i.size)) (z.map Zv.val) parts
    | none=>none
  | _=>none

theorem litO_spec {T:Tab}{P:Program}(hT:tabB P T=true){t:Nat}{parts:List (Nat × Value)}{cs:List Value}(h:litO T t parts=some cs):P.built t parts=some ⟨cs⟩:=by
  unfold litO at h
  split at h
  · rename_i fs s b z g ht
    obtain ⟨fields,hu,hfs⟩:=und_struct hT ht
    obtain ⟨inf,h1,h2,_,h4,h5⟩:=(cq hT ht).info
    split at h
    · rename_i ps hps
      subst hfs
      have hp:=placesO_spec hT hps
      unfold Program.built
      simp only [h1,hu,h4,hp]
      have:=fill_eq h
      have e:(fun x:Nat=>(ps.toArray[x]?:Option (Nat × Nat)))=(fun x:Nat=>ps[x]?):=by funext x;simp
      simp only at h5
      rw [e,h5];exact this
    · cases h
  · rename_i m e s b z g ht
    have hu:=und_arr hT ht
    obtain ⟨inf,h1,h2,_,h4,h5⟩:=(cq hT ht).info
    split at h
    · rename_i i hi
      obtain ⟨ife,h6,h7,_⟩:=(cq hT hi).info
      unfold Program.built
      simp only [h1,hu,h4,h6,h7]
      have:=fill_eq h
      simp only at h5
      rw [h5];exact this
    · cases h
  · cases h

def partsV (ρ:Operand->Option Value):List (Nat × Operand)->Option (List (Nat × Value))
  | []=>some []
  | (j,x)::r=>match ρ x,partsV ρ r with
    | some v,some vs=>some ((j,v)::vs)
    | _,_=>none

theorem partsV_spec {ρ:Operand->Option Value}{ρ':Operand->Value}(hρ:∀ x v,ρ x=some v->ρ' x=v):∀ {ps:List (Nat × Operand)}{vs:List (Nat × Value)},partsV ρ ps=some vs->ps.map (fun (i,x)=>(i,ρ' x))=vs
  | [],vs,h=>by simp [partsV] at h;subst h;rfl
  | (j,x)::r,vs,h=>by
    simp only [partsV] at h
    split at h
    · rename_i v vs' h1 h2
      cases h
      simp only [List.map_cons,hρ x v h1,partsV_spec hρ h2]
    · cases h

/-! ### Equality of structs of plain fields -/
def scal:Value->Value->Option Bool
  | .int k a,.int k' b=>bif k == k' then some (a == b) else none
  | .string a,.string b=>some (a.data.toList == b.data.toList)
  | .bool a,.bool b=>some (a == b)
  | _,_=>none

def eqRow:List Value->List Value->Option Bool
  | [],[]=>some true
  | x::xs,y::ys=>match scal x y,eqRow xs ys with
    | some a,some b=>some (a && b)
    | _,_=>none
  | _,_=>none

def plainD:TypeDesc->Bool
  | .int _ | .bool | .string=>true
  | _=>false

def flatF (P:Program):List Field->Nat->Bool
  | [],_=>true
  | f :: fs, i => Nat.beq f.offset i && (f.name != "_") && (match P.underlying f.type with | some d => plainD d | none => false) && flatF P fs (i + 1)

def flatEq (P:Program)(t:Nat):Bool:=match P.underlying t with
  | some (.struct fs)=>flatF P fs.toList 0 && !(P.stoodInHeld t) && !(P.eqGuardType P.depth t)
  | _=>false

theorem dB {P:Program}{t:TypeId}{d:TypeDesc}(h:P.underlying t=some d)(hd:plainD d=true)(w:World):(isAgg t).run P w=.ok false w:=by
  unfold isAgg
  simp only [Sem.run_bind,run_underlying h,Result.andThen_ok]
  cases d <;> first | rfl | cases hd

theorem run_part1 {P:Program}{t:TypeId}{d:TypeDesc}(h:P.underlying t=some d)(hd:plainD d=true){cs:List Value}{off:Nat}{v:Value}(hv:cs[off]?=some v)(w:World):(part t ⟨cs⟩ off).run P w=.ok v w:=by
  unfold part
  simp only [Sem.run_bind,dB h hd w,Result.andThen_ok]
  simp [hv]

def fitOne:Option TypeDesc->Value->Bool
  | some (.int _),.int _ _=>true
  | some .string,.string _=>true
  | some .bool,.bool _=>true
  | _,_=>false

theorem run_scal {P:Program}{t:TypeId}{x y:Value}{b:Bool}(hs:scal x y=some b)(m:Nat)(w:World)(hm:fitOne (P.underlying t) x=true):(Op.equalIn (m+1) t x y).run P w=.ok b w:=by
  unfold fitOne at hm
  split at hm
  · rename_i q k a hu
    unfold scal at hs
    cases y <;> try (simp at hs;done)
    rename_i k' c
    simp only at hs
    by_cases hk:k=k'
    · subst hk
      simp only [beq_self_eq_true,cond_true,Option.some.injEq] at hs
      subst hs
      exact run_equalIn_int w m t k q a c hu
    · rw [beq_eq_false_iff_ne.2 hk] at hs;cases hs
  · rename_i a hu
    unfold scal at hs
    cases y <;> try (simp at hs;done)
    rename_i c
    simp only [Option.some.injEq] at hs
    subst hs
    have:=run_equalIn_string (P:=P) w m t a c hu
    simpa [toList_eq] using this
  · rename_i a hu
    unfold scal at hs
    cases y <;> try (simp at hs;done)
    simp only [Option.some.injEq] at hs
    subst hs
    exact run_equalIn_bool w m t _ _ hu
  · cases hm

def fitF (P:Program):List Field->List Value->Bool
  | [],[]=>true
  | f::fs,x::xs=>fitOne (P.underlying f.type) x && fitF P fs xs
  | _,_=>false
def fitB (P:Program)(t:Nat)(xs:List Value):Bool:=match P.underlying t with
  | some (.struct fs)=>fitF P fs.toList xs
  | _=>false

theorem d8 {P:Program}(m:Nat)(w:World):∀ {fs:List Field}{i:Nat}{xs ys X Y:List Value}{b:Bool},flatF P fs i=true->fitF P fs xs=true->eqRow xs ys=some b->X.drop i=xs->Y.drop i=ys ->
    (Op.eqFields (m+1) ⟨X⟩ ⟨Y⟩ fs).run P w=.ok b w
  | [],i,xs,ys,X,Y,b,_,hf,he,_,_=>by
    cases xs with
    | nil =>
      cases ys with
      | nil=>simp [eqRow] at he;subst he;simp [Op.eqFields]
      | cons=>simp [eqRow] at he
    | cons=>simp [fitF] at hf
  | f::fs,i,xs,ys,X,Y,b,hfl,hf,he,hX,hY=>by
    cases xs with
    | nil=>simp [fitF] at hf
    | cons x xs =>
      cases ys with
      | nil=>simp [eqRow] at he
      | cons y ys =>
        simp only [flatF,Bool.and_eq_true] at hfl
        obtain ⟨⟨⟨h1,h2⟩,h3⟩,h4⟩:=hfl
        obtain rfl:=Nat.eq_of_beq_eq_true h1
        simp only [fitF,Bool.and_eq_true] at hf
        simp only [eqRow] at he
        split at he
        · rename_i p q hp hq
          cases he
          have hx:X[f.offset]?=some x:=by
            have:=congrArg (·[0]?) hX
            simpa using this
          have hy:Y[f.offset]?=some y:=by
            have:=congrArg (·[0]?) hY
            simpa using this
          have hX':X.drop (f.offset+1)=xs:=by
            have:=congrArg (List.drop 1) hX
            simpa using this
          have hY':Y.drop (f.offset+1)=ys:=by
            have:=congrArg (List.drop 1) hY
            simpa using this
          cases hu:P.underlying f.type with
          | none=>rw [hu] at h3;cases h3
          | some d =>
            rw [hu] at h3
            have hn : f.name ≠ "_" := by simpa using h2
            have hr:=run_scal hp m w hf.1
            have ih:=d8 m w h4 hf.2 hq hX' hY'
            simp only [Op.eqFields,hn,ne_eq,not_false_eq_true,if_true,Sem.run_bind,run_part1 hu h3 hx w,run_part1 hu h3 hy w,hr,Result.andThen_ok]
            cases p
            · simp
            · simpa using ih
        · cases he

theorem run_eq_flat {P:Program}{t:Nat}(ht:flatEq P t=true){xs ys:List Value}(hf:fitB P t xs=true){b:Bool}(he:eqRow xs ys=some b)(w:World):(Op.equalIn 10000 t (.agg ⟨xs⟩) (.agg ⟨ys⟩)).run P w=.ok b w:=by
  unfold flatEq at ht
  split at ht
  · rename_i fs hu
    simp only [Bool.and_eq_true,Bool.not_eq_true'] at ht
    have hfs:P.fieldsOf t=fs:=by simp [Program.fieldsOf,hu]
    rw [run_equalIn_struct w 9999 t _ _ (by rw [hfs];exact hu) ht.1.2,hfs]
    unfold fitB at hf
    rw [hu] at hf
    exact d8 9998 w ht.1.1 hf he rfl rfl
  · cases ht

section
variable {cx:Cx} {n:Nat} {ds:List (Option Nat)} {R:Rg n ds} {its:List It} {fr:Fr} {C:Mem} {L:List Ent} {i k d:Nat} {o:Oper} {g:GL} {v:Value}

theorem exec_binOp' {a:Act}{o:Oper}{op:BinOp}{t ty:Nat}{x y:Operand}(hop:o.op=.binOp op t x y ty) :
    execOp a.eval o=((eqGuard op t x y (a.eval x) (a.eval y) >>= fun _=>binOp op t (a.eval x) (a.eval y)) >>= fun r=>Pure.pure (.value r)):=by
  obtain ⟨dst,op',ty',pos,after,guard⟩:=o
  simp only at hop
  subst hop
  rfl

theorem flatEq_guard {P:Program}{t:Nat}(ht:flatEq P t=true):P.eqGuardType P.depth t=false:=by
  unfold flatEq at ht
  split at ht
  · simp only [Bool.and_eq_true,Bool.not_eq_true'] at ht
    exact ht.2
  · cases ht

theorem D.build {t:Nat}{parts:Array (Nat × Operand)}{vs:List (Nat × Value)}(cs:List Value)(hk:Nat.ble k 1=true)(hd:o.dst=some d)(hop:o.op=.build t parts)(hg:gOf ds fr o.guard=some g)
    (hvs:partsV (ev fr g) parts.toList=some vs) (hc:litO cx.T t vs=some cs)
    (hp:aG n ds ((d,g,.agg ⟨cs⟩)::fr) d=true) (hwf:wfG ds fr g=true)
    (h:D cx R its ((d,g,.agg ⟨cs⟩)::fr) C L):D cx R ((i,k,o)::its) fr C L :=
  D.run _ hk hd hg (fun _ a hs w=>by
    have e1:execOp a.eval o=(do Pure.pure (.value (<- Instr.build t (parts.map fun (i,x)=>(i,a.eval x)))):Sem Next):=by unfold execOp;rw [hop]
    have e2:(parts.map fun (i,x)=>(i,a.eval x)).toList=vs:=by rw [Array.toList_map];exact partsV_spec (fun x v hx=>hs x v hx) hvs
    rw [e1]
    simp only [Sem.run_bind,run_build w t _ _ (by rw [e2];exact litO_spec cx.hT hc),Result.andThen_ok,Sem.run_pure]) hp hwf h

theorem D.ak {t:Nat}{parts:Array (Nat × Operand)}{vs:List (Nat × Value)}(cs:List Value)(h:D cx R its ((d,g,.agg ⟨cs⟩)::fr) C L)(hk:Nat.ble k 1=true:=by rfl)(hd:o.dst=some d:=by rfl)(hop:o.op=.build t parts:=by rfl)(hg:gOf ds fr o.guard=some g:=by rfl)(hvs:partsV (ev fr g) parts.toList=some vs:=by rfl)(hc:litO cx.T t vs=some cs:=by rfl)(hp:aG n ds ((d,g,.agg ⟨cs⟩)::fr) d=true:=by rfl)(hwf:wfG ds fr g=true:=by rfl):D cx R ((i,k,o)::its) fr C L:=D.build cs hk hd hop hg hvs hc hp hwf h
theorem D.eqAgg (b:Bool){t ty:Nat}{x y:Operand}{xs ys:List Value}{b':Bool}(ht:flatEq cx.P t=true)(hk:Nat.ble k 1=true)(hd:o.dst=some d)(hop:o.op=.binOp .eql t x y ty)(hg:gOf ds fr o.guard=some g)
    (hx:ev fr g x=some (.agg ⟨xs⟩)) (hy:ev fr g y=some (.agg ⟨ys⟩)) (hf:fitB cx.P t xs=true) (he:eqRow xs ys=some b') (hb:GT ds fr g->b'=b)
    (hp:aG n ds ((d,g,.bool b)::fr) d=true) (hwf:wfG ds fr g=true)
    (h:D cx R its ((d,g,.bool b)::fr) C L):D cx R ((i,k,o)::its) fr C L :=
  D.run _ hk hd hg (fun hG a hs w=>by
    rw [exec_binOp' hop,hs _ _ hx,hs _ _ hy,<- hb hG]
    simp only [Sem.run_bind,run_eqGuard_agg w .eql t x y _ _ (flatEq_guard ht),Result.andThen_ok,run_eql_struct,run_eq_flat ht hf he w,Sem.run_pure]) hp hwf h
theorem D.neAgg (b:Bool){t ty:Nat}{x y:Operand}{xs ys:List Value}{b':Bool}(ht:flatEq cx.P t=true)(hk:Nat.ble k 1=true)(hd:o.dst=some d)(hop:o.op=.binOp .neq t x y ty)(hg:gOf ds fr o.guard=some g)
    (hx:ev fr g x=some (.agg ⟨xs⟩)) (hy:ev fr g y=some (.agg ⟨ys⟩)) (hf:fitB cx.P t xs=true) (he:eqRow xs ys=some b') (hb:GT ds fr g->(!b')=b)
    (hp:aG n ds ((d,g,.bool b)::fr) d=true) (hwf:wfG ds fr g=true)
    (h:D cx R its ((d,g,.bool b)::fr) C L):D cx R ((i,k,o)::its) fr C L :=
  D.run _ hk hd hg (fun hG a hs w=>by
    rw [exec_binOp' hop,hs _ _ hx,hs _ _ hy,<- hb hG]
    simp only [Sem.run_bind,run_eqGuard_agg w .neq t x y _ _ (flatEq_guard ht),Result.andThen_ok,run_neq_struct,run_eq_flat ht hf he w,Sem.run_pure]) hp hwf h

theorem D.nilEq {t e ty:Nat}{x:Operand}{A:Option Addr}{m c:Nat}{ti:TI}(hk:Nat.ble k 1=true)(hd:o.dst=some d)(hop:o.op=.binOp .eql t x (.const (.slice none 0 0)) ty)(hg:gOf ds fr o.guard=some g)
    (hx:ev fr g x=some (.slice A m c)) (ht:cx.T.get t=some ti) (hte:ti.k=.slice e)
    (hp:aG n ds ((d,g,.bool A.isNone)::fr) d=true) (hwf:wfG ds fr g=true)
    (h:D cx R its ((d,g,.bool A.isNone)::fr) C L):D cx R ((i,k,o)::its) fr C L:=by
  have hu:cx.P.underlying t=some (.slice e):=by
    obtain ⟨kk,s1,b1,z1,g1⟩:=ti
    simp only at hte
    subst hte
    exact bx cx.hT ht
  refine D.run _ hk hd hg (fun _ a hs w=>?_) hp hwf h
  rw [bY hop (hs _ _ hx) rfl (fun _ _=>.inl (by simp)) (.inl (by simp)) w]
  simp only [binOp]
  simp only [Act.eval,Sem.run_bind,run_equal_slice_nil w t e A m c hu,Result.andThen_ok,Sem.run_pure]
theorem D.int {ki:IntKind}(c:Int){e:Int}(hk:Nat.ble k 1=true)(hd:o.dst=some d)(hg:gOf ds fr o.guard=some g)(hv:po cx.T (ev fr g) o.op=some (.int ki (ki.wrap e)))(he:ki.wrap e=c)
    (hp:aG n ds ((d,g,.int ki c)::fr) d=true) (hwf:wfG ds fr g=true)
    (h:D cx R its ((d,g,.int ki c)::fr) C L):D cx R ((i,k,o)::its) fr C L:=by
  subst he
  exact D.pure hk hd hg hv hp hwf h

theorem mk_append (a b:List UInt8):(⟨a.toArray⟩:ByteArray)++⟨b.toArray⟩=⟨(a++b).toArray⟩:=by
  apply ByteArray.ext
  simp [ByteArray.data_append]

theorem D.cg {t ty:Nat}{x y:Operand}{a b:List UInt8}(hk:Nat.ble k 1=true)(hd:o.dst=some d)(hop:o.op=.binOp .add t x y ty)(hg:gOf ds fr o.guard=some g)
    (hx:ev fr g x=some (.string ⟨a.toArray⟩)) (hy:ev fr g y=some (.string ⟨b.toArray⟩)) (hl:GT ds fr g->a.length+b.length<=9223372036854775807)
    (hp:aG n ds ((d,g,.string ⟨(a++b).toArray⟩)::fr) d=true) (hwf:wfG ds fr g=true)
    (h:D cx R its ((d,g,.string ⟨(a++b).toArray⟩)::fr) C L):D cx R ((i,k,o)::its) fr C L :=
  D.run _ hk hd hg (fun hG c hs w=>by
    rw [bY hop (hs _ _ hx) (hs _ _ hy) (fun _ _=>.inl (by simp)) (.inl (by simp)) w]
    have h1:=hl hG
    have h2:¬ (((⟨a.toArray⟩:ByteArray).size+(⟨b.toArray⟩:ByteArray).size:Nat):Int) > IntKind.i64.max:=by
      have e:IntKind.i64.max=9223372036854775807:=by decide
      rw [e];simp [ByteArray.size];omega
    simp only [binOp,Op.stringOp]
    rw [if_neg h2,mk_append]
    rfl) hp hwf h

theorem run_sliceBound {P:Program}{ki:IntKind}{m:Int}{y:Nat}{code:BoundsCode}(h0:0<=m)(h1:m<=y)(w:World):(Instr.sliceBound (.int ki m) y code).run P w=.ok m.toNat w:=by
  simp [Instr.sliceBound,asIntOf,h0,h1]

structure SlB (len cap:Nat)(lo hi mx:Option Value)(l h m:Nat):Prop where
  plo:(lo=none/\l=0)∨∃ k,lo=some (.int k l)
  phi:(hi=none/\h=len)∨∃ k,hi=some (.int k h)
  pmx:(mx=none/\m=cap)∨(∃ k,mx=some (.int k m))/\hi≠none
  lh:l<=h
  hm:h<=m
  mc:m<=cap

theorem dz {P:Program}{b:Bool}{len cap:Nat}{lo hi mx:Option Value}{l h m:Nat}(q:SlB len cap lo hi mx l h m)(w:World):(Instr.sliceBounds b len cap lo hi mx).run P w=.ok (l,h,m) w:=by
  obtain ⟨q1,q2,q3,q4,q5,q6⟩:=q
  unfold Instr.sliceBounds
  have hb:∀ (k:IntKind)(x y:Nat)(code:BoundsCode),x<=y->(Instr.sliceBound (.int k x) y code).run P w=.ok x w:=fun k x y code hxy=>by
    have:=run_sliceBound (P:=P) (ki:=k) (m:=(x:Int)) (y:=y) (code:=code) om_ om_ w
    simpa using this
  rcases q3 with ⟨rfl,rfl⟩ | ⟨⟨k3,rfl⟩,hne⟩
  · rcases q2 with ⟨rfl,rfl⟩ | ⟨k2,rfl⟩
    · rcases q1 with ⟨rfl,rfl⟩ | ⟨k1,rfl⟩
      · simp
      · simp [hb _ _ _ _ q4]
    · rcases q1 with ⟨rfl,rfl⟩ | ⟨k1,rfl⟩
      · simp [hb _ _ _ _ q5]
      · simp [hb _ _ _ _ q4,hb _ _ _ _ q5]
  · rcases q2 with ⟨rfl,rfl⟩ | ⟨k2,rfl⟩
    · exact absurd rfl hne
    · rcases q1 with ⟨rfl,rfl⟩ | ⟨k1,rfl⟩
      · simp [hb _ _ _ _ q5,hb _ _ _ _ q6]
      · simp [hb _ _ _ _ q4,hb _ _ _ _ q5,hb _ _ _ _ q6]

def optO (ρ:Operand->Option Value):Option Operand->Option (Option Value)
  | none=>some none
  | some x=>match ρ x with | some v=>some (some v) | none=>none
theorem cZ {ρ:Operand->Option Value}{ρ':Operand->Value}(hρ:∀ x v,ρ x=some v->ρ' x=v):∀ {x:Option Operand}{v:Option Value},optO ρ x=some v->x.map ρ'=v
  | none,v,h=>by simp [optO] at h;subst h;rfl
  | some x,v,h=>by
    simp only [optO] at h
    split at h
    · rename_i u hu;cases h;simp [hρ x u hu]
    · cases h

theorem D.dr (l h m:Nat){t e len cap size:Nat}{x:Operand}{lo hi mx:Option Operand}{lv hv mv:Option Value}{A:Option Addr}{ti te:TI}(hk:Nat.ble k 1=true)(hd:o.dst=some d)(hop:o.op=.slice t x lo hi mx)
    (hg:gOf ds fr o.guard=some g) (hx:ev fr g x=some (.slice A len cap)) (hlo:optO (ev fr g) lo=some lv) (hhi:optO (ev fr g) hi=some hv) (hmx:optO (ev fr g) mx=some mv)
    (ht:cx.T.get t=some ti) (hte:ti.k=.slice e) (he:cx.T.get e=some te) (hsz:te.size=size) (hq:GT ds fr g->SlB len cap lv hv mv l h m)
    (hp:aG n ds ((d,g,.slice (if m=l then A else A.map (·.add (l*size))) (h-l) (m-l))::fr) d=true) (hwf:wfG ds fr g=true)
    (hh:D cx R its ((d,g,.slice (if m=l then A else A.map (·.add (l*size))) (h-l) (m-l))::fr) C L):D cx R ((i,k,o)::its) fr C L:=by
  have hu:cx.P.underlying t=some (.slice e):=by
    obtain ⟨kk,s1,b1,z1,g1⟩:=ti
    simp only at hte
    subst hte
    exact bx cx.hT ht
  refine D.run _ hk hd hg (fun hG a hs w=>?_) hp hwf hh
  have e1:execOp a.eval o=(do Pure.pure (.value (<- Instr.sliceAt t (a.eval x) (lo.map a.eval) (hi.map a.eval) (mx.map a.eval))):Sem Next):=by unfold execOp;rw [hop]
  rw [e1,hs _ _ hx,cZ (fun x v hx=>hs x v hx) hlo,cZ (fun x v hx=>hs x v hx) hhi,cZ (fun x v hx=>hs x v hx) hmx]
  have h2:=cF cx.hT he w
  rw [hsz] at h2
  simp [Instr.sliceAt,Instr.slice,run_underlying hu,dz (hq hG),h2]

theorem Sl.sub {C:Mem}{k:Nat}{A:Option Addr}{len cap:Nat}{xs:List (List Value)}(hs:Sl C k (.slice A len cap) xs){l h m:Nat}(hl:l<=h)(hh:h<=xs.length)(hm:h<=m)(hc:m<=cap) :
    Sl C k (.slice (if m=l then A else A.map (·.add (l*k))) (h-l) (m-l)) ((xs.take h).drop l):=by
  obtain ⟨A',c,h1,h2,h3,h4,h5⟩:=hs
  cases h1
  refine ⟨if m=l then A else A.map (·.add (l*k)),m-l, ?_,by simp;omega,by omega,fun x hx=>h4 x (List.mem_of_mem_take (List.mem_of_mem_drop hx)),fun i x hi=>?_⟩
  · congr 1
    simp;omega
  · rw [List.getElem?_drop,List.getElem?_take] at hi
    split at hi
    · rename_i hlt
      obtain ⟨a,e1,e2,e3⟩:=h5 _ _ hi
      subst e1
      by_cases hml:m=l
      · omega
      · rw [if_neg hml]
        refine ⟨a.add (l*k),rfl,spot_add a _ e2,fun j v hj=>?_⟩
        rw [add_add a _ _ e2]
        have:=e3 j v hj
        have e:l*k+(i*k+j)=(l+i)*k+j:=by rw [Nat.add_mul];omega
        rw [e];exact this
    · cases hi

theorem D.bI {t e len:Nat}{x y:Operand}{ki:IntKind}{m:Int}{cs:List Value}{d':TypeDesc}{ti:TI}(hk:Nat.ble k 1=true)(hd:o.dst=some d)(hop:o.op=.index t x y)
    (hg:gOf ds fr o.guard=some g) (hx:ev fr g x=some (.agg ⟨cs⟩)) (hy:ev fr g y=some (.int ki m)) (ht:cx.T.get t=some ti) (hte:ti.k=.arr len e) (he:cx.P.underlying e=some d') (hpl:plainD d'=true) (hs1:(cx.P.info? e).map (·.size)=some 1)
    (h0:GT ds fr g->0<=m/\m<len/\cs[m.toNat]?=some v) (hp:aG n ds ((d,g,v)::fr) d=true) (hwf:wfG ds fr g=true)
    (h:D cx R its ((d,g,v)::fr) C L):D cx R ((i,k,o)::its) fr C L:=by
  have hu:cx.P.underlying t=some (.array len e):=by
    obtain ⟨kk,s1,b1,z1,g1⟩:=ti
    simp only at hte
    subst hte
    exact und_arr cx.hT ht
  refine D.run _ hk hd hg (fun hG a hs w=>?_) hp hwf h
  obtain ⟨h1,h2,h3⟩:=h0 hG
  have e1:execOp a.eval o=(do Pure.pure (.value (<- Instr.index t (a.eval x) (a.eval y))):Sem Next):=by unfold execOp;rw [hop]
  rw [e1,hs _ _ hx,hs _ _ hy]
  have hsz:(sizeOf e).run cx.P w=.ok 1 w:=by
    cases hi:cx.P.info? e with
    | none=>rw [hi] at hs1;cases hs1
    | some inf=>rw [hi] at hs1;simp at hs1;simp [sizeOf,typeInfo,hi,hs1]
  simp [Instr.index,asIntOf,run_underlying hu,h1,h2,hsz,run_part1 he hpl h3]

theorem D.bf {t:Nat}{x y:Operand}{ki:IntKind}{m:Int}{s:List UInt8}{b:UInt8}{ti:TI}(hk:Nat.ble k 1=true)(hd:o.dst=some d)(hop:o.op=.index t x y)
    (hg:gOf ds fr o.guard=some g) (hx:ev fr g x=some (.string ⟨s.toArray⟩)) (hy:ev fr g y=some (.int ki m)) (ht:cx.T.get t=some ti) (hte:ti.k=.str)
    (h0:GT ds fr g->0<=m/\s[m.toNat]?=some b) (hp:aG n ds ((d,g,.int .u8 b.toNat)::fr) d=true) (hwf:wfG ds fr g=true)
    (h:D cx R its ((d,g,.int .u8 b.toNat)::fr) C L):D cx R ((i,k,o)::its) fr C L:=by
  have hu:cx.P.underlying t=some .string:=by
    obtain ⟨kk,s1,b1,z1,g1⟩:=ti
    simp only at hte
    subst hte
    exact und_str cx.hT ht
  refine D.run _ hk hd hg (fun hG a hs w=>?_) hp hwf h
  obtain ⟨h1,h2⟩:=h0 hG
  have e1:execOp a.eval o=(do Pure.pure (.value (<- Instr.index t (a.eval x) (a.eval y))):Sem Next):=by unfold execOp;rw [hop]
  rw [e1,hs _ _ hx,hs _ _ hy]
  have hlt:m.toNat<s.length:=(List.getElem?_eq_some_iff.1 h2).1
  have h3:(⟨s.toArray⟩:ByteArray)[m.toNat]?=some b:=by
    rw [getElem?_pos _ _ (by simpa [ByteArray.size] using hlt)]
    have:=(List.getElem?_eq_some_iff.1 h2).2
    exact congrArg some this
  simp [Instr.index,asIntOf,run_underlying hu,h1,h3]

theorem D.bu (l h:Nat){t:Nat}{x:Operand}{lo hi:Option Operand}{lv hv:Option Value}{s:List UInt8}{ti:TI}(hk:Nat.ble k 1=true)(hd:o.dst=some d)(hop:o.op=.slice t x lo hi none)
    (hg:gOf ds fr o.guard=some g) (hx:ev fr g x=some (.string ⟨s.toArray⟩)) (hlo:optO (ev fr g) lo=some lv) (hhi:optO (ev fr g) hi=some hv)
    (ht:cx.T.get t=some ti) (hte:ti.k=.str) (hq:GT ds fr g->SlB s.length s.length lv hv none l h s.length)
    (hp:aG n ds ((d,g,.string ⟨((s.take h).drop l).toArray⟩)::fr) d=true) (hwf:wfG ds fr g=true)
    (hh:D cx R its ((d,g,.string ⟨((s.take h).drop l).toArray⟩)::fr) C L):D cx R ((i,k,o)::its) fr C L:=by
  have hu:cx.P.underlying t=some .string:=by
    obtain ⟨kk,s1,b1,z1,g1⟩:=ti
    simp only at hte
    subst hte
    exact und_str cx.hT ht
  refine D.run _ hk hd hg (fun hG a hs w=>?_) hp hwf hh
  have e1:execOp a.eval o=(do Pure.pure (.value (<- Instr.sliceAt t (a.eval x) (lo.map a.eval) (hi.map a.eval) none)):Sem Next):=by unfold execOp;rw [hop];rfl
  rw [e1,hs _ _ hx,cZ (fun x v hx=>hs x v hx) hlo,cZ (fun x v hx=>hs x v hx) hhi]
  have hb:=dz (P:=cx.P) (b:=false) (hq hG) w
  have hsz:(⟨s.toArray⟩:ByteArray).size=s.length:=by simp [ByteArray.size]
  have hex:(⟨s.toArray⟩:ByteArray).extract l h=⟨((s.take h).drop l).toArray⟩:=by
    apply ByteArray.ext
    simp [ByteArray.data_extract,List.drop_take]
  simp [Instr.sliceAt,Instr.slice,run_underlying hu,hsz,hb,hex]
end
end Go.Jog
