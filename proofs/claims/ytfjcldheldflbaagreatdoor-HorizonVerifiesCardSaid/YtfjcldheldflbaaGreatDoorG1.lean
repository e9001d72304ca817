import Derived.Deep.Quiet
import Derived.Maps.AppendAt
import Derived.WalkKit
import Derived.Lib.Strings
import Derived.Lib.ConvBytes
import Derived.Laws.Cover3
namespace Go.Jog
abbrev Z2 {T0 T1:Type _}(a0 b0:T0)(a1 b1:T1):Prop:=a0=b0/\a1=b1
theorem U2 {c d:Type _}{a:c}{b:d}:Z2 a a b b:=⟨rfl,rfl⟩
abbrev Z3 {T0 T1 T2:Type _}(a0 b0:T0)(a1 b1:T1)(a2 b2:T2):Prop:=a0=b0/\a1=b1/\a2=b2
theorem U3 {d e f:Type _}{a:d}{b:e}{c:f}:Z3 a a b b c c:=⟨rfl,rfl,rfl⟩
abbrev Z4 {T0 T1 T2 T3:Type _}(a0 b0:T0)(a1 b1:T1)(a2 b2:T2)(a3 b3:T3):Prop:=a0=b0/\a1=b1/\a2=b2/\a3=b3
theorem U4 {e f g h:Type _}{a:e}{b:f}{c:g}{d:h}:Z4 a a b b c c d d:=⟨rfl,rfl,rfl,rfl⟩
abbrev Z5 {T0 T1 T2 T3 T4:Type _}(a0 b0:T0)(a1 b1:T1)(a2 b2:T2)(a3 b3:T3)(a4 b4:T4):Prop:=a0=b0/\a1=b1/\a2=b2/\a3=b3/\a4=b4
theorem U5 {f g h i j:Type _}{a:f}{b:g}{c:h}{d:i}{e:j}:Z5 a a b b c c d d e e:=⟨rfl,rfl,rfl,rfl,rfl⟩
abbrev Z6 {T0 T1 T2 T3 T4 T5:Type _}(a0 b0:T0)(a1 b1:T1)(a2 b2:T2)(a3 b3:T3)(a4 b4:T4)(a5 b5:T5):Prop:=a0=b0/\a1=b1/\a2=b2/\a3=b3/\a4=b4/\a5=b5
theorem U6 {g h i j k l:Type _}{a:g}{b:h}{c:i}{d:j}{e:k}{f:l}:Z6 a a b b c c d d e e f f:=⟨rfl,rfl,rfl,rfl,rfl,rfl⟩
abbrev Z7 {T0 T1 T2 T3 T4 T5 T6:Type _}(a0 b0:T0)(a1 b1:T1)(a2 b2:T2)(a3 b3:T3)(a4 b4:T4)(a5 b5:T5)(a6 b6:T6):Prop:=a0=b0/\a1=b1/\a2=b2/\a3=b3/\a4=b4/\a5=b5/\a6=b6
theorem U7 {h i j k l m n:Type _}{a:h}{b:i}{c:j}{d:k}{e:l}{f:m}{g:n}:Z7 a a b b c c d d e e f f g g:=⟨rfl,rfl,rfl,rfl,rfl,rfl,rfl⟩
abbrev Z8 {T0 T1 T2 T3 T4 T5 T6 T7:Type _}(a0 b0:T0)(a1 b1:T1)(a2 b2:T2)(a3 b3:T3)(a4 b4:T4)(a5 b5:T5)(a6 b6:T6)(a7 b7:T7):Prop:=a0=b0/\a1=b1/\a2=b2/\a3=b3/\a4=b4/\a5=b5/\a6=b6/\a7=b7
theorem U8 {i j k l m n o p:Type _}{a:i}{b:j}{c:k}{d:l}{e:m}{f:n}{g:o}{h:p}:Z8 a a b b c c d d e e f f g g h h:=⟨rfl,rfl,rfl,rfl,rfl,rfl,rfl,rfl⟩
abbrev Z9 {T0 T1 T2 T3 T4 T5 T6 T7 T8:Type _}(a0 b0:T0)(a1 b1:T1)(a2 b2:T2)(a3 b3:T3)(a4 b4:T4)(a5 b5:T5)(a6 b6:T6)(a7 b7:T7)(a8 b8:T8):Prop:=a0=b0/\a1=b1/\a2=b2/\a3=b3/\a4=b4/\a5=b5/\a6=b6/\a7=b7/\a8=b8
theorem U9 {j k l m n o p q r:Type _}{a:j}{b:k}{c:l}{d:m}{e:n}{f:o}{g:p}{h:q}{i:r}:Z9 a a b b c c d d e e f f g g h h i i:=⟨rfl,rfl,rfl,rfl,rfl,rfl,rfl,rfl,rfl⟩
abbrev Z10 {T0 T1 T2 T3 T4 T5 T6 T7 T8 T9:Type _}(a0 b0:T0)(a1 b1:T1)(a2 b2:T2)(a3 b3:T3)(a4 b4:T4)(a5 b5:T5)(a6 b6:T6)(a7 b7:T7)(a8 b8:T8)(a9 b9:T9):Prop:=a0=b0/\a1=b1/\a2=b2/\a3=b3/\a4=b4/\a5=b5/\a6=b6/\a7=b7/\a8=b8/\a9=b9
theorem U10 {k l m n o p q r s t:Type _}{a:k}{b:l}{c:m}{d:n}{e:o}{f:p}{g:q}{h:r}{i:s}{j:t}:Z10 a a b b c c d d e e f f g g h h i i j j:=⟨rfl,rfl,rfl,rfl,rfl,rfl,rfl,rfl,rfl,rfl⟩
abbrev Z11 {T0 T1 T2 T3 T4 T5 T6 T7 T8 T9 T10:Type _}(a0 b0:T0)(a1 b1:T1)(a2 b2:T2)(a3 b3:T3)(a4 b4:T4)(a5 b5:T5)(a6 b6:T6)(a7 b7:T7)(a8 b8:T8)(a9 b9:T9)(a10 b10:T10):Prop:=a0=b0/\a1=b1/\a2=b2/\a3=b3/\a4=b4/\a5=b5/\a6=b6/\a7=b7/\a8=b8/\a9=b9/\a10=b10
theorem U11 {l m n o p q r s t u v:Type _}{a:l}{b:m}{c:n}{d:o}{e:p}{f:q}{g:r}{h:s}{i:t}{j:u}{k:v}:Z11 a a b b c c d d e e f f g g h h i i j j k k:=⟨rfl,rfl,rfl,rfl,rfl,rfl,rfl,rfl,rfl,rfl,rfl⟩
abbrev Z12 {T0 T1 T2 T3 T4 T5 T6 T7 T8 T9 T10 T11:Type _}(a0 b0:T0)(a1 b1:T1)(a2 b2:T2)(a3 b3:T3)(a4 b4:T4)(a5 b5:T5)(a6 b6:T6)(a7 b7:T7)(a8 b8:T8)(a9 b9:T9)(a10 b10:T10)(a11 b11:T11):Prop:=a0=b0/\a1=b1/\a2=b2/\a3=b3/\a4=b4/\a5=b5/\a6=b6/\a7=b7/\a8=b8/\a9=b9/\a10=b10/\a11=b11
theorem U12 {m n o p q r s t u v w x:Type _}{a:m}{b:n}{c:o}{d:p}{e:q}{f:r}{g:s}{h:t}{i:u}{j:v}{k:w}{l:x}:Z12 a a b b c c d d e e f f g g h h i i j j k k l l:=⟨rfl,rfl,rfl,rfl,rfl,rfl,rfl,rfl,rfl,rfl,rfl,rfl⟩
theorem dc_ {p:Prop}(h:p:=by decide):p:=h
abbrev aj:=@List.getElem?_eq_getElem
abbrev al:=@List.getD_eq_getElem?_getD
abbrev ar:=@List.length_map
abbrev aF:=@if_neg
abbrev aK:=@List.mem_of_getElem?
abbrev aL:=@if_pos
abbrev aT:=@of_decide_eq_true
abbrev R0:=@List.getElem?_eq_some_iff
abbrev SH:=@Nat.le_refl
abbrev SI:=@List.getElem?_map
abbrev SJ:=@of_decide_eq_false
abbrev SK:=@List.mem_cons_self
abbrev SL:=@List.mem_map
abbrev SM:=@Nat.zero_le
abbrev SN:=@List.length_singleton
abbrev SP:=@List.length_append
abbrev SQ:=@List.Perm.refl
abbrev SR:=@List.getElem?_eq_none
abbrev SS:=@decide_eq_true_eq
abbrev SU:=@List.take_length
abbrev SV:=@Nat.le_trans
abbrev SX:=@List.mem_cons_of_mem
abbrev SY:=@List.mem_cons
abbrev SZ:=@List.mem_append
abbrev S1:=@Bool.and_eq_true
abbrev S2:=@List.length_take
abbrev S3:=@List.all_eq_true
abbrev S4:=@decide_eq_true
abbrev S5:=@List.length_cons
abbrev S6:=@List.mem_singleton
abbrev S7:=@List.mem_range
abbrev S8:=@List.append_nil
abbrev S9:=@List.take_add_one
abbrev Ta:=@List.flatten_append
abbrev Tb:=@Nat.pow_le_pow_right
abbrev Tc:=@Int.natCast_mul
abbrev Td:=@List.take_of_length_le
abbrev Te:=@decide_eq_false
abbrev Tf:=@List.length_replicate
abbrev Tg:=@List.drop_eq_getElem_cons
abbrev Th:=@Nat.lt_or_ge
abbrev Ti:=@Classical.byContradiction
abbrev Tj:=@List.getElem?_append_right
abbrev Tk:=@decide_eq_false_iff_not
abbrev Tl:=@List.getElem?_range
abbrev Tm:=@List.map_append
abbrev Tn:=@List.append_assoc
abbrev To:=@Nat.mul_le_mul_right
abbrev Tp:=@List.length_nil
abbrev Tq:=@List.map_cons
abbrev Tr:=@Nat.eq_of_beq_eq_true
abbrev Ts:=@Nat.mod_lt
abbrev Tt:=@Nat.mul_comm
abbrev Tu:=@Int.natAbs_natCast
abbrev Tv:=@Option.some.injEq
abbrev Tw:=@List.length_pos_iff
abbrev Tx:=@decide_eq_decide
abbrev Ty:=@List.eq_nil_of_length_eq_zero
abbrev Tz:=@List.getElem?_append_left
abbrev TA:=@List.getElem?_take
abbrev TB:=@List.length_set
abbrev TC:=@List.getElem_mem
abbrev TD:=@Nat.lt_of_le_of_lt
abbrev TE:=@List.take_append_drop
abbrev TF:=@Rat.intCast_mul
abbrev TG:=@Bool.false_eq_true
abbrev TH:=@List.map_map
abbrev TJ:=@Nat.min_eq_left
abbrev TL:=@Nat.lt_of_lt_of_le
abbrev TM:=@Array.getD_eq_getD_getElem?
abbrev TN:=@List.replicate_succ
abbrev TO:=@List.length_range
abbrev TP:=@List.mem_of_mem_take
abbrev TQ:=@List.not_mem_nil
abbrev TR:=@List.perm_append_comm
abbrev TS:=@Nat.div_le_self
abbrev TT:=@Nat.mul_add
abbrev TU:=@List.drop_zero
abbrev TV:=@List.flatten_cons
abbrev TW:=@List.pairwise_cons
abbrev TX:=@Nat.zero_add
abbrev TY:=@Nat.eq_zero_or_pos
abbrev TZ:=@List.drop_length
abbrev T0:=@Nat.mul_one
abbrev T1:=@List.range_succ
abbrev T2:=@Nat.mul_le_mul
abbrev T3:=@Nat.pow_succ
abbrev T4:=@List.getElem?_replicate
abbrev T5:=@List.mem_or_eq_of_mem_set
abbrev T6:=@Option.getD_some
abbrev T7:=@Option.toList_some
abbrev T8:=@Int.natAbs_mul
abbrev T9:=@List.getElem?_toArray
abbrev Ua:=@Nat.mul_le_mul_left
abbrev Ub:=@Nat.mul_lt_mul''
abbrev Uc:=@List.filter_append
abbrev Ud:=@Nat.add_sub_cancel_left
abbrev Ue:=@Option.some.inj
abbrev Uf:=@List.mem_filter
abbrev Ug:=@Nat.add_mul
abbrev Uh:=@List.getElem?_of_mem
abbrev Ui:=@if_false
abbrev Uj:=@List.eq_of_mem_replicate
abbrev Uk:=@Option.map_some
abbrev Ul:=@List.length_filter_le
abbrev Um:=@Nat.add_zero
abbrev Un:=@List.nodup_append
abbrev Uo:=@beq_iff_eq
abbrev Up:=@Bool.or_eq_false_iff
abbrev Uq:=@List.drop_eq_nil_of_le
abbrev Ur:=@Nat.mul_assoc
abbrev Us:=@List.map_toArray
abbrev Ut:=@List.map_nil
abbrev Uu:=@List.size_toArray
abbrev Uv:=@Int.natCast_dvd_natCast
abbrev Uw:=@List.getElem?_cons_succ
abbrev Ux:=@cond_true
abbrev Uy:=@List.mem_append_left
abbrev Uz:=@Array.ext'
abbrev UA:=@List.cons_append
abbrev UB:=@beq_eq_false_iff_ne
abbrev UC:=@Nat.ble_eq
abbrev UD:=@Int.toNat_natCast
abbrev UE:=@List.mem_append_right
abbrev UF:=@Nat.div_lt_iff_lt_mul
abbrev UG:=@Bool.or_eq_true
abbrev UH:=@Nat.pos_of_ne_zero
abbrev UI:=@List.length_drop
abbrev UJ:=@Array.getElem?_eq_some_iff
abbrev UK:=@if_true
abbrev UL:=@Int.natAbs_ediv_of_dvd
abbrev UM:=@List.nil_append
abbrev UN:=@Nat.div_eq_of_lt
abbrev UO:=@Nat.gcd_comm
abbrev UP:=@Nat.lt_trans
abbrev UQ:=@Nat.add_assoc
abbrev UR:=@List.map_take
abbrev US:=@List.mem_map_of_mem
abbrev UT:=@Nat.add_comm
abbrev UU:=@Nat.one_mul
abbrev UV:=@Nat.pow_add
abbrev UW:=@Prod.mk.injEq
abbrev UX:=@Nat.add_sub_cancel
abbrev UY:=@List.getLast?_eq_getElem?
abbrev UZ:=@Nat.le_succ
abbrev Va:=@Nat.mul_pos
abbrev Vb:=@List.mem_of_mem_drop
abbrev Vc:=@Rat.intCast_sub
abbrev Vd:=@Int.mul_le_mul_of_nonneg_right
abbrev Ve:=@Nat.gcd_pos_of_pos_right
abbrev Vf:=@or_false
abbrev Vg:=@Bool.not_eq_true'
abbrev Vh:=@Int.natAbs_add_le
abbrev Vi:=@List.all_eq_false
abbrev Vj:=@Rat.mul_le_mul_of_nonneg_left
abbrev Vk:=@Nat.le_mul_of_pos_right
abbrev Vl:=@List.any_eq_true
abbrev Vm:=@List.isEmpty_iff
abbrev Vn:=@Nat.mod_eq_of_lt
abbrev Vo:=@Int.dvd_natAbs
abbrev Vp:=@Nat.pow_pos
abbrev Vq:=@List.getElem?_set_self
abbrev Vr:=@List.map_replicate
abbrev Vs:=@Nat.gcd_zero_right
abbrev Vt:=@Nat.div_add_mod
abbrev Vu:=@Classical.choose_spec
abbrev Vv:=@List.cons.injEq
abbrev Vw:=@Int.natCast_add
abbrev Vx:=@Array.getElem?_modify
abbrev Vy:=@Int.natAbs_tmod
abbrev Vz:=@Rat.num_eq_zero
abbrev VA:=@Int.tdiv_eq_ediv_of_nonneg
abbrev VB:=@Nat.div_lt_of_lt_mul
abbrev VC:=@List.getElem?_set_ne
abbrev VD:=@List.take_take
abbrev VE:=@List.drop_append
abbrev VF:=@Nat.gcd_dvd_left
abbrev VG:=@Nat.sub_self
abbrev VH:=@List.foldl_cons
abbrev VI:=@List.drop_of_length_le
abbrev VJ:=@Nat.gcd_dvd_right
abbrev VK:=@Nat.sub_zero
abbrev VL:=@Int.natAbs_neg
abbrev VM:=@Nat.add_mul_div_left
abbrev VN:=@Bool.and_eq_true_iff
abbrev VO:=@Bool.true_and
abbrev VP:=@Array.length_toList
abbrev VQ:=@UInt8.toNat_inj
abbrev VR:=@Nat.mod_add_div
abbrev VS:=@Rat.intCast_add
abbrev VT:=@Option.isSome_iff_exists
abbrev VU:=@Nat.le_of_lt
abbrev VV:=@Int.le_trans
abbrev VW:=@Rat.sub_eq_add_neg
abbrev VX:=@List.length_eq_zero_iff
abbrev VY:=@Array.getElem?_eq_none
abbrev VZ:=@List.append_eq_nil_iff
abbrev V0:=@Int.mul_add
abbrev V1:=@Nat.gcd_rec
abbrev V2:=@Rat.neg_num
abbrev V3:=@Prod.mk.inj
abbrev V4:=@Nat.le_of_dvd
abbrev V5:=@List.contains_iff_mem
abbrev V6:=@ByteArray.data_append
abbrev V7:=@Bool.and_eq_false_iff
abbrev V8:=@Array.getElem?_setIfInBounds_ne
abbrev V9:=@List.pairwise_append
abbrev Wa:=@Nat.blt_eq
abbrev Wb:=@Nat.beq_refl
abbrev Wc:=@List.range_eq_range'
abbrev Wd:=@Int.emod_nonneg
abbrev We:=@Array.size_replicate
abbrev Wf:=@List.nodup_cons
abbrev Wg:=@Array.replicate_succ
abbrev Wi:=@Array.replicate_zero
abbrev Wj:=@Bool.eq_iff_iff
abbrev Wk:=@List.all_append
abbrev Wm:=@Rat.mul_comm
abbrev Wn:=@and_true
abbrev Wo:=@Int.natCast_nonneg
abbrev Wp:=@Nat.mul_left_comm
abbrev Wq:=@List.range'_succ
abbrev Wr:=@Nat.mul_zero
theorem U {A:Sort _}{a:A}:a=a:=rfl
end Go.Jog
variable {p:Prop}
namespace Go.Jog
open Go
theorem ac {A:Type _}{a b c e:A}{l:List A}:a∈b::c::e::a::l:=.tail _ (.tail _ (.tail _ (.head _)))
theorem ae {A:Type _}{a b c:A}{l:List A}:a∈b::c::a::l:=.tail _ (.tail _ (.head _))
theorem af {A:Type _}{a b:A}{l:List A}:a∈b::a::l:=.tail _ (.head _)
theorem ah {A:Type _}{a:A}{l:List A}:a∈a::l:=.head _
theorem am {p:Prop}(h:p:=by simp):p:=h
theorem ap {p:Prop}(h:p:=by simp;omega):p:=h
theorem aq {p:Prop}(h:p:=by decide +kernel):p:=h
theorem ay {p:Prop}(h:p:=by simp only[SN,maxLen];omega):p:=h
end Go.Jog
theorem Go.Jog.om_ (h:p:=by omega):p:=h
theorem Go.Jog.kr_ (h:p:=by kernel_rfl):p:=h
theorem Go.Jog.fl_ (h:p:=by intro _;rfl):p:=h
namespace Go.Jog
open Go
section
variable {P:Program} {ops:Array Oper} {ι:Type} {cls:ι->World->Prop} {le:ι->ι->Prop}
def QN (N:Act->World->Prop):Exit->Act->World->Prop
|.normal,a,w=>N a w
|_,_,_=>False
theorem Gm {Q l:Exit->Act->World->Prop}{i:Nat}{K:Act->World->Prop}{a:Act}{w:World}
    (b:∀e a w,(∀(_:e=.normal),False)->¬ Q e a w) (h:wpOp P ops Q i K a w):wpOp P ops l i K a w:=by
  have k:¬ LetsOut Q:=λ⟨a,w,h⟩=>b .outgrown a w (λe=>by cases e) h;unfold wpOp at *;split
  . rename_i d;simp only[d]at h;exact h
  rename_i o d;simp only[d]at h;split
  . rename_i g;simp only[g,UK]at h;rcases h with h|⟨_,h⟩
    . refine .inl ?_;unfold Oper.wp at *;generalize (execOp a.eval o).run P w=r at *;cases r with
     |ok n w' =>
        cases n <;> simp only[Oper.upon]at h⊢ <;> try exact h
        case enter f args =>
          refine Calls.mono h λe m j=>?_;cases e with
         |returned u=>exact j
         |panicked c=>exact absurd j (b _ _ _ (λe=>by cases e))
         |outgrown=>exact absurd j k
     |halt x w' =>
        cases x <;> simp only[Oper.upon]at h⊢
        case panic u=>exact absurd h (b _ _ _ (λe=>by cases e))
    exact absurd h k
  rename_i g;simp only[g]at h;exact h
theorem Gn {Q:Exit->Act->World->Prop}{N:Act->World->Prop}{c:Region.Mode}(b:∀a w,N a w->Q .normal a w) :
  ∀(f:Nat)(d:Array Bool)(a:Act)(w:World),wpAny P c ops (QN N) f d a w->wpAny P c ops Q f d a w
|0,_,_,_,h=>⟨h.1,b _ _ h.2⟩
|f+1,_,_,_,h=>⟨λh0=>b _ _ (h.1 h0),λi g =>
   wpOp_mono (λj w' k=>Gn b f _ j w' k) (Gm (Q:=QN N) (λe a w l h=>by cases e <;> first|exact l rfl|exact h) (h.2 i g))⟩
theorem Gj {Q:Exit->Act->World->Prop}{N:Act->World->Prop}(b:∀a w,N a w->Q .normal a w) :
  ∀(l:List Nat)(a:Act)(w:World),wpOps P ops (QN N) l a w->wpOps P ops Q l a w
|[],_,_,h=>b _ _ h
|i::l,a,w,h=>by
  rw[wpOps_cons] at *;exact wpOp_mono (λc w' d=>Gj b l c w' d) (Gm (Q:=QN N) (λe a w f h=>by cases e <;> first|exact f U|exact h) h)
def gV (P:Program)(ops:Array Oper)(cls:ι->World->Prop)(le:ι->ι->Prop)(kd i:Nat)(K:Act->ι->Prop)(a:Act)(κ:ι):Prop :=
 match ops[i]? with
|none=>False
|some o =>
  if kd<=1 then ∃v,(∀κ',(kd=1->le κ κ')->YieldsIn P ops (cls κ') o v a)/\K (a.put o.dst v) κ
  else ∀w,cls κ w->wpOp P ops (QN λ_ _=>False) i (λa' w'=>∃κ',(kd=2->le κ κ')/\cls κ' w'/\K a' κ') a w
theorem jU {e i:Nat}{K f:Act->ι->Prop}{a:Act}{b:ι}(g:∀a b,K a b->f a b)(h:gV P ops cls le e i K a b):gV P ops cls le e i f a b:=by
 unfold gV at *;split
 .rename_i c;simp only[c]at h
 rename_i o c;simp only[c]at h;split
 .rename_i d;simp only[d,UK]at h;obtain⟨v,h1,h2⟩:=h;exact⟨v,h1,g _ _ h2⟩
 rename_i d;simp only[d,Ui]at h;exact λw j=>wpOp_mono (λl w' ⟨k,h1,h2,h3⟩=>⟨k,h1,h2,g _ _ h3⟩) (h w j)
theorem lQ (g:∀κ,le κ κ){j i:Nat}{K:Act->ι->Prop}{c:Act->World->Prop}{Q:Exit->Act->World->Prop}{a:Act}{κ:ι}{w:World}(d:cls κ w)
  (f:∀a κ w,K a κ->cls κ w->c a w) (h:gV P ops cls le j i K a κ):wpOp P ops Q i c a w:=by
 unfold gV at h;cases b:ops[i]? with
|none=>simp only[b]at h
|some o =>
  simp only[b]at h;split at h
  .obtain⟨v,h1,h2⟩:=h;exact wpOp_of_qOp (K:=λa=>K a κ) d (λa w' k l=>f _ _ _ l k) (YieldsIn.qOp b (h1 κ (λ_=>g κ)) h2)
  exact Gm (Q:=QN λ_ _=>False) (λe a w m h=>by cases e <;> exact h) (wpOp_mono (λn w' ⟨p,_,h2,h3⟩=>f _ _ _ h3 h2) (h w d))
variable {md:Region.Mode}
def lR (P:Program)(md:Region.Mode)(ops:Array Oper)(cls:ι->World->Prop)(le:ι->ι->Prop)(kd:Nat->Nat)(Post:Act->ι->Prop):Nat->Array Bool->Act->ι->Prop
|0,listed,a,κ=>Region.ready md ops listed=[]/\Post a κ
|f+1,listed,a,κ=>(Region.ready md ops listed=[]->Post a κ) /\
   ∀i∈Region.ready md ops listed,gV P ops cls le (kd i) i (lR P md ops cls le kd Post f (listed.setIfInBounds i true)) a κ
theorem jT (d:∀κ,le κ κ){j:Nat->Nat}{e:Act->ι->Prop}{N:Act->World->Prop}(c:∀a κ w,e a κ->cls κ w->N a w) :
  ∀(f:Nat)(g:Array Bool)(a:Act)(κ:ι)(w:World),cls κ w->lR P md ops cls le j e f g a κ->wpAny P md ops (QN N) f g a w
|0,_,_,_,_,b,h=>⟨h.1,c _ _ _ h.2 b⟩
|f+1,_,_,_,_,b,h=>⟨λh0=>c _ _ _ (h.1 h0) b,λi k =>
   lQ d b (λl m w' n o=>jT d c f _ l m w' o n) (h.2 i k)⟩
def lS (md:Region.Mode)(ops:Array Oper):Nat->Nat->Nat->Bool
|0,_,_=>false
|f+1,j,i=>match ops[j]? with
 |some oj=>oj.after.any λe=>Region.binds md e && (e.on == i || lS md ops f e.on i)
 |none=>false
def Closed (md:Region.Mode)(ops:Array Oper)(listed:Array Bool):Prop :=
 ∀j oj,ops[j]?=some oj->listed.getD j false=true->∀e∈oj.after,Region.binds md e=true->listed.getD e.on false=true
theorem je {a:Array Bool}(g:Closed md ops a){i:Nat}:∀(f j:Nat)(b:Oper),ops[j]?=some b ->
  (∀e∈b.after,Region.binds md e=true->a.getD e.on false=true)->lS md ops f j i=true->a.getD i false=true
|0,_,_,_,_,h=>by simp[lS]at h
|f+1,j,b,l,m,h=>by
  simp only[lS,l]at h;obtain⟨e,n,c⟩:=Array.any_eq_true'.1 h;simp only[S1,UG,Uo]at c;have h1:=m e n c.1;rcases c.2 with h2|h2
  .rw[<- h2];exact h1
  cases d:ops[e.on]? with
 |none =>
   cases f with
  |zero=>simp[lS]at h2
  |succ f=>simp[lS,d]at h2
 |some k=>exact je g f e.on k d (g e.on k d h1) h2
theorem Pr {a:Array Bool}{i:Nat}(h:a.getD i true=false):a.getD i false=false:=by
 rcases Th i a.size with b|b
 .simp[b]at h⊢;exact h
 simp[VY b]at h
theorem Closed.set {a:Array Bool}(k:Closed md ops a){i:Nat}(l:i∈Region.ready md ops a):Closed md ops (a.setIfInBounds i true):=by
 obtain⟨_,m,n,o⟩:=mem_ready.1 l;intro j b c d e f g;by_cases h:i=j
 .subst h;obtain rfl:b=m:=Ue (c.symm.trans n);exact getD_set_true (o e f g)
 rw[getD_set_ne false h]at d;exact getD_set_true (k j b c d e f g)
theorem G7 {o:Oper}{C:World->Prop}{v:Value}{a b:Act}(h:YieldsIn P ops C o v a)(c:b.tmps=a.tmps):YieldsIn P ops C o v b:=by
 have d:b.eval=a.eval:=by funext x;cases x <;> simp[Act.eval,c]
 exact h.of_same (by rw[d]) (by rw[c])
theorem Gk {j:Nat}{i g:Oper}{v:Value}(o:ops[j]?=some g)(p:i.apart ops g=true)
    (q:∀cs b,g.op≠.select cs b) {K:Act->World->Prop} {a:Act} {w:World}
    (h:wpOp P ops (QN λ_ _=>False) j K (a.put i.dst v) w) :
    wpOp P ops (QN λ_ _=>False) j (λm w'=>(∃u,m.tmps=(a.put g.dst u).tmps)/\K (m.put i.dst v) w') a w:=by
  obtain⟨h1,h2,h3⟩:=Oper.apart_spec p;unfold wpOp at *;simp only[o] at *;rw[wanted_put g a i.dst v h1]at h;split
  . rename_i l;simp only[l,UK]at h;rcases h with h|⟨_,s⟩
    . refine .inl ?_;unfold Oper.wp at *;rw[execOp_put g q a i.dst v h1]at h;generalize (execOp a.eval g).run P w=r at *;cases r with
     |ok n w' =>
        cases n <;> simp only[Oper.upon]at h⊢
        case value u=>exact⟨⟨u,rfl⟩,by rw[<- Act.put_comm a v u h2];exact h⟩
        case skip=>exact⟨⟨undef,rfl⟩,by rw[<- Act.put_comm a v undef h2];exact h⟩
        case defer d =>
          refine⟨⟨undef,by cases g.dst <;> rfl⟩, ?_⟩;rw[<- Act.put_comm _ v undef h2,<- Act.put_defers];exact h
        case enter f args =>
          refine Calls.mono h λe t k=>?_;cases e with
         |returned u=>exact⟨⟨u,rfl⟩,by rw[<- Act.put_comm a v u h2];exact k⟩
         |panicked c=>exact k
         |outgrown=>exact k
        case row row args=>exact Rows.mono h λu t k=>⟨⟨u,rfl⟩,by rw[<- Act.put_comm a v u h2];exact k⟩
     |halt x w' =>
        cases x <;> simp only[Oper.upon]at h⊢
        case panic u=>exact h
    obtain⟨_,_,h⟩:=s;exact h.elim
  rename_i l;simp only[l]at h;exact⟨⟨undef,U⟩,by rw[<- Act.put_comm a v undef h2];exact h⟩
theorem EG (y:∀a b c,le a b->le b c->le a c){k l j:Nat}{e f:Oper}{v:Value}(r:ops[j]?=some f)(s:e.apart ops f=true)(F:k=0∨l<=2)
  (z:∀cs b,e.op≠.select cs b) (t:∀cs b,f.op≠.select cs b) {K:Act->ι->Prop} {a:Act} {m:ι}
  (A:∀d,(k=1->le m d)->YieldsIn P ops (cls d) e v a) (h:gV P ops cls le l j K (a.put e.dst v) m) :
  gV P ops cls le l j (λg d=>(∀n,(k=1->le d n)->YieldsIn P ops (cls n) e v g)/\K (g.put e.dst v) d) a m:=by
 obtain⟨h1,h2,h3⟩:=Oper.apart_spec s;have keep:∀(g:Act) u,g.tmps=(a.put f.dst u).tmps->∀d,(k=1->le m d)->YieldsIn P ops (cls d) e v g:=λg u ht d i =>
  G7 ((A d i).of_same (execOp_put e z a f.dst u h3) (wanted_put e a f.dst u h3)) ht
 unfold gV at *;simp only[r]at h⊢;split
 .rename_i o;simp only[o,UK]at h;obtain⟨u,p,q⟩:=h;refine⟨u,λd i=>?_,keep _ u U,by rw[<- Act.put_comm a v u h2];exact q⟩;have:=p d i;exact this.of_same (execOp_put f t a e.dst v h1).symm (wanted_put f a e.dst v h1).symm
 rename_i o;simp only[o,Ui]at h;intro w B;refine wpOp_mono (λg w' ⟨⟨u,p⟩,d,x,C,q⟩=>⟨d,x,C,λn i=>?_,q⟩) (Gk r s t (h w B));refine keep g u p n (λD=>?_);have E:l=2:=by omega
 exact y _ _ _ (x E) (i D)
theorem oA (C:∀a b c,le a b->le b c->le a c){d:Nat->Nat}{r:Act->ι->Prop}{i F:Nat}{e:Oper}{v:Value}(s:ops[i]?=some e)(D:d i<=1)
    (t:∀(j:Nat)(o:Oper) cs b,ops[j]?=some o->o.op≠.select cs b) :
    ∀(f:Nat)(g:Array Bool)(a:Act)(κ:ι),Closed md ops g ->
      (∀j m,ops[j]?=some m->j≠i->g.getD j true=false->lS md ops F j i=true∨(e.apart ops m=true/\(d i=0∨d j<=2))) ->
      i∈Region.ready md ops g->(∀n,(d i=1->le κ n)->YieldsIn P ops (cls n) e v a) ->
      lR P md ops cls le d r f (g.setIfInBounds i true) (a.put e.dst v) κ->lR P md ops cls le d r (f+1) g a κ:=by
  intro f;have u:∀(K:Act->ι->Prop)(a:Act)(κ:ι),(∀n,(d i=1->le κ n)->YieldsIn P ops (cls n) e v a)->K (a.put e.dst v) κ->gV P ops cls le (d i) i K a κ:=λK a κ hy E=>by
    unfold gV;simp only[s,D,UK];exact⟨v,hy,E⟩
  induction f with
 |zero =>
    intro g a κ _ _ hr hy H;refine⟨λh=>(by rw[h]at hr;cases hr),λj p=>?_⟩;by_cases l:j=i
    . subst l;exact u _ _ _ hy H
    have:=ready_mono p l;rw[H.1]at this;cases this
 |succ f G =>
    intro g a κ w x hr hy H;refine⟨λh=>(by rw[h]at hr;cases hr),λj p=>?_⟩;by_cases l:j=i
    . subst l;exact u _ _ _ hy H
    have h1:=H.2 j (ready_mono p l);obtain⟨y,m,q,I⟩:=mem_ready.1 p;have J:=(mem_ready.1 hr).1;have z:e.apart ops m=true/\(d i=0∨d j<=2):=by
      rcases x j m q l y with h|h
      . have:=je w F j m q I h;rw[Pr J]at this;cases this
      exact h
    have h2:=EG C q z.1 z.2 (λcs b=>t i e cs b s) (λcs b=>t j m cs b q) hy h1;refine jU (λL n h3=>G (g.setIfInBounds j true) L n (w.set p) (λk ok M N A=>?_) (ready_mono hr (Ne.symm l)) h3.1 ?_) h2
    . refine x k ok M N ?_;by_cases B:j=k
      . subst B;exact y
      rw[getD_set_ne true B]at A;exact A
    rw[Array.setIfInBounds_comm _ _ l];exact h3.2
def DU (P:Program)(ops:Array Oper)(cls:ι->World->Prop)(le:ι->ι->Prop)(kd:Nat->Nat)(Post:Act->ι->Prop):List Nat->Act->ι->Prop
|[],a,κ=>Post a κ
|i::π,a,κ=>gV P ops cls le (kd i) i (DU P ops cls le kd Post π) a κ
def LN (md:Region.Mode)(ops:Array Oper)(kd:Nat->Nat)(listed:Array Bool)(i:Nat):Bool :=
 match ops[i]? with
|none=>false
|some oi=>(List.range ops.size).all λj=>j == i || listed.getD j true || match ops[j]? with
  |some oj=>(oi.apart ops oj && (kd i == 0 || Nat.ble (kd j) 2)) || lS md ops ops.size j i
  |none=>true
def N9 (md:Region.Mode)(ops:Array Oper)(kd:Nat->Nat):List Nat->Array Bool->Bool
|[],listed=>(Region.ready md ops listed).isEmpty
|i::π,listed=>(bif Nat.ble (kd i) 1 then (Region.ready md ops listed).contains i && LN md ops kd listed i else (Region.ready md ops listed == [i])) && N9 md ops kd π (listed.setIfInBounds i true)
theorem jk (p:∀a b c,le a b->le b c->le a c){e:Nat->Nat}{t:Act->ι->Prop}(q:Region.noSelect ops=true) :
    ∀(f:List Nat)(g:Array Bool)(a:Act)(κ:ι),Closed md ops g->N9 md ops e f g=true->DU P ops cls le e t f a κ->lR P md ops cls le e t f.length g a κ
 |[],g,a,κ,_,l,h=>⟨by simpa [N9] using l,h⟩
 |i::f,g,a,κ,r,l,h=>by
    simp only[N9,S1]at l;obtain⟨d,u⟩:=l;by_cases m:e i<=1
    . have s:Nat.ble (e i) 1=true:=by rw[UC];exact m
      rw[s]at d;simp only[Ux,S1,V5]at d;obtain⟨hr,w⟩:=d;simp only[DU]at h;unfold gV at h;cases n:ops[i]? with
     |none=>simp only[n]at h
     |some o =>
        simp only[n,m,UK]at h;obtain⟨v,hy,y⟩:=h;refine oA (F:=ops.size) p n m (λj o cs b=>Region.noSelect_spec q j o cs b) f.length g a κ r (λj G k z A=>?_) hr hy
          (jk p q f _ _ κ (r.set hr) u y)
        simp only[LN,n,S3,S7]at w;have:=w j (UJ.1 k).1;simp only[k,UG,Uo,z,false_or,A,TG,S1,UC]at this;rcases this with h1|h1
        . exact .inr h1
        exact .inl h1
    have s:Nat.ble (e i) 1=false:=by
      cases x:Nat.ble (e i) 1 with
     |false=>rfl
     |true=>exact absurd (by rw[UC]at x;exact x) m
    rw[s]at d;simp only[cond_false,Uo]at d;have B:i∈Region.ready md ops g:=by rw[d];simp
    refine⟨λh0=>(by rw[h0]at d;cases d),λj k=>?_⟩;rw[d]at k;obtain rfl:j=i:=by simpa using k
    exact jU (λC D E=>jk p q f _ C D (r.set B) u E) h
structure Cw (P:Program) where
 wp:Code->(Exit->Act->World->Prop)->Act->World->Prop
 nd:Array Oper->Prop
 mono:∀{c:Code}{Q Q':Exit->Act->World->Prop}{a:Act}{w:World},(∀e a w,Q e a w->Q' e a w)->wp c Q a w->wp c Q' a w
 skip:∀{Q:Exit->Act->World->Prop}{a:Act}{w:World},Q .normal a w->wp .skip Q a w
 ret:∀{Q:Exit->Act->World->Prop}{a:Act}{w:World},Q .ret a w->wp .ret Q a w
 exit:∀{id:Nat}{Q:Exit->Act->World->Prop}{a:Act}{w:World},Q (.exit id) a w->wp (.exit id) Q a w
 seq:∀{x y:Code}{Q:Exit->Act->World->Prop}{a:Act}{w:World},wp x (Exit.then (wp y Q) Q) a w->wp (.seq x y) Q a w
 block:∀{id:Nat}{c:Code}{Q:Exit->Act->World->Prop}{a:Act}{w:World},wp c (Exit.inBlock id Q) a w->wp (.block id c) Q a w
 cond:∀{c:Operand}{x y:Code}{t:Bool}{Q:Exit->Act->World->Prop}{a:Act}{w:World},a.eval c=.bool t->(t=true->wp x Q a w)->(t=false->wp y Q a w)->wp (.cond c x y) Q a w
 loop:∀{c:Code}{Q:Exit->Act->World->Prop}{a:Act}{w:World}(I:Act->World->Prop)(μ:Act->World->Nat),I a w ->
  (∀a w,I a w->wp c (Exit.then (λa' w'=>I a' w'/\μ a' w'<μ a w) Q) a w)->wp (.loop c) Q a w
 region:∀{id:Nat}{ops:Array Oper}{Q:Exit->Act->World->Prop}{a:Act}{w:World},nd ops->wpOps P ops (QN λa w=>Q .normal a w) (List.range ops.size) a w->wp (.region id ops false) Q a w
 any:∀{id:Nat}{ops:Array Oper}{Q:Exit->Act->World->Prop}{a:Act}{w:World},P.follows .mixedOrders=true->nd ops ->
  wpAny P .any ops (QN λa w=>Q .normal a w) ops.size (Array.replicate ops.size false) a { w with drawn:=w.drawn+1 }->wp (.region id ops true) Q a w
def Cw.plain (P:Program):Cw P where
 wp:=λc Q a w=>c.wp P Q a w
 nd:=λ_=>True
 mono:=λh q=>wp_mono q h
 skip:=wp_skip
 ret:=wp_ret
 exit:=wp_exit
 seq:=wp_seq
 block:=wp_block
 cond:=wp_cond_split
 loop:=wp_loop
 region:=λ_ h=>wp_region (Gj (N:=λ_a _w=>_) (λ_ _ h=>h) _ _ _ h)
 any:=λhm _ h=>wp_region_any hm (Gn (N:=λ_a _w=>_) (λ_ _ h=>h) _ _ _ _ h)
theorem lO (W:Cw P)(k:W.nd ops)(l:∀κ,le κ κ)(m:∀a b c,le a b->le b c->le a c){f:Nat->Nat}{g:Act->ι->Prop}{n:Nat}{Q:Exit->Act->World->Prop}{a:Act}{w:World}{κ:ι}
  (o:P.follows .mixedOrders=true) (p:cls κ { w with drawn:=w.drawn+1 }) (d:List Nat)
  (i:(Region.noSelect ops && (d.length == ops.size) && N9 .any ops f d (Array.replicate ops.size false))=true) (h:DU P ops cls le f g d a κ)
  (q:∀a κ w,g a κ->cls κ w->Q .normal a w):W.wp (Code.region n ops true) Q a w:=by
 simp only[S1,Uo]at i;obtain⟨⟨hs,e⟩,r⟩:=i;refine W.any o k ?_;have h0:Closed .any ops (Array.replicate ops.size false):=λj s _ e=>by
  rcases Th j ops.size with h|h <;> simp[h]at e
 have:=jk m hs d _ a κ h0 r h;rw[e]at this;exact jT l q _ _ _ _ _ p this
theorem pP (d:∀κ,le κ κ){g:Nat->Nat}{e:Act->ι->Prop}{N:Act->World->Prop}(f:∀a κ w,e a κ->cls κ w->N a w) :
  ∀(b:List Nat)(a:Act)(κ:ι)(w:World),cls κ w->DU P ops cls le g e b a κ->wpOps P ops (QN N) b a w
|[],_,_,_,c,h=>f _ _ _ h c
|i::b,a,κ,w,c,h=>by
  rw[wpOps_cons];exact lQ d c (λj k w' l m=>pP d f b j k w' m l) h
theorem lP (W:Cw P)(b:W.nd ops)(c:∀κ,le κ κ){kd:Nat->Nat}{Post:Act->ι->Prop}{d:Nat}{Q:Exit->Act->World->Prop}{a:Act}{w:World}{κ:ι}
  (e:cls κ w) (h:DU P ops cls le kd Post (List.range ops.size) a κ) (f:∀a κ w,Post a κ->cls κ w->Q .normal a w):W.wp (Code.region d ops false) Q a w :=
 W.region b (pP c f _ _ _ _ e h)
end
end Go.Jog
namespace Go.Jog
open Go
variable {P:Program}{args:List Value}{as:List Addr}{b:Bool}{f:FuncId}{p:Program}{v:Value}{w w' w0:World}
abbrev Mem:=Nat->Option Obj
def Mem.le (C D:Mem):Prop:=∀b o,C b=some o->D b=some o
theorem Mem.le.refl (C:Mem):C.le C:=λ_ _ h=>h
theorem Mem.le.trans {C D E:Mem}(h:C.le D)(k:D.le E):C.le E:=λb o a=>k b o (h b o a)
theorem mup {C D:Mem}(h:C.le D:=by(repeat (first|exact Mem.le.refl _|assumption|(apply Mem.le.trans;rotate_left;assumption)))):C.le D:=h
inductive Ent where
|obj (b:Nat) (o:Obj)
|arr (v:Value) (e:TypeId) (size n:Nat) (xs:List Value)
def Ent.own:Ent->Nat->Prop
|.obj b _,k=>k=b
|.arr v _ _ _ _,k=>v.ownBlock=some k
def Ent.holds (w:World):Ent->Prop
|.obj b o=>w.heap[b]?=some o
|.arr v e s n xs=>w.ownsRow 0 e s v n xs
def qX (L:List Ent)(k:Nat):Prop:=∃x∈L,x.own k
structure Sep (C:Mem)(L:List Ent)(w:World):Prop where
 c:∀b o,C b=some o->w.heap[b]?=some o
 e:∀x∈L,x.holds w
 d:L.Pairwise λx y=>∀k,x.own k->¬ y.own k
 n:∀k,qX L k->C k=none
structure Ev (F:Nat->Prop)(w w':World):Prop where
 os:w'.os=w.os
 tape:w'.tape=w.tape
 output:w'.output=w.output
 size:w.heap.size<=w'.heap.size
 block:∀k,k<w.heap.size->¬ F k->w'.heap[k]?=w.heap[k]?
 drawn:w.drawn<=w'.drawn
theorem Ev.refl (F:Nat->Prop)(w:World):Ev F w w:=⟨rfl,rfl,rfl,SH _,λ_ _ _=>rfl,SH _⟩
theorem Ev.trans {F G:Nat->Prop}{a b c:World}(h:Ev F a b)(k:Ev G b c)(f:∀i,G i->F i∨a.heap.size<=i):Ev F a c :=
 ⟨k.os.trans h.os,k.tape.trans h.tape,k.output.trans h.output,SV h.size k.size,λi d e =>
  (k.block i (TL d h.size) (λg=>(f i g).elim e (λh=>absurd h om_))).trans (h.block i d e),SV h.drawn k.drawn⟩
theorem Ev.below {a b:World}{F:Nat->Prop}(h:Ev F a b)(c:∀k,¬ F k):RowKit.Below a.heap.size a b:=⟨h.os,h.tape,h.output,h.size,λk d=>h.block k d (c k)⟩
structure St (w0:World)(C0:Mem)(L0:List Ent)(C:Mem)(L:List Ent)(w:World):Prop where
 sep:Sep C L w
 ev:Ev (qX L0) w0 w
 c0:C0.le C
 cn:∀k o,C k=some o->C0 k=some o∨w0.heap.size<=k∨qX L0 k
 ln:∀k,qX L k->w0.heap.size<=k∨qX L0 k
theorem sb {b:Type}:∀(q:Ask b)(w:World),w.drawn<=(w.ask q).2.drawn
|.done a,w=>SH _
|.ask c d k,w=>by
  unfold World.ask;simp only;split
  .exact sb (k 0) w
  exact SV (UZ _) (sb (k _) { w with drawn:=w.drawn+1 })
theorem GB (w:World)(c:Sys):w.drawn<=(w.sys c).2.drawn:=by
 unfold World.sys;have:=sb (Kernel.perform c w.os) w;split
 .exact SH _
 rename_i r os w1 h;rw[h]at this;exact this
theorem pR {a:Addr}{u:TypeId}{k:Addr}(h:w.viewStore p a u k v b=.ok (w',as)):w'.drawn=w.drawn:=by
 unfold World.viewStore at h;simp only[bind,Except.bind,pure,Except.pure]at h
 repeat' split at h
 all_goals first|(cases h;done)|skip
 all_goals (repeat' split at h)
 all_goals first|(cases h;rfl)|(cases h;done)|skip
theorem sK {a:Addr}(h:w.farStore p a v b=.ok (w',as)):w'.drawn=w.drawn:=by
  unfold World.farStore at h;split at h
  . split at h
    . rename_i r hr;cases h;exact pR hr
    cases h
  cases h
theorem bX {p:Program}{b:Type}:∀(s:Sem b){w w':World}{v:b},s.run p w=.ok v w'->w.drawn<=w'.drawn
  | .pure a,w,w',v,h=>by simp only [Sem.run] at h;cases h;exact SH _
  | .load m a k,w,w',v,h=>by
    simp only [Sem.run] at h;split at h
    . exact bX (k _) h
    split at h
    . exact bX (k _) h
    cases h
  | .store m a u k,w,w',v,h=>by
    cases u <;> simp only [Sem.run] at h <;> first
      | (cases h;done)
      | (split at h
         . split at h
           . cases h
           have q:=bX k h;exact q
         split at h
         . rename_i d;exact SV (Nat.le_of_eq (sK d).symm) (bX k h)
         cases h)
  | .new o k,w,w',v,h=>by
    simp only [Sem.run] at h;have q:=bX (k _) h;exact q
  | .shape r k,w,w',v,h=>by simp only [Sem.run] at h;exact bX (k _) h
  | .freeze a n k,w,w',v,h=>by
    simp only [Sem.run] at h;refine SV ?_ (bX k h);unfold World.freeze;split <;> exact SH _
  | .frozen a k,w,w',v,h=>by simp only [Sem.run] at h;exact bX (k _) h
  | .getObj r k,w,w',v,h=>by
    simp only [Sem.run] at h;split at h
    . cases h
    . exact bX (k _) h
    cases h
  | .setObj r o k,w,w',v,h=>by
    simp only [Sem.run] at h;split at h
    . cases h
    . have q:=bX k h;exact q
    cases h
  | .choose q k,w,w',v,h=>by
    simp only [Sem.run] at h;split at h
    . exact bX (k _) h
    have q:=bX (k _) h;exact SV (UZ _) q
  | .sys c k,w,w',v,h=>by simp only [Sem.run] at h;exact SV (GB w c) (bX (k _) h)
  | .program k,w,w',v,h=>by simp only [Sem.run] at h;exact bX (k _) h
  | .mark m k,w,w',v,h=>by simp only [Sem.run] at h;exact bX k h
  | .halt x,w,w',v,h=>by simp only [Sem.run] at h;cases h
theorem cZ {k:Nat}{o:Obj}(h:w.heap[k]?=some o):k<w.heap.size:=(UJ.1 h).1
theorem Ent.lt {w:World}{x:Ent}{k:Nat}(h:x.holds w)(a:x.own k):k<w.heap.size:=by
 cases x with
|obj b o=>simp only[Ent.own]at a;subst a;exact cZ h
|arr v e s n xs=>exact(World.ownsRow.lt h k a).2
theorem Ent.holds_of {x:Ent}(h:x.holds w)(a:∀k,x.own k->w'.heap[k]?=w.heap[k]?):x.holds w':=by
 cases x with
|obj b o=>exact(a b rfl).trans h
|arr v e s n xs =>
  refine⟨h.1, ?_⟩;rcases h.2 with h2|⟨g,d,f,c,i,hh,r⟩
  .exact .inl h2
  exact .inr ⟨g,d,f,c,i,(a g (by simp[Ent.own,c,Value.ownBlock])).trans hh,r⟩
theorem St.start {C:Mem}{L:List Ent}(h:Sep C L w):St w C L C L w :=
 ⟨h,Ev.refl _ _,Mem.le.refl _,λ_ _ a=>.inl a,λ_ a=>.inr a⟩
section
variable {w0:World} {C0:Mem} {L0:List Ent} {C:Mem} {L:List Ent} {w w':World}
theorem St.same (h:St w0 C0 L0 C L w)(f:w'.os=w.os)(g:w'.tape=w.tape)(i:w'.output=w.output)(a:w'.heap=w.heap)(j:w.drawn<=w'.drawn):St w0 C0 L0 C L w' :=
  ⟨⟨λb o l=>by rw[a];exact h.sep.c b o l,λx m=>Ent.holds_of (h.sep.e x m) (λk _=>by rw[a]),h.sep.d,h.sep.n⟩,
   ⟨f.trans h.ev.os,g.trans h.ev.tape,i.trans h.ev.output,by rw[a];exact h.ev.size,λk p q=>by rw[a];exact h.ev.block k p q,SV h.ev.drawn j⟩,h.c0,h.cn,h.ln⟩
theorem St.drew (h:St w0 C0 L0 C L w):St w0 C0 L0 C L w.drew:=h.same rfl rfl rfl rfl (UZ _)
theorem St.perm {L':List Ent}(h:St w0 C0 L0 C L w)(f:L.Perm L'):St w0 C0 L0 C L' w:=by
 have g:∀k,qX L' k->qX L k:=λk ⟨x,a,b⟩=>⟨x,f.mem_iff.2 a,b⟩;exact⟨⟨h.sep.c,λx a=>h.sep.e x (f.mem_iff.2 a),(f.pairwise_iff (fun {x y} i k hy a=>i k a hy)).1 h.sep.d,λk b=>h.sep.n k (g k b)⟩,h.ev,h.c0,h.cn,λk b=>h.ln k (g k b)⟩
theorem St.drop {x:Ent}(h:St w0 C0 L0 C (x::L) w):St w0 C0 L0 C L w :=
 ⟨⟨h.sep.c,λy hy=>h.sep.e y (by simp[hy]),(TW.1 h.sep.d).2,λk ⟨y,hy,a⟩=>h.sep.n k ⟨y,by simp[hy],a⟩⟩,h.ev,h.c0,h.cn,λk ⟨y,hy,a⟩=>h.ln k ⟨y,by simp[hy],a⟩⟩
theorem St.alloc (h:St w0 C0 L0 C L w)(o:Obj):St w0 C0 L0 C (.obj w.heap.size o::L) (w.alloc o):=by
  have old:∀k,k<w.heap.size->(w.alloc o).heap[k]?=w.heap[k]?:=λk a=>RowKit.Below.heap_alloc w o k a;refine⟨⟨λb g i=>?_,λx f=>?_,TW.2 ⟨λy hy k a j=>?_,h.sep.d⟩,λk ⟨x,f,a⟩=>?_⟩, ?_,h.c0,h.cn,λk ⟨x,f,a⟩=>?_⟩
  . have:=h.sep.c b g i;exact(old b (cZ this)).trans this
  . rcases SY.1 f with rfl|f
    . exact heap_alloc_new w o
    exact Ent.holds_of (h.sep.e x f) (λk a=>old k (Ent.lt (h.sep.e x f) a))
  . have:=Ent.lt (h.sep.e y hy) j;simp only[Ent.own]at a;omega
  . rcases SY.1 f with rfl|f
    . simp only[Ent.own]at a;subst a;cases l:C w.heap.size with
     |none=>rfl
     |some g=>exact absurd (cZ (h.sep.c _ _ l)) om_
    exact h.sep.n k ⟨x,f,a⟩
  . exact⟨h.ev.os,h.ev.tape,h.ev.output,by have:=h.ev.size;simp;omega,λk a m=>(old k (TL a h.ev.size)).trans (h.ev.block k a m),h.ev.drawn⟩
  rcases SY.1 f with rfl|f
  . simp only[Ent.own]at a;subst a;exact .inl h.ev.size
  exact h.ln k ⟨x,f,a⟩
def Mem.set (C:Mem)(b:Nat)(o:Obj):Mem:=λk=>if k=b then some o else C k
theorem Mem.set_self (C:Mem)(b:Nat)(o:Obj):(C.set b o) b=some o:=by simp[Mem.set]
theorem Mem.le_set {C:Mem}{b:Nat}{o:Obj}(h:C b=none):C.le (C.set b o):=λk c a=>by
 unfold Mem.set;split
 .rename_i e;subst e;rw[h]at a;cases a
 exact a
theorem St.freeze {b:Nat}{o:Obj}(h:St w0 C0 L0 C (.obj b o::L) w):C.le (C.set b o)/\St w0 C0 L0 (C.set b o) L w:=by
  have i:C b=none:=h.sep.n b ⟨_,SK ..,rfl⟩;have hd:=TW.1 h.sep.d;have g:=Mem.le_set (o:=o) i;refine⟨g,⟨λk o' a=>?_,λx f=>h.sep.e x (by simp[f]),hd.2,λk a=>?_⟩,h.ev,h.c0.trans g,λk o' a=>?_,λk ⟨x,f,a⟩=>h.ln k ⟨x,by simp[f],a⟩⟩
  . unfold Mem.set at a;split at a
    . rename_i e;subst e;cases a;exact h.sep.e _ (SK ..)
    exact h.sep.c k o' a
  . obtain⟨x,f,a⟩:=a;have h1:=h.sep.n k ⟨x,by simp[f],a⟩;unfold Mem.set;split
    . rename_i e;exact absurd a (hd.1 x f k e)
    exact h1
  unfold Mem.set at a;split at a
  . rename_i e;subst e;rcases h.ln k ⟨_,SK ..,rfl⟩ with h1|h1
    . exact .inr (.inl h1)
    exact .inr (.inr h1)
  exact h.cn k o' a
theorem St.put {b:Nat}{o o':Obj}(h:St w0 C0 L0 C (.obj b o::L) w)(m:w'.heap[b]?=some o')(g:∀k,k≠b->w'.heap[k]?=w.heap[k]?)(p:w'.heap.size=w.heap.size)
    (q:w'.os=w.os) (r:w'.tape=w.tape) (s:w'.output=w.output) (t:w.drawn<=w'.drawn):St w0 C0 L0 C (.obj b o'::L) w':=by
  have hd:=TW.1 h.sep.d;have u:C b=none:=h.sep.n b ⟨_,SK ..,rfl⟩;refine⟨⟨λk v i=>?_,λx a=>?_,TW.2 ⟨hd.1,hd.2⟩,λk ⟨x,a,f⟩=>?_⟩, ?_,h.c0,h.cn,λk ⟨x,a,f⟩=>?_⟩
  . rw[g k (λe=>by subst e;rw[u]at i;cases i)];exact h.sep.c k v i
  . rcases SY.1 a with rfl|a
    . exact m
    exact Ent.holds_of (h.sep.e x (by simp[a])) (λk f=>g k (λe=>hd.1 x a k e f))
  . rcases SY.1 a with rfl|a
    . exact h.sep.n k ⟨_,SK ..,f⟩
    exact h.sep.n k ⟨x,by simp[a],f⟩
  . refine⟨q.trans h.ev.os,r.trans h.ev.tape,s.trans h.ev.output,by rw[p];exact h.ev.size,λk y j=>?_,SV h.ev.drawn t⟩;rw[g k (λe=>?_)]
    . exact h.ev.block k y j
    subst e;rcases h.ln k ⟨_,SK ..,rfl⟩ with l|l
    . omega
    exact j l
  rcases SY.1 a with rfl|a
  . exact h.ln k ⟨_,SK ..,f⟩
  exact h.ln k ⟨x,by simp[a],f⟩
theorem St.turn {v i:Value}{e o:TypeId}{s n p q:Nat}{z r:List Value}(h:St w0 C0 L0 C (.arr v e s n z::L) w)(A:w'.ownsRow 0 o p i q r)(g:w.grownBy w' v.ownBlock)(B:w.drawn<=w'.drawn)
    (l:i.ownBlock=v.ownBlock∨i.ownBlock=some w.heap.size∨i.ownBlock=none):St w0 C0 L0 C (.arr i o p q r::L) w':=by
  have hd:=TW.1 h.sep.d;have D:∀k,qX L k->¬ v.ownBlock=some k:=λk ⟨x,a,b⟩ l=>hd.1 x a k l b;have m:∀k,i.ownBlock=some k->v.ownBlock=some k∨k=w.heap.size:=λk b=>by
    rcases l with h1|h1|h1
    . exact .inl (h1 ▸ b)
    . rw[h1]at b;cases b;exact .inr rfl
    rw[h1]at b;cases b
  refine⟨⟨λk E j=>?_,λx a=>?_,TW.2 ⟨λx a k b f=>?_,hd.2⟩,λk ⟨x,a,f⟩=>?_⟩, ?_,h.c0,h.cn,λk ⟨x,a,f⟩=>?_⟩
  . have:=h.sep.c k E j;rw[g.block k (cZ this) (λe=>?_)]
    . exact this
    have:=h.sep.n k ⟨_,SK ..,e.symm⟩;rw[this]at j;cases j
  . rcases SY.1 a with rfl|a
    . exact A
    have t:=h.sep.e x (by simp[a]);exact Ent.holds_of t (λk b=>g.block k (Ent.lt t b) (λe=>D k ⟨x,a,b⟩ e.symm))
  . rcases m k b with h1|h1
    . exact hd.1 x a k h1 f
    have:=Ent.lt (h.sep.e x (by simp[a])) f;omega
  . rcases SY.1 a with rfl|a
    . rcases m k f with h1|h1
      . exact h.sep.n k ⟨_,SK ..,h1⟩
      cases j:C k with
     |none=>rfl
     |some F=>exact absurd (cZ (h.sep.c _ _ j)) om_
    exact h.sep.n k ⟨x,by simp[a],f⟩
  . refine⟨g.os.trans h.ev.os,g.tape.trans h.ev.tape,g.output.trans h.ev.output,SV h.ev.size g.size,λk b u=>?_,SV h.ev.drawn B⟩;rw[g.block k (TL b h.ev.size) (λe=>?_)]
    . exact h.ev.block k b u
    rcases h.ln k ⟨_,SK ..,e.symm⟩ with y|y
    . omega
    exact u y
  rcases SY.1 a with rfl|a
  . rcases m k f with h1|h1
    . exact h.ln k ⟨_,SK ..,h1⟩
    subst h1;exact .inl h.ev.size
  exact h.ln k ⟨x,by simp[a],f⟩
theorem St.nilArr (h:St w0 C0 L0 C L w)(e:TypeId)(s:Nat):St w0 C0 L0 C (.arr (.slice none 0 0) e s 0 []::L) w:=by
  have f:∀k,¬ (Ent.arr (.slice none 0 0) e s 0 []).own k:=λk b=>by cases b
  refine⟨⟨h.sep.c,λx a=>?_,TW.2 ⟨λx _ k b=>absurd b (f k),h.sep.d⟩,λk ⟨x,a,b⟩=>?_⟩,h.ev,h.c0,h.cn,λk ⟨x,a,b⟩=>?_⟩
  . rcases SY.1 a with rfl|a
    . exact World.ownsRow_nil w 0 e s
    exact h.sep.e x a
  . rcases SY.1 a with rfl|a
    . exact absurd b (f k)
    exact h.sep.n k ⟨x,a,b⟩
  rcases SY.1 a with rfl|a
  . exact absurd b (f k)
  exact h.ln k ⟨x,a,b⟩
theorem St.call {Lp Lr:List Ent}{g:Mem}{j:List Ent}(h:St w0 C0 L0 C (Lp++Lr) w)(k:St w C Lp g j w'):St w0 C0 L0 g (j++Lr) w':=by
  have hd:=V9.1 h.sep.d;have l:∀i,qX Lr i->¬ qX Lp i:=λi ⟨x,b,a⟩ ⟨y,hy,f⟩=>hd.2.2 y hy x b i f a;have p:∀i,qX Lr i->i<w.heap.size:=λi ⟨x,b,a⟩=>Ent.lt (h.sep.e x (by simp[b])) a;have t:∀i,qX Lr i->¬ qX j i:=λi a f=>by
    rcases k.ln i f with h1|h1
    . have:=p i a;omega
    exact l i a h1
  have q:∀{A B:List Ent}{i:Nat},qX (A++B) i->qX A i∨qX B i:=fun {A B i} ⟨x,b,a⟩=>by
    rcases SZ.1 b with h1|h1
    . exact .inl ⟨x,h1,a⟩
    exact .inr ⟨x,h1,a⟩
  have m:∀{i:Nat},qX Lp i->qX (Lp++Lr) i:=λ⟨x,b,a⟩=>⟨x,Uy _ b,a⟩;have r:∀{i:Nat},qX Lr i->qX (Lp++Lr) i:=λ⟨x,b,a⟩=>⟨x,UE _ b,a⟩;refine⟨⟨k.sep.c,λx b=>?_,V9.2 ⟨k.sep.d,hd.2.1,λx b y hy i a f=>t i ⟨y,hy,f⟩ ⟨x,b,a⟩⟩,λi a=>?_⟩, ?_,h.c0.trans k.c0,λi o a=>?_,λi a=>?_⟩
  . rcases SZ.1 b with h1|h1
    . exact k.sep.e x h1
    have s:=h.sep.e x (by simp[h1]);exact Ent.holds_of s (λi a=>k.ev.block i (Ent.lt s a) (l i ⟨x,h1,a⟩))
  . rcases q a with h1|h1
    . exact k.sep.n i h1
    cases u:g i with
   |none=>rfl
   |some o =>
      rcases k.cn i o u with h2|h2|h2
      . rw[h.sep.n i (r h1)]at h2;cases h2
      . have:=p i h1;omega
      exact absurd h2 (l i h1)
  . refine h.ev.trans k.ev (λi a=>?_);rcases h.ln i (m a) with h1|h1
    . exact .inr h1
    exact .inl h1
  . rcases k.cn i o a with h1|h1|h1
    . exact h.cn i o h1
    . exact .inr (.inl (SV h.ev.size h1))
    rcases h.ln i (m h1) with h2|h2
    . exact .inr (.inl h2)
    exact .inr (.inr h2)
  rcases q a with h1|h1
  . rcases k.ln i h1 with h2|h2
    . exact .inl (SV h.ev.size h2)
    exact h.ln i (m h2)
  exact h.ln i (r h1)
end
def Enters (P:Program)(f:FuncId):Bool:=match P.funcs[f]? with
 |some fn => !(fn.name == "runtime.NumGoroutine") && fn.body.isSome
 |none=>false
def Fn (P:Program)(f:FuncId)(args:List Value)(C:Mem)(L:List Ent)(post:Value->Mem->List Ent->Prop):Prop :=
 Enters P f=true/\∀w,Sep C L w->Calls P f args.toArray w λe w'=>∃v C' L',e=.returned v/\St w C L C' L' w'/\post v C' L'
theorem Fn.mono {P:Program}{f:FuncId}{c:List Value}{C:Mem}{L:List Ent}{d g:Value->Mem->List Ent->Prop}(h:Fn P f c C L d)
  (i:∀v a b,C.le a->d v a b->g v a b):Fn P f c C L g :=
 ⟨h.1,λw j=>(h.2 w j).mono λ_ _ ⟨v,a,b,e,hs,k⟩=>⟨v,a,b,e,hs,i v a b hs.c0 k⟩⟩
def Gives (P:Program)(f:FuncId)(args:List Value)(C:Mem)(v:Value):Prop:=Fn P f args C [] λu _ L'=>u=v/\L'=[]
theorem Fn.callAt {C:Mem}{i l:List Ent}{m:Value->Mem->List Ent->Prop}(h:Fn P f args C i m)
     {o:Mem} {p:List Ent}  (a:St w0 o p C (i++l) w) :
    Calls P f args.toArray w λe w'=>∃v b g,e=.returned v/\C.le b/\St w0 o p b (g++l) w'/\m v b g:=by
  have r:Sep C i w:=⟨a.sep.c,λx j=>a.sep.e x (by simp[j]),(V9.1 a.sep.d).1,λk ⟨x,j,s⟩=>a.sep.n k ⟨x,by simp[j],s⟩⟩;exact(h.2 w r).mono λ_ _ ⟨v,b,g,e,q,t⟩=>⟨v,b,g,e,q.c0,a.call q,t⟩
theorem St.less {a:Mem}{i:List Ent}{C D:Mem}{L:List Ent}(h:St w0 a i D L w)(j:a.le C)(f:C.le D):St w0 a i C L w :=
 ⟨⟨λb o l=>h.sep.c b o (f b o l),h.sep.e,h.sep.d,λk g=>by
  cases m:C k with
 |none=>rfl
 |some o=>have:=h.sep.n k g;rw[f k o m]at this;cases this⟩,h.ev,j,λk o g=>h.cn k o (f k o g),h.ln⟩
def cls (w0:World)(C0:Mem)(L0:List Ent)(κ:Mem × List Ent)(w:World):Prop:=St w0 C0 L0 κ.1 κ.2 w
def kle (κ κ':Mem × List Ent):Prop:=κ.1.le κ'.1/\∀x∈κ.2,x∈κ'.2
theorem kle.refl (κ:Mem × List Ent):kle κ κ:=⟨Mem.le.refl _,λ_ h=>h⟩
theorem kle.trans (a b c:Mem × List Ent)(h:kle a b)(k:kle b c):kle a c:=⟨h.1.trans k.1,λx d=>k.2 x (h.2 x d)⟩
theorem Gives.quiet {C:Mem}(h:Gives P f args C v){i:Mem}{l:List Ent}{κ:Mem × List Ent}
  (n:C.le κ.1) (p:i.le C) (g:cls w0 i l κ w):Calls P f args.toArray w λe w'=>e=.returned v/\cls w0 i l κ w':=by
 have q:Sep C [] w:=(g.less p n).sep |> λs=>⟨s.c,λx a=>(by cases a),List.Pairwise.nil,λk ⟨x,a,_⟩=>(by cases a)⟩;refine(h.2 w q).mono λe w' ⟨u,B,D,r,m,t,y⟩=>?_;subst t;subst y;have h2:Sep κ.1 [] w:=⟨g.sep.c,λx a=>(by cases a),List.Pairwise.nil,λk ⟨x,a,_⟩=>(by cases a)⟩;have j:∀k,¬ qX [] k:=λk ⟨x,a,_⟩=>by cases a
 have z:St w κ.1 [] κ.1 [] w':=⟨⟨λb o A=>by
   have:=g.sep.c b o A;rw[m.ev.block b (cZ this) (j b)];exact this,λx a=>(by cases a),List.Pairwise.nil,λk d=>absurd d (j k)⟩,m.ev,Mem.le.refl _,λ_ _ d=>.inl d,λk d=>absurd d (j k)⟩
 exact⟨r,St.call (Lp:=[]) g z⟩
end Go.Jog
namespace Go.Jog
open Go
variable {P:Program}{a:Act}{b:Nat}{ds:List (Option Nat)}{e:Nat}{g:Bool}{j n:Nat}{op:BinOp}{r:Value}{s t:Nat}{tmps:Array Value}{u v:Value}{x:Operand}
inductive TK where
|int (k:IntKind)|bool|str|ptr (e:Nat)|slice (e:Nat)|arr (n e:Nat)|struct (fs:List (Nat × Nat))|map (k e:Nat)|func|iface|other
 deriving DecidableEq
inductive Zv where
|int (k:IntKind)|bool|str|ptr|slice|map|func|iface
 deriving DecidableEq
def Zv.val:Zv->Value
|.int k=>.int k 0|.bool=>.bool false|.str=>.string ⟨#[]⟩|.ptr=>.pointer none|.slice=>.slice none 0 0|.map=>.map none|.func=>.nilFunc|.iface=>.nilIface
def zvB:Value->Zv->Bool
|.int k n,.int k'=>k == k' && n == 0
|.bool b,.bool=>!b
|.string s,.str=>s.data.toList == []
|.pointer none,.ptr|.slice none 0 0,.slice|.map none,.map|.nilFunc,.func|.nilIface,.iface=>true
|_,_=>false
theorem J2 {z:Zv}(h:zvB v z=true):v=z.val:=by
 unfold zvB at h;split at h <;> simp_all [Zv.val];rename_i s;obtain⟨⟨l⟩⟩:=s;simp at h;subst h;rfl
structure TI where
 k:TK
 size:Nat
 bytes:Nat
 zero:List Zv
 agg:Bool
 deriving DecidableEq
def tkB (d:TypeDesc):TK->Bool
|.int k=>match d with|.int k'=>k == k'|_=>false
|.bool=>match d with|.bool=>true|_=>false
|.str=>match d with|.string=>true|_=>false
|.ptr e=>match d with|.pointer e'=>e == e'|_=>false
|.slice e=>match d with|.slice e'=>e == e'|_=>false
|.arr n e=>match d with|.array n' e'=>n == n' && e == e'|_=>false
|.struct fs=>match d with|.struct fields=>fields.toList.map (λf=>(f.type,f.offset)) == fs|_=>false
|.map k e=>match d with|.map k' e'=>k == k' && e == e'|_=>false
|.func=>match d with|.func ..=>true|_=>false
|.iface=>match d with|.interface _=>true|_=>false
|.other=>true
def sQ:List Value->List Zv->Bool
|[],[]=>true
|v::vs,z::zs=>zvB v z && sQ vs zs
|_,_=>false
def TI.zv (i:TI):Value:=bif i.agg then .agg (i.zero.map Zv.val).toArray else (i.zero.map Zv.val).headD undef
def aggD:TypeDesc->Bool
|.struct _|.array _ _=>true
|_=>false
def tiB (P:Program)(t:Nat)(i:TI):Bool :=
 match P.underlying t,P.info? t with
|some d,some f=>tkB d i.k && (aggD d == i.agg) && f.size == i.size && f.bytes == i.bytes && (i.zero.length == i.size) && (match f.zero with
 |some z=>sQ z.cells.toList i.zero && (match z with|.agg _=>i.agg|.tuple _=>false|_=>!i.agg)
 |none=>false)
|_,_=>false
abbrev Tab:=List (Nat × TI)
def Tab.get:Tab->Nat->Option TI
|[],_=>none
|(t,i)::r,s=>bif Nat.beq t s then some i else Tab.get r s
def oZ (P:Program)(T:Tab):Bool:=T.all λ(t,i)=>tiB P t i
theorem pM:∀{vs:List Value}{a:List Zv},sQ vs a=true->vs=a.map Zv.val
|[],[],_=>rfl
|v::vs,z::a,h=>by
  simp only[sQ,S1]at h;rw[J2 h.1,pM h.2];rfl
|[],_::_,h=>by simp[sQ]at h
|_::_,[],h=>by simp[sQ]at h
theorem Tab.get_mem:∀{T:Tab}{t:Nat}{i:TI},T.get t=some i->(t,i)∈T
|(s,j)::r,t,i,h=>by
  simp only[Tab.get]at h;cases a:Nat.beq s t with
 |true =>
   rw[a]at h;simp only[Ux,Tv]at h;rw[Tr a,h];exact SK ..
 |false =>
   rw[a]at h;exact SX _ (Tab.get_mem h)
structure TIok (P:Program)(t:Nat)(i:TI):Prop where
 und:∃d,P.underlying t=some d/\tkB d i.k=true/\aggD d=i.agg
 info:∃f,P.info? t=some f/\f.size=i.size/\f.bytes=i.bytes/\f.zero=some i.zv/\i.zv.cells=(i.zero.map Zv.val).toArray
 zsize:i.zv.cells.size=i.size
theorem dC {T:Tab}(b:oZ P T=true){i:TI}(h:T.get t=some i):TIok P t i:=by
  have:=S3.1 b _ (Tab.get_mem h);simp only[tiB]at this;split at this
  . rename_i d f hd c;simp only[S1,Uo]at this;obtain⟨⟨⟨⟨⟨h1,h2⟩,h3⟩,h4⟩,e⟩,h5⟩:=this
    suffices hh:f.zero=some i.zv/\i.zv.cells=(i.zero.map Zv.val).toArray from⟨⟨d,hd,h1,h2⟩,⟨f,c,h3,h4,hh.1,hh.2⟩,by rw[hh.2];simpa using e⟩
    split at h5
    . rename_i z g;simp only[S1]at h5;obtain⟨j,m⟩:=h5;have k:=pM j;have a:z=i.zv/\z.cells=(i.zero.map Zv.val).toArray:=by
        have l:z.cells=(i.zero.map Zv.val).toArray:=by rw[<- k]
        refine⟨?_,l⟩;unfold TI.zv;cases z <;> simp_all [Value.cells] <;> (try (cases h:i.zero <;> simp_all))
      exact⟨by rw[g,a.1],by rw[<- a.1];exact a.2⟩
    cases h5
  cases this
abbrev GL:=List (Nat × Bool)
abbrev Fr:=List (Nat × GL × Value)
def Fr.get:Fr->Nat->Option (GL × Value)
|[],_=>none
|(t,x)::r,s=>bif Nat.beq t s then some x else Fr.get r s
def yld (ds:List (Option Nat))(tmps:Array Value)(j:Nat):Option Bool :=
 match ((ds[j]?).bind id).bind (tmps[·]?) with
|some (.bool b)=>some b
|_=>none
theorem gS (l:List Oper)(a:Array Value):yielded l.toArray a=yld (l.map (·.dst)) a:=by
 funext j;unfold yielded yld;have h:((l.toArray)[j]?).bind (·.dst)=((l.map (·.dst))[j]?).bind id:=by
  simp only[T9,SI];cases l[j]? <;> rfl
 rw[h];rfl
def GH (ds:List (Option Nat))(tmps:Array Value)(g:GL):Prop:=∀p∈g,yld ds tmps p.1=some p.2
structure FrOk (n:Nat)(ds:List (Option Nat))(dd:List Deferred)(fr:Fr)(a:Act):Prop where
 size:a.tmps.size=n
 defers:a.defers=dd
 ent:∀s g v,fr.get s=some (g,v)->(GH ds a.tmps g->a.tmps[s]?=some v)/\(¬ GH ds a.tmps g->a.tmps[s]?=some undef)
def Sg (ge g:GL):Bool:=ge.all λp=>g.any λq=>Nat.beq p.1 q.1 && (p.2 == q.2)
theorem GH.sub {b g:GL}(h:GH ds tmps g)(c:Sg b g=true):GH ds tmps b:=by
 intro p hp;have:=S3.1 c p hp;obtain⟨q,d,a⟩:=Vl.1 this;simp only[S1,Uo]at a;have e:=Tr a.1;have:=h q d;rw[<- e,<- a.2]at this;exact this
def ev (fr:Fr)(g:GL):Operand->Option Value
|.tmp t=>match fr.get t with
 |some (ge,v)=>bif Sg ge g then some v else none
 |none=>none
|.const v=>some v
|.global b=>some (.pointer (some ⟨b,0,none⟩))
|.func f=>some (.func (.func f) #[] #[])
theorem bP {d:Fr}{i:List Deferred}{g:GL}(h:FrOk n ds i d a)(j:GH ds a.tmps g)(c:ev d g x=some v):a.eval x=v:=by
  cases x with
 |tmp t =>
    simp only[ev]at c;split at c
    . rename_i e u k;cases hs:Sg e g with
     |false=>rw[hs]at c;cases c
     |true =>
        rw[hs]at c;simp only[Ux,Tv]at c;have:=(h.ent t e u k).1 (j.sub hs);simp only[Act.eval,TM,this,T6];exact c
    cases c
 |const u=>simpa [ev,Act.eval] using c
 |global b=>simpa [ev,Act.eval] using c
 |func f=>simpa [ev,Act.eval] using c
def gOf (ds:List (Option Nat))(fr:Fr):Option (Nat × Bool)->Option GL
|none=>some []
|some (j,w)=>match ((ds[j]?).bind id).bind fr.get with
 |some (g,.bool _)=>some ((j,w)::g)
 |_=>none
def GT (ds:List (Option Nat))(fr:Fr):GL->Prop
|[]=>True
|(j,w)::r=>(match ((ds[j]?).bind id).bind fr.get with
 |some (_,.bool b)=>b=w
 |_=>False)/\GT ds fr r
theorem BW {b:Bool}(h:yld ds tmps j=some b):∃d,(ds[j]?).bind id=some d/\tmps[d]?=some (.bool b):=by
 unfold yld at h;cases hd:(ds[j]?).bind id with
|none=>rw[hd]at h;cases h
|some d =>
  refine⟨d,U, ?_⟩;rw[hd]at h;simp only[Option.bind_some]at h;split at h
  .rename_i c a;cases h;exact a
  cases h
theorem RP {n:Nat}{c:List (Option Nat)}{f:Fr}{a:Act}{q:List Deferred}(h:FrOk n c q f a):∀{g:GL},GH c a.tmps g->(∀p∈g,∃e b,((c[p.1]?).bind id).bind f.get=some (e,.bool b))->GT c f g
|[],_,_=>trivial
|(j,w)::r,k,l=>by
  refine⟨?_,RP h (λp hp=>k p (by simp[hp])) (λp hp=>l p (by simp[hp]))⟩;obtain⟨e,b,i⟩:=l (j,w) am;simp only[i];have hy:=k (j,w) am;obtain⟨d,hd,ht⟩:=BW hy;rw[hd]at i;have m:=h.ent d e (.bool b) i;by_cases o:GH c a.tmps e
  .have:=m.1 o;rw[ht]at this;simp only[Tv,Value.bool.injEq]at this;exact this.symm
  have:=m.2 o;rw[ht]at this;simp[undef]at this
def aZ (n:Nat)(ds:List (Option Nat))(fr:Fr)(d:Nat):Bool :=
 Nat.blt d n && fr.all λ(_,g,_)=>g.all λp=>match (ds[p.1]?).bind id with
 |some e=>!(Nat.beq e d)
 |none=>true
theorem NN {d:Nat}(h:∀e,(ds[j]?).bind id=some e->e≠d):yld ds (a.put (some d) v).tmps j=yld ds a.tmps j:=by
 unfold yld;cases hd:(ds[j]?).bind id with
|none=>rfl
|some e =>
  have:=h e hd;simp[Act.put,V8 (Ne.symm this)]
theorem Fr.get_mem:∀{fr:Fr}{s:Nat}{x:GL × Value},fr.get s=some x->(s,x)∈fr
|(t,y)::r,s,x,h=>by
  simp only[Fr.get]at h;cases a:Nat.beq t s with
 |true =>
   rw[a]at h;simp only[Ux,Tv]at h;rw[Tr a,h];exact SK ..
 |false =>
   rw[a]at h;exact SX _ (Fr.get_mem h)
theorem FrOk.put {n:Nat}{b:List (Option Nat)}{k:Fr}{a:Act}{d:Nat}{g:GL}{v u:Value}{dd:List Deferred}(h:FrOk n b dd k a)(q:aZ n b ((d,g,v)::k) d=true)
  (r:(GH b a.tmps g->u=v)/\(¬ GH b a.tmps g->u=undef)):FrOk n b dd ((d,g,v)::k) (a.put (some d) u):=by
 simp only[aZ,S1,S3]at q;obtain⟨m,w⟩:=q;have m:d<n:=by simpa [Wa] using m
 have x:∀s c j,(s,c,j)∈(d,g,v)::k->(GH b (a.put (some d) u).tmps c ↔ GH b a.tmps c):=λs c j hm=>by
  have y:=w (s,c,j) hm;have e:∀p∈c,yld b (a.put (some d) u).tmps p.1=yld b a.tmps p.1:=λp f=>by
   refine NN (λe z=>?_);have:=y p f;simp only[z,Vg]at this;intro A;subst A;simp[]at this
  exact⟨λhh p f=>by rw[<- e p f];exact hh p f,λhh p f=>by rw[e p f];exact hh p f⟩
 refine⟨by simp[Act.put,h.size],h.defers,λs c j i=>?_⟩;have B:=Fr.get_mem i;rw[x s c j B];simp only[Fr.get]at i;cases l:Nat.beq d s with
|true =>
  rw[l]at i;simp only[Ux,Tv,UW]at i;obtain⟨rfl,rfl⟩:=i;have C:=Tr l;subst C;have t:(a.put (some d) u).tmps[d]?=some u:=by simp[Act.put,h.size,m]
  exact⟨λo=>by rw[t,r.1 o],λo=>by rw[t,r.2 o]⟩
|false =>
  rw[l]at i;have D:d≠s:=λe=>by subst e;simp[]at l
  have:=h.ent s c j i;simpa [Act.put,V8 D] using this
def Ro (op:BinOp)(k:IntKind)(a b:Int):Option Value :=
 match op with
|.add=>some (.int k (k.wrap (a+b)))
|.sub=>some (.int k (k.wrap (a-b)))
|.mul=>some (.int k (k.wrap (a*b)))
|.eql=>some (.bool (a == b))
|.neq=>some (.bool (a != b))
|.lss=>some (.bool (decide (a<b)))
|.leq=>some (.bool (decide (a<=b)))
|.gtr=>some (.bool (decide (b<a)))
|.geq=>some (.bool (decide (b<=a)))
|_=>none
def Kj (op:BinOp)(a b:ByteArray):Option Value :=
 match op with
|.eql=>some (.bool (a.data.toList == b.data.toList))
|.neq=>some (.bool (!(a.data.toList == b.data.toList)))
|.lss=>some (.bool (Op.bytesLess a.data.toList b.data.toList))
|.leq=>some (.bool (Op.bytesLess a.data.toList b.data.toList || a.data.toList == b.data.toList))
|.gtr=>some (.bool (!(Op.bytesLess a.data.toList b.data.toList || a.data.toList == b.data.toList)))
|.geq=>some (.bool (!(Op.bytesLess a.data.toList b.data.toList)))
|_=>none
def JC (T:Tab)(op:BinOp)(t:Nat):Value->Value->Option Value
|.int k a,.int k' b=>bif k == k' then Ro op k a b else none
|.string a,.string b=>Kj op a b
|.bool a,.bool b=>match T.get t with
 |some ⟨.bool,_,_,_,_⟩=>match op with
  |.eql=>some (.bool (a == b))
  |.neq=>some (.bool (!(a == b)))
  |_=>none
 |_=>none
|_,_=>none
def ly {α β:Type}(f:α->Option β):List α->Option (List β)
|[]=>some []
|x::xs=>match f x,ly f xs with
 |some y,some ys=>some (y::ys)
 |_,_=>none
theorem fh {a b:Type}{f:a->Option b}{c:a->b}(h:∀x y,f x=some y->c x=y):∀{xs:List a}{ys:List b},ly f xs=some ys->xs.map c=ys
 |[],ys,e=>by simp[ly]at e;simp[e]
 |x::xs,ys,e=>by
    simp only[ly]at e;split at e
    . rename_i y d h1 h2;cases e
      rw[Tq,h x y h1,fh h h2]
    cases e
def Rn (T:Tab)(t:Nat):Value->Option Value
|.slice _ n _=>match T.get t with
 |some ⟨.slice _,_,_,_,_⟩=>some (.int .i64 n)
 |_=>none
|.string s=>match T.get t with
 |some ⟨.str,_,_,_,_⟩=>some (.int .i64 s.data.toList.length)
 |_=>none
|_=>none
def po (T:Tab)(ρ:Operand->Option Value):Op->Option Value
|.move x|.assign x=>ρ x
|.unOp .not _ x=>match ρ x with
 |some (.bool b)=>some (.bool (!b))
 |_=>none
|.unOp .neg _ x=>match ρ x with
 |some (.int k n)=>some (.int k (k.wrap (0-n)))
 |_=>none
|.binOp op t x y _=>match ρ x,ρ y with
 |some u,some v=>JC T op t u v
 |_,_=>none
|.extract x i=>match ρ x with
 |some (.tuple vs)=>vs.toList[i]?
 |_=>none
|.fieldAddr t x f=>match ρ x with
 |some (.pointer (some a))=>match T.get t with
  |some ⟨.struct fs,_,_,_,_⟩=>match fs[f]? with
   |some (ty,off)=>match T.get ty with
    |some ⟨_,s,_,_,_⟩=>bif Nat.beq s 0 then none else some (.pointer (some (a.add off)))
    |none=>none
   |none=>none
  |_=>none
 |_=>none
|.nilCheck x=>match ρ x with
 |some (.pointer (some a))=>some (.pointer (some a))
 |_=>none
|.makeFunc fn first captured=>match ly ρ first.toList,ly ρ captured.toList with
 |some vs,some us=>some (.func fn vs.toArray us.toArray)
 |_,_=>none
|.makeInterface t x=>match ρ x,T.get t with
 |some v,some ⟨k,_,_,_,_⟩=>match k with
  |.iface=>none
  |.other=>none
  |_=>some (.iface t v)
 |_,_=>none
|.call ⟨.builtin .len,args,ts⟩=>match args.toList,ts.toList with
 |[x],[t]=>match ρ x with
  |some v=>Rn T t v
  |none=>none
 |_,_=>none
|_=>none
def MA (ρ:Operand->Option Value)(a:Act):Prop:=∀x v,ρ x=some v->a.eval x=v
theorem toList_eq (s:ByteArray):s.toList=s.data.toList:=ByteArray.toList_eq s
theorem xy {a b:ByteArray}(h:Kj op a b=some v)(w:World):(Op.stringOp op a b).run P w=.ok v w:=by
 unfold Kj at h;split at h <;> cases h <;> simp[Op.stringOp,toList_eq]
theorem eK {y:Operand}(w:World)(h:∀a b,u≠.agg a∨v≠.agg b)(h':u≠.nilIface∨v≠.nilIface) :
    (eqGuard op t x y u v).run P w=.ok () w:=by
  have key:(match u,v with
     |.nilIface,.nilIface=>(if (x matches .const _) || (y matches .const _) then pure () else do
          if <- Op.eqGuardIn Op.maxDepth t u v then unsupported (.noEntry "binop/eql: two nil values of an interface type with methods, neither of them the literal nil") : Sem Unit)
     |.agg _,.agg _=>do
        if !(<- program).eqGuardType (<- program).depth t then pure () else
        if <- Op.eqGuardIn Op.maxDepth t u v then unsupported (.noEntry "binop/eql: two nil values of an interface type with methods, in a part of a struct or an array")
     |_,_=>pure ())=pure ():=by
    split
    . rcases h' with h'|h' <;> exact absurd rfl h'
    . rename_i a b;rcases h a b with h|h <;> exact absurd rfl h
    rfl
  cases op <;> first|rfl|(unfold eqGuard;simp only[Bool.not_true,TG,Ui];exact congrArg (λs:Sem Unit=>s.run P w) key)
theorem Nl {T:Tab}(a:oZ P T=true){k:TK}{z:List Zv}(h:T.get t=some ⟨k,s,b,z,g⟩):∃d,P.underlying t=some d/\tkB d k=true :=
 let ⟨d,h1,h2,_⟩:=(dC a h).und
 ⟨d,h1,h2⟩
theorem bW {T:Tab}(a:oZ P T=true){z:List Zv}(h:T.get t=some ⟨.slice e,s,b,z,g⟩):P.underlying t=some (.slice e):=by
 obtain⟨d,h1,h2⟩:=Nl a h;cases d <;> simp[tkB]at h2
 rw[h1,h2]
theorem pU {T:Tab}(a:oZ P T=true){z:List Zv}(h:T.get t=some ⟨.str,s,b,z,g⟩):P.underlying t=some .string:=by
 obtain⟨d,h1,h2⟩:=Nl a h;cases d <;> simp[tkB]at h2
 exact h1
theorem Kc {T:Tab}(a:oZ P T=true){z:List Zv}(h:T.get t=some ⟨.bool,s,b,z,g⟩):P.underlying t=some .bool:=by
 obtain⟨d,h1,h2⟩:=Nl a h;cases d <;> simp[tkB]at h2
 exact h1
theorem pV {T:Tab}(a:oZ P T=true){k:IntKind}{z:List Zv}(h:T.get t=some ⟨.int k,s,b,z,g⟩):P.underlying t=some (.int k):=by
 obtain⟨d,h1,h2⟩:=Nl a h;cases d <;> simp[tkB]at h2
 rw[h1,h2]
theorem pW {T:Tab}(a:oZ P T=true){z:List Zv}(h:T.get t=some ⟨.arr n e,s,b,z,g⟩):P.underlying t=some (.array n e):=by
 obtain⟨d,h1,h2⟩:=Nl a h;cases d <;> simp[tkB]at h2
 rw[h1,h2.1,h2.2]
theorem nI {T:Tab}(e:oZ P T=true){c:List (Nat × Nat)}{z:List Zv}(h:T.get t=some ⟨.struct c,s,b,z,g⟩) :
  ∃a:Array Field,P.underlying t=some (.struct a)/\a.toList.map (λf=>(f.type,f.offset))=c:=by
 obtain⟨d,h1,h2⟩:=Nl e h;cases d <;> simp[tkB]at h2
 rename_i a;exact⟨a,h1,by simpa using h2⟩
theorem eD {T:Tab}(a:oZ P T=true){i:TI}(h:T.get t=some i)(w:World):(sizeOf t).run P w=.ok i.size w:=by
 obtain⟨f,h1,h2,_⟩:=(dC a h).info;simp[sizeOf,typeInfo,h1,h2]
theorem Iv {T:Tab}(a:oZ P T=true){i:TI}(h:T.get t=some i)(w:World):(isAgg t).run P w=.ok i.agg w:=by
 obtain⟨d,h1,_,h3⟩:=(dC a h).und;unfold isAgg;simp only[Sem.run_bind,run_underlying h1,Result.andThen_ok];rw[<- h3];cases d <;> rfl
theorem pN {T:Tab}(a:oZ P T=true){i:TI}(h:T.get t=some i)(w:World):(zeroValue t).run P w=.ok i.zv w:=by
 obtain⟨f,h1,_,_,h4,_⟩:=(dC a h).info;simp[zeroValue,typeInfo,h1,h4]
theorem G8 {T:Tab}(e:oZ P T=true)(h:JC T op t u v=some r)(w:World):(binOp op t u v).run P w=.ok r w:=by
  unfold JC at h;split at h
  . rename_i k a f b;by_cases c:k=f
    . subst c;simp only[beq_self_eq_true,Ux]at h;cases op <;> simp only[Ro]at h <;> (try cases h) <;> simp[binOp,Op.intArith,Op.intCmp]
    rw[UB.2 c]at h;cases h
  . rename_i a b;have:=xy (P:=P) h w;cases op <;> first|exact this|(simp[Kj]at h)
  . rename_i a b;split at h
    . rename_i g;have d:=Kc e g;split at h
      . cases h;exact run_eql_bool w t a b d
      . cases h;exact run_neq_bool w t a b d
      cases h
    cases h
  cases h
theorem zr {T:Tab}(h:JC T op t u v=some r):(∀a b,u≠.agg a∨v≠.agg b)/\(u≠.nilIface∨v≠.nilIface):=by
 unfold JC at h;split at h <;> first|(cases h;done)|exact⟨λ_ _=>.inl am,.inl am⟩
theorem Hz {T:Tab}(B:oZ P T=true){G:Operand->Option Value}(j:MA G a){o:Oper}(h:po T G o.op=some v)(w:World) :
    (execOp a.eval o).run P w=.ok (.value v) w:=by
  obtain⟨V,op,W,pos,X,Y⟩:=o;simp only at h;unfold po at h;split at h
  case h_1 x=>simp[execOp,j _ _ h]
  case h_2 x=>simp[execOp,j _ _ h]
  case h_3 t x =>
    split at h
    . rename_i b E;cases h;simp[execOp,j _ _ E,Op.unary]
    cases h
  case h_4 t x =>
    split at h
    . rename_i k n E;cases h;simp[execOp,j _ _ E,Op.unary,Op.intArith]
    cases h
  case h_5 op t x y _ =>
    split at h
    . rename_i u r l hr;have H:=zr h;simp[execOp,j _ _ l,j _ _ hr,eK (P:=P) (op:=op) (t:=t) (x:=x) (y:=y) w H.1 H.2,G8 B h w]
    cases h
  case h_6 x i =>
    split at h
    . rename_i vs D;simp only[Array.getElem?_toList]at h;simp[execOp,j _ _ D,Instr.extract,h]
    cases h
  case h_7 t x f =>
    split at h
    . rename_i K D;split at h
      . rename_i fs _ _ _ _ p;split at h
        . rename_i L off q;split at h
          . rename_i Z s b z g M;cases F:Nat.beq s 0 with
           |true=>rw[F]at h;cases h
           |false =>
              rw[F]at h;simp only[cond_false,Tv]at h;subst h;obtain⟨I,l,hm⟩:=nI B p;have N:∃C,I[f]?=some C/\C.type=L/\C.offset=off:=by
                rw[<- hm,SI]at q;cases m:I.toList[f]? with
               |none=>rw[m]at q;cases q
               |some C =>
                  rw[m]at q;simp only[Uk,Tv,UW]at q;exact⟨C,by simpa using m,q.1,q.2⟩
              obtain⟨C,h1,rfl,rfl⟩:=N;have O:s≠0:=λe=>by subst e;cases F
              have h2:=eD B M w;simp only at h2;simp[execOp,j _ _ D,Instr.fieldAt,run_underlying l,h1,Instr.sureAddr,fieldPlace,h2,O]
          cases h
        cases h
      cases h
    cases h
  case h_8 x =>
    split at h
    . rename_i K D;cases h;simp[execOp,j _ _ D]
    cases h
  case h_9 fn first captured =>
    split at h
    . rename_i vs us h1 h2;cases h
      have Q:=fh (λx y=>j x y) h1;have R:=fh (λx y=>j x y) h2;have S:first.map a.eval=vs.toArray:=by apply Uz;rw[<- Q];simp
      have U:captured.map a.eval=us.toArray:=by apply Uz;rw[<- R];simp
      simp[execOp,Instr.makeFunc,S,U]
    cases h
  case h_10 t x =>
    split at h
    . rename_i v' k _ _ _ _ m p;obtain⟨d,l,hk⟩:=Nl B p;split at h
      . cases h
      . cases h
      cases h
      rename_i h1 h2;cases d <;> first|(simp[execOp,Instr.makeInterface,run_underlying l,j _ _ m];done)|(cases k <;> simp_all [tkB])
    cases h
  case h_11 args J =>
    split at h
    . rename_i x t m ht;split at h
      . rename_i u l;obtain⟨args⟩:=args;obtain⟨J⟩:=J;simp only at m ht;subst m;subst ht;unfold Rn at h;split at h
        . rename_i A n c;split at h
          . rename_i p;cases h
            simp[execOp,resolve,invoke,builtin,j _ _ l,Builtin.len_,run_underlying (bW B p),goInt]
          cases h
        . rename_i s;split at h
          . rename_i p;cases h
            simp[execOp,resolve,invoke,builtin,j _ _ l,Builtin.len_,run_underlying (pU B p),goInt]
          cases h
        cases h
      cases h
    cases h
  case h_12=>cases h
end Go.Jog
namespace Go.Jog
open Go
variable {C:Mem}{P:Program}{a:Addr}{cs:List Value}{dd:List Deferred}{ds:List (Option Nat)}{fr:Fr}{g:GL}{k n:Nat}{o:Oper}{ops:Array Oper}{p v:Value}{w:World}{xs:List (List Value)}
structure Cx where
 P:Program
 T:Tab
 mixed:P.follows .mixedOrders=true
 hT:oZ P T=true
structure Bs where
 w0:World
 C0:Mem
 L0:List Ent
def Bs.cls (b:Bs):Mem × List Ent->World->Prop:=Jog.cls b.w0 b.C0 b.L0
abbrev It:=Nat × Nat × Oper
structure Rg (n:Nat)(ds:List (Option Nat)) where
 b:Bs
 ops:Array Oper
 kd:Nat->Nat
 Post:Act->Mem × List Ent->Prop
 hy:∀tmps,yielded ops tmps=yld ds tmps
 dd:List Deferred
def D (cx:Cx){n:Nat}{ds:List (Option Nat)}(R:Rg n ds)(its:List It)(fr:Fr)(C:Mem)(L:List Ent):Prop :=
 R.b.C0.le C->(∀x∈its,R.kd x.1=x.2.1/\R.ops[x.1]?=some x.2.2)->∀a,FrOk n ds R.dd fr a->DU cx.P R.ops R.b.cls kle R.kd R.Post (its.map (·.1)) a (C,L)
def wfG (ds:List (Option Nat))(fr:Fr)(g:GL):Bool:=g.all λp=>match ((ds[p.1]?).bind id).bind fr.get with
|some (_,.bool _)=>true
|_=>false
theorem J6 (h:wfG ds fr g=true):∀p∈g,∃a b,((ds[p.1]?).bind id).bind fr.get=some (a,.bool b):=by
 intro p hp;have:=S3.1 h p hp;split at this
 .rename_i a b c;exact⟨a,b,c⟩
 cases this
theorem sS (m:∀tmps,yielded ops tmps=yld ds tmps){a:Act}(h:FrOk n ds dd fr a)(c:gOf ds fr o.guard=some g) :
    Region.wanted o (yielded ops a.tmps)=true ↔ GH ds a.tmps g:=by
  unfold Region.wanted;rw[m];cases f:o.guard with
 |none =>
    rw[f]at c;simp only[gOf,Tv]at c;subst c;simp[GH]
 |some q =>
    obtain⟨j,w⟩:=q;rw[f]at c;simp only[gOf]at c;split at c
    . rename_i i b k;cases c
      simp only[Uo];constructor
      . intro l p hp;rcases SY.1 hp with rfl|hp
        . exact l
        obtain⟨d,hd,ht⟩:=BW l;rw[hd]at k;have r:=h.ent d i (.bool b) k;by_cases e:GH ds a.tmps i
        . exact e p hp
        have:=r.2 e;rw[ht]at this;simp[undef]at this
      intro e;exact e (j,w) am
    cases c
def gOn (ds:List (Option Nat))(fr:Fr):Option (Nat × Bool)->Bool
|none=>true
|some (j,w)=>match ((ds[j]?).bind id).bind fr.get with
 |some ([],.bool b)=>b == w
 |_=>false
theorem wN (f:∀tmps,yielded ops tmps=yld ds tmps){a:Act}(h:FrOk n ds dd fr a)(c:gOn ds fr o.guard=true):Region.wanted o (yielded ops a.tmps)=true:=by
  unfold Region.wanted;rw[f];cases g:o.guard with
 |none=>rfl
 |some i =>
    obtain⟨j,w⟩:=i;rw[g]at c;simp only[gOn]at c;split at c
    . rename_i b e;simp only[Uo]at c;subst c;simp only[Uo];unfold yld;cases hd:(ds[j]?).bind id with
     |none=>rw[hd]at e;cases e
     |some d =>
        rw[hd]at e;have:=(h.ent d [] _ e).1 (λp hp=>by cases hp);simp[this]
    cases c
section
variable {cx:Cx} {n:Nat} {ds:List (Option Nat)} {R:Rg n ds} {its:List It} {fr:Fr} {C:Mem} {L:List Ent} {i k d:Nat} {o:Oper} {g:GL} {v:Value}
theorem Xe (p:Nat.ble k 1=true)(A:o.dst=some d)(B:gOf ds fr o.guard=some g)(q:aZ n ds ((d,g,v)::fr) d=true)(E:wfG ds fr g=true)
  (F:GT ds fr g->∀a,MA (ev fr g) a->∀e,(k=1->kle (C,L) e)->∀w,R.b.cls e w->o.quietAt cx.P a (R.b.cls e) w v)
  (h:D cx R its ((d,g,v)::fr) C L):D cx R ((i,k,o)::its) fr C L:=by
 intro r l a j;obtain⟨s,t⟩:=l (i,k,o) am;simp only at s t;have G:k<=1:=by rw[UC]at p;exact p
 simp only[Tq,DU];unfold gV;simp only[t,s,G,UK,A];have y:=sS R.hy j B;by_cases f:GH ds a.tmps g
 .refine⟨v,λe z=>.inl ⟨y.2 f,λw H=>F (RP j f (J6 E)) a (λx u c=>bP j f c) e z w H⟩, ?_⟩;exact h r (λx c=>l x (by simp[c])) _ (j.put q ⟨λ_=>rfl,λm=>absurd f m⟩)
 refine⟨undef,λe z=>.inr ⟨by cases c:Region.wanted o (yielded R.ops a.tmps) with|false=>rfl|true=>exact absurd (y.1 c) f,rfl⟩, ?_⟩;exact h r (λx c=>l x (by simp[c])) _ (j.put q ⟨λm=>absurd m f,λ_=>rfl⟩)
theorem D.pure (b:Nat.ble k 1=true)(c:o.dst=some d)(e:gOf ds fr o.guard=some g)(f:po cx.T (ev fr g) o.op=some v)(j:aZ n ds ((d,g,v)::fr) d=true)(l:wfG ds fr g=true)
  (h:D cx R its ((d,g,v)::fr) C L):D cx R ((i,k,o)::its) fr C L :=
 Xe b c e j l (λ_ a hs p _ w _=>by
  unfold Oper.quietAt;rw[Hz cx.hT (λx u m=>hs x u m) f w];exact⟨U,U⟩) h
theorem Wt  (a:Z6 (Nat.ble k 1) true o.dst (some d) (gOf ds fr o.guard) (some g) (po cx.T (ev fr g) o.op) (some v) (aZ n ds ((d,g,v)::fr) d) true (wfG ds fr g) true)(h:D cx R its ((d,g,v)::fr) C L):D cx R ((i,k,o)::its) fr C L:=have ⟨b,hd,c,e,hp,f⟩:=a;D.pure b hd c e hp f h
def idxOf (ds:List (Option Nat))(t:Nat):Nat->Option Nat
|j=>match ds with
 |[]=>none
 |some d::r=>bif Nat.beq d t then some j else idxOf r t (j+1)
 |none::r=>idxOf r t (j+1)
theorem nY:∀{ds:List (Option Nat)}{t j m:Nat},idxOf ds t j=some m->j<=m/\(ds[m-j]?).bind id=some t
|[],t,j,m,h=>by simp[idxOf]at h
|some d::r,t,j,m,h=>by
  simp only[idxOf]at h;cases a:Nat.beq d t with
 |true =>
   rw[a]at h;simp only[Ux,Tv]at h;subst h;exact⟨SH _,by simp[Tr a]⟩
 |false =>
   rw[a]at h;obtain⟨h1,h2⟩:=nY h;refine⟨by omega, ?_⟩;rw[show m-j=(m-(j+1))+1 by omega];simpa using h2
|none::r,t,j,m,h=>by
  simp only[idxOf]at h;obtain⟨h1,h2⟩:=nY h;refine⟨by omega, ?_⟩;rw[show m-j=(m-(j+1))+1 by omega];simpa using h2
theorem Yf {b l:Nat}{x y:Operand}{m xb yb:Bool}(z:Nat.ble k 1=true)(I:o.dst=some d)(J:o.op=.pick (.tmp b) x y)(K:gOf ds fr o.guard=some g)
  (M:ev fr g (.tmp b)=some (.bool m)) (N:idxOf ds b 0=some l)
  (c:ev fr ((l,true)::g) x=some (.bool xb)) (O:ev fr ((l,false)::g) y=some (.bool yb)) (P:v=.bool (bif m then xb else yb))
  (A:aZ n ds ((d,g,v)::fr) d=true)
  (h:D cx R its ((d,g,v)::fr) C L):D cx R ((i,k,o)::its) fr C L:=by
 intro B r a q;obtain⟨E,F⟩:=r (i,k,o) am;simp only at E F;have Q:k<=1:=by rw[UC]at z;exact z
 simp only[Tq,DU];unfold gV;simp only[F,E,Q,UK,I];have G:=sS R.hy q K;by_cases e:GH ds a.tmps g
 .have f:a.eval (.tmp b)=.bool m:=bP q e M;have S:a.tmps[b]?=some (.bool m):=by
   simp only[Act.eval,TM]at f;cases ht:a.tmps[b]? with
  |none=>rw[ht]at f;simp[undef]at f
  |some u=>rw[ht]at f;simp at f;rw[f]
  have H:yld ds a.tmps l=some m:=by
   unfold yld;have:=(nY N).2;simp only[VK]at this;rw[this];simp[S]
  have T:(execOp a.eval o)=Pure.pure (.value v):=by
   have V:execOp a.eval o=(do Pure.pure (.value (if <- asBool (a.eval (.tmp b)) then a.eval x else a.eval y)):Sem Next):=by unfold execOp;rw[J]
   rw[V,f,P];cases m with
  |true =>
    have s:GH ds a.tmps ((l,true)::g):=λp j=>by
     rcases SY.1 j with rfl|j
     .exact H
     exact e p j
    rw[bP q s c];rfl
  |false =>
    have s:GH ds a.tmps ((l,false)::g):=λp j=>by
     rcases SY.1 j with rfl|j
     .exact H
     exact e p j
    rw[bP q s O];rfl
  refine⟨v,λW X=>.inl ⟨G.2 e,λw Y=>?_⟩, ?_⟩
  .unfold Oper.quietAt;rw[T];exact⟨U,U⟩
  exact h B (λx c=>r x (by simp[c])) _ (q.put A ⟨λ_=>rfl,λt=>absurd e t⟩)
 refine⟨undef,λW X=>.inr ⟨by cases c:Region.wanted o (yielded R.ops a.tmps) with|false=>rfl|true=>exact absurd (G.1 c) e,rfl⟩, ?_⟩;exact h B (λx c=>r x (by simp[c])) _ (q.put A ⟨λt=>absurd t e,λ_=>rfl⟩)
theorem YI {b e:Nat}{x:Operand}{a c:Bool}(f:Nat.ble k 1=true)(j:o.dst=some d)(l:o.op=.pick (.tmp b) x (.const (.bool false)))(m:gOf ds fr o.guard=some g)
  (p:ev fr g (.tmp b)=some (.bool a)) (q:idxOf ds b 0=some e)
  (r:ev fr ((e,true)::g) x=some (.bool c))
  (s:aZ n ds ((d,g,.bool (a && c))::fr) d=true)
  (h:D cx R its ((d,g,.bool (a && c))::fr) C L):D cx R ((i,k,o)::its) fr C L :=
 Yf f j l m p q r (yb:=false) rfl (by cases a <;> rfl) s h
theorem WR {a e:Nat}{x:Operand}{b c:Bool}(f:Z8 (Nat.ble k 1) true o.dst (some d) o.op (.pick (.tmp a) x (.const (.bool false))) (gOf ds fr o.guard) (some g) (ev fr g (.tmp a)) (some (.bool b)) (idxOf ds a 0) (some e) (ev fr ((e,true)::g) x) (some (.bool c)) (aZ n ds ((d,g,.bool (b && c))::fr) d) true)(h:D cx R its ((d,g,.bool (b && c))::fr) C L):D cx R ((i,k,o)::its) fr C L:=have ⟨j,hd,l,m,p,q,r,hp⟩:=f;YI j hd l m p q r hp h
theorem YN {b c:Nat}{y:Operand}{a yb:Bool}(e:Nat.ble k 1=true)(f:o.dst=some d)(j:o.op=.pick (.tmp b) (.const (.bool true)) y)(l:gOf ds fr o.guard=some g)
  (m:ev fr g (.tmp b)=some (.bool a)) (p:idxOf ds b 0=some c)
  (q:ev fr ((c,false)::g) y=some (.bool yb))
  (r:aZ n ds ((d,g,.bool (a || yb))::fr) d=true)
  (h:D cx R its ((d,g,.bool (a || yb))::fr) C L):D cx R ((i,k,o)::its) fr C L :=
 Yf e f j l m p (xb:=true) rfl q (by cases a <;> rfl) r h
theorem WX {a c:Nat}{y:Operand}{b yb:Bool}(e:Z8 (Nat.ble k 1) true o.dst (some d) o.op (.pick (.tmp a) (.const (.bool true)) y) (gOf ds fr o.guard) (some g) (ev fr g (.tmp a)) (some (.bool b)) (idxOf ds a 0) (some c) (ev fr ((c,false)::g) y) (some (.bool yb)) (aZ n ds ((d,g,.bool (b || yb))::fr) d) true)(h:D cx R its ((d,g,.bool (b || yb))::fr) C L):D cx R ((i,k,o)::its) fr C L:=have ⟨f,hd,j,l,m,p,hy,hp⟩:=e;YN f hd j l m p hy hp h
theorem Xc {S:Value->Mem->List Ent->Prop}(r:Nat.ble k 1=false)(A:o.dst=some d)(B:gOn ds fr o.guard=true)(j:∀v,aZ n ds ((d,[],v)::fr) d=true)
  (E:∀a,MA (ev fr []) a->∀w,R.b.C0.le C->R.b.cls (C,L) w->o.wp cx.P a w (λs w'=>∃v c f,s=a.put o.dst v/\C.le c/\(k=2->∀x∈L,x∈f)/\R.b.cls (c,f) w'/\S v c f) (QN λ_ _=>False))
  (h:∀v c f,C.le c->S v c f->D cx R its ((d,[],v)::fr) c f):D cx R ((i,k,o)::its) fr C L:=by
 intro t y a l;obtain⟨z,m⟩:=y (i,k,o) am;simp only at z m;have F:¬ k<=1:=λg=>by rw[<- UC]at g;rw[g]at r;cases r
 simp only[Tq,DU];unfold gV;simp only[m,z,F,Ui];intro w G;unfold wpOp;simp only[m];have H:Region.wanted o (yielded R.ops a.tmps)=true:=wN R.hy l B;simp only[H,UK];refine .inl (Oper.wp_mono (λs w' ⟨v,c,f,e,g,I,J,K⟩=>⟨(c,f),λh2=>⟨g,I h2⟩,J, ?_⟩) (E a (λx u q=>bP l (λp j=>by cases j) q) w t G));rw[e,A];refine h v c f g K (t.trans g) (λx q=>y x (by simp[q])) _ (l.put (j v) ⟨λ_=>rfl,λM=>absurd (λp j=>by cases j) M⟩)
theorem XI {S:Mem->List Ent->Prop}(m:Nat.ble k 1=false)(t:gOn ds fr o.guard=true)
  (v:∀a,MA (ev fr []) a->∀w,R.b.C0.le C->R.b.cls (C,L) w->o.wp cx.P a w (λn w'=>∃c d,n=a/\C.le c/\(k=2->∀x∈L,x∈d)/\R.b.cls (c,d) w'/\S c d) (QN λ_ _=>False))
  (h:∀c d,C.le c->S c d->D cx R its fr c d):D cx R ((i,k,o)::its) fr C L:=by
 intro q r a g;obtain⟨s,j⟩:=r (i,k,o) am;simp only at s j;have y:¬ k<=1:=λf=>by rw[<- UC]at f;rw[f]at m;cases m
 simp only[Tq,DU];unfold gV;simp only[j,s,y,Ui];intro w z;unfold wpOp;simp only[j];have A:Region.wanted o (yielded R.ops a.tmps)=true:=wN R.hy g t;simp only[A,UK];refine .inl (Oper.wp_mono (λn w' ⟨c,d,e,f,B,E,F⟩=>⟨(c,d),λh2=>⟨f,B h2⟩,E, ?_⟩) (v a (λx u l=>bP g (λp hp=>by cases hp) l) w q z));rw[e];exact h c d f F (q.trans f) (λx l=>r x (by simp[l])) _ g
end
def CCell (C:Mem)(a:Addr)(v:Value):Prop:=a.spot=none/\∃blk t fz,C a.block=some (.cells blk t fz)/\blk[a.off]?=some v
theorem CCell.mono {D:Mem}(h:CCell C a v)(b:C.le D):CCell D a v :=
 let ⟨h0,blk,t,fz,h1,h2⟩:=h
 ⟨h0,blk,t,fz,b _ _ h1,h2⟩
theorem CCell.m_ {D:Mem}(h:CCell C a v)(b:C.le D:=by exact mup):CCell D a v:=CCell.mono h b
theorem CCell.cell {C:Mem}{L:List Ent}{w:World}{a:Addr}{v:Value}(h:CCell C a v)(b:Sep C L w):w.cell? a=some v:=by
 obtain⟨h0,blk,t,fz,h1,h2⟩:=h;simp[World.cell?,b.c _ _ h1,h0,h2]
def PtrTo (C:Mem)(p:Value)(cs:List Value):Prop:=∃a:Addr,p=.pointer (some a)/\a.spot=none/\∀j v,cs[j]?=some v->CCell C (a.add j) v
theorem PtrTo.mono {C D:Mem}{p:Value}{b:List Value}(h:PtrTo C p b)(c:C.le D):PtrTo D p b :=
 let ⟨a,h1,h2,h3⟩:=h
 ⟨a,h1,h2,λj v d=>(h3 j v d).mono c⟩
theorem PtrTo.m_ {D:Mem}(h:PtrTo C p cs)(a:C.le D:=by exact mup):PtrTo D p cs:=PtrTo.mono h a
theorem wq (a:Addr)(i j:Nat)(h:a.spot=none):(a.add i).add j=a.add (i+j):=by
 obtain⟨b,o,s⟩:=a;simp only at h;subst h;unfold Addr.add;by_cases c:i=0 <;> by_cases d:j=0 <;> simp[c,d,UQ]
theorem uI (a:Addr)(i:Nat)(h:a.spot=none):(a.add i).spot=none:=by
 unfold Addr.add;split <;> simp[h]
theorem PtrTo.part (h:PtrTo C p cs)(o s:Nat):∃a:Addr,p=.pointer (some a)/\PtrTo C (.pointer (some (a.add o))) ((cs.drop o).take s):=by
 obtain⟨a,h1,h2,h3⟩:=h;refine⟨a,h1,a.add o,U,uI a o h2,λj v b=>?_⟩;rw[wq a o j h2];refine h3 _ v ?_;rw[TA]at b;split at b
 .simpa using b
 cases b
def Sl (C:Mem)(k:Nat)(v:Value)(xs:List (List Value)):Prop :=
 ∃A c,v=.slice A xs.length c/\xs.length<=c/\c<=maxLen/\(∀x∈xs,x.length=k)/\∀i x,xs[i]?=some x->∃a:Addr,A=some a/\a.spot=none/\∀j v,x[j]?=some v->CCell C (a.add (i*k+j)) v
theorem Sl.mono {C D:Mem}{k:Nat}{v:Value}{b:List (List Value)}(h:Sl C k v b)(d:C.le D):Sl D k v b :=
 let ⟨A,c,h1,h2,h3,h4,h5⟩:=h
 ⟨A,c,h1,h2,h3,h4,λi x e=>let ⟨a,f,g,l⟩:=h5 i x e;⟨a,f,g,λj v m=>(l j v m).mono d⟩⟩
theorem Sl.m_ {D:Mem}(h:Sl C k v xs)(a:C.le D:=by exact mup):Sl D k v xs:=Sl.mono h a
theorem Sl.nil (C:Mem)(k:Nat):Sl C k (.slice none 0 0) []:=⟨none,0,rfl,SH _,SM _,λx a=>(by cases a),λi x a=>(by simp at a)⟩
theorem Sl.ptr (h:Sl C k v xs){i:Nat}{x:List Value}(b:xs[i]?=some x) :
  ∃(a:Addr)(c:Nat),v=.slice (some a) xs.length c/\i<xs.length/\PtrTo C (.pointer (some (a.add (i*k)))) x:=by
 obtain⟨A,c,h1,h2,h3,h4,h5⟩:=h;obtain⟨a,rfl,d,e⟩:=h5 i x b;exact⟨a,c,h1,(R0.1 b).1,a.add (i*k),U,uI a _ d,λj v f=>by rw[wq a _ j d];exact e j v f⟩
theorem kR (h:∀j v,cs[j]?=some v->w.cell? (a.add j)=some v):(loadCells a cs.length).run P w=.ok cs.toArray w:=run_loadCells_list (P:=P) (w:=w) a cs h
theorem eZ {T:Tab}(e:oZ P T=true){t:Nat}{c:TI}(f:T.get t=some c)(h:∀j v,cs[j]?=some v->w.cell? (a.add j)=some v)
     (b:(bif c.agg then (bif Nat.beq cs.length c.size then some (.agg cs.toArray) else none) else cs[0]?)=some v):(loadVar t a).run P w=.ok v w:=by
  unfold loadVar;simp only[Sem.run_bind,Iv e f w,Result.andThen_ok];cases g:c.agg with
 |true =>
    rw[g]at b;simp only[Ux]at b;cases d:Nat.beq cs.length c.size with
   |false=>rw[d]at b;cases b
   |true =>
      rw[d]at b;simp only[Ux,Tv]at b;subst b;have i:=Tr d;simp only[UK,Sem.run_bind,eD e f w,Result.andThen_ok,<- i,kR h];rfl
 |false =>
    rw[g]at b;simp only[cond_false]at b;have:=h 0 v b;simp only[Addr.add,UK]at this;simp[this]
section
variable {cx:Cx} {n:Nat} {ds:List (Option Nat)} {R:Rg n ds} {its:List It} {fr:Fr} {C:Mem} {L:List Ent} {i k d:Nat} {o:Oper} {g:GL} {v:Value}
def cJ (ti:TI)(cs:List Value):Option Value:=bif ti.agg then (bif Nat.beq cs.length ti.size then some (.agg cs.toArray) else none) else cs[0]?
theorem WU {t:Nat}{x:Operand}{p:Value}{b:List Value}{c:TI}(f:Z6 k 1 o.dst (some d) o.op (.load t x) (gOf ds fr o.guard) (some g) (ev fr g x) (some p) (cx.T.get t) (some c))(l:GT ds fr g->PtrTo C p b)(m:Z3 (cJ c b) (some v) (aZ n ds ((d,g,v)::fr) d) true (wfG ds fr g) true)(h:D cx R its ((d,g,v)::fr) C L):D cx R ((i,k,o)::its) fr C L :=
 have ⟨e,hd,q,r,s,ht⟩:=f;have ⟨y,hp,z⟩:=m;Xe (by subst e;rfl) hd r hp z (λA a hs J B w E=>by
  obtain⟨K,rfl,_,F⟩:=l A;have G:(execOp a.eval o).run cx.P w=.ok (.value v) w:=by
   have H:execOp a.eval o=(do Pure.pure (.value (<- Instr.loadAt t (a.eval x))):Sem Next):=by unfold execOp;rw[q]
   rw[H,hs _ _ s];simp only[Instr.loadAt,Instr.sureAddr,Sem.run_bind,Sem.run_pure,Result.andThen_ok];rw[eZ cx.hT ht (λj u I=>((F j u I).mono (B e).1).cell E.sep) y];rfl
  unfold Oper.quietAt;rw[G];exact⟨U,U⟩) h
theorem Xo {t b c:Nat}{x:Operand}{f:List Value}{p:TypeId}{q:Nat × Nat}{l:TI}(s:Ent.obj b (.cells ⟨f⟩ p q)∈L)(y:Z9 k 1 o.dst (some d) o.op (.load t x) (gOf ds fr o.guard) (some g) (ev fr g x) (some (.pointer (some ⟨b,c,none⟩))) (cx.T.get t) (some l) (cJ l ((f.drop c).take l.size)) (some v) (aZ n ds ((d,g,v)::fr) d) true (wfG ds fr g) true)(h:D cx R its ((d,g,v)::fr) C L):D cx R ((i,k,o)::its) fr C L :=
 have ⟨r,hd,z,A,B,ht,E,hp,F⟩:=y;Xe (by subst r;rfl) hd A hp F (λ_ a hs N G w H=>by
  have I:w.heap[b]?=some (.cells ⟨f⟩ p q):=H.sep.e _ ((G r).2 _ s);have J:∀j u,((f.drop c).take l.size)[j]?=some u->w.cell? ((⟨b,c,none⟩:Addr).add j)=some u:=λj u m=>by
   rw[Addr.add_lit,cell_of_row w b (c+j) _ p q I];rw[TA]at m;split at m
   .simpa using m
   cases m
  have K:(execOp a.eval o).run cx.P w=.ok (.value v) w:=by
   have M:execOp a.eval o=(do Pure.pure (.value (<- Instr.loadAt t (a.eval x))):Sem Next):=by unfold execOp;rw[z]
   rw[M,hs _ _ B];simp only[Instr.loadAt,Instr.sureAddr,Sem.run_bind,Sem.run_pure,Result.andThen_ok];rw[eZ cx.hT ht J E];rfl
  unfold Oper.quietAt;rw[K];exact⟨U,U⟩) h
theorem WA {t b c:Nat}{x:Operand}{e:List Value}{f:TypeId}{j:Nat × Nat}{a:TI}(l:Ent.obj b (.cells ⟨e⟩ f j)∈L)(m:Z9 k 1 o.dst (some d) o.op (.load t x) (gOf ds fr o.guard) (some g) (ev fr g x) (some (.pointer (some ⟨b,c,none⟩))) (cx.T.get t) (some a) (cJ a ((e.drop c).take a.size)) (some v) (aZ n ds ((d,g,v)::fr) d) true (wfG ds fr g) true)(h:D cx R its ((d,g,v)::fr) C L):D cx R ((i,k,o)::its) fr C L:=have ⟨p,hd,q,r,s,ht,u,hp,w⟩:=m;Xo l ⟨p,hd,q,r,s,ht,u,hp,w⟩ h
theorem D.index {t e:Nat}{x y:Operand}{H:IntKind}{m:Int}{s:Value}{b:Nat}{c:List (List Value)}{q:List Value}{f r:TI}(I:Z10 (Nat.ble k 1) true o.dst (some d) o.op (.indexAddr t x y) (gOf ds fr o.guard) (some g) (ev fr g x) (some s) (ev fr g y) (some (.int H m)) (cx.T.get t) (some f) f.k (.slice e) (cx.T.get e) (some r) r.size b)(J:GT ds fr g->Sl C b s c/\0<=m/\c[m.toNat]?=some q)(u:∀v,aZ n ds ((d,g,v)::fr) d=true)(z:wfG ds fr g=true)(h:∀p,(GT ds fr g->PtrTo C p q)->D cx R its ((d,g,p)::fr) C L):D cx R ((i,k,o)::its) fr C L:=by
 have ⟨A,hd,K,B,M,hy,ht,E,N,O⟩:=I;have Q:cx.P.underlying t=some (.slice e):=by
  obtain⟨kk,s1,b1,z1,g1⟩:=f;simp only at E;subst E;exact bW cx.hT ht
 by_cases j:GT ds fr g
 .obtain⟨S,hm,V⟩:=J j;obtain⟨F,c0,W,ab,X⟩:=S.ptr V;refine Xe A hd B (u (.pointer (some (F.add (m.toNat*b))))) z (λ_ a G ac ad w hw=>?_) (h _ (λ_=>X));have Y:(execOp a.eval o).run cx.P w=.ok (.value (.pointer (some (F.add (m.toNat*b))))) w:=by
   have Z:execOp a.eval o=(do Pure.pure (.value (<- Instr.indexAt t (a.eval x) (a.eval y))):Sem Next):=by unfold execOp;rw[K]
   rw[Z,G _ _ M,G _ _ hy,W];have h2:=eD cx.hT N w;rw[O]at h2;have aa:m<(c.length:Int):=by omega
   simp[Instr.indexAt,asIntOf,run_underlying Q,h2,hm,aa]
  unfold Oper.quietAt;rw[Y];exact⟨U,U⟩
 exact Xe A hd B (u undef) z (λl=>absurd l j) (h _ (λl=>absurd l j))
theorem X4 {t f q b:Nat}{x:Operand}{p:Value}{r:List Value}{e c:TI}{s:List (Nat × Nat)}(y:Nat.ble k 1=true)(z:o.dst=some d)(J:o.op=.fieldAddr t x f)
  (A:gOf ds fr o.guard=some g) (j:ev fr g x=some p) (K:cx.T.get t=some e) (B:e.k=.struct s) (M:s[f]?=some (q,b)) (N:cx.T.get q=some c) (E:Nat.beq c.size 0=false)
  (O:GT ds fr g->PtrTo C p r) (F:∀v,aZ n ds ((d,g,v)::fr) d=true) (G:wfG ds fr g=true)
  (h:∀H,(GT ds fr g->PtrTo C H ((r.drop b).take c.size))->D cx R its ((d,g,H)::fr) C L):D cx R ((i,k,o)::its) fr C L:=by
 by_cases l:GT ds fr g
 .obtain⟨I,P,Q⟩:=(O l).part b c.size;refine Xe y z A (F (.pointer (some (I.add b)))) G (λ_ a S W X w Y=>?_) (h _ (λ_=>Q));have V:po cx.T (ev fr g) o.op=some (.pointer (some (I.add b))):=by
   rw[J];obtain⟨Z,s1,b1,z1,g1⟩:=e;simp only at B;subst B;obtain⟨k2,s2,b2,z2,g2⟩:=c;simp only[po,j,P,K,M,N];simp only at E;rw[E];rfl
  unfold Oper.quietAt;rw[Hz cx.hT (λx u j=>S x u j) V w];exact⟨U,U⟩
 exact Xe y z A (F undef) G (λm=>absurd m l) (h _ (λm=>absurd m l))
end
end Go.Jog
namespace Go.Jog
open Go
section
variable {cx:Cx} {n:Nat} {ds:List (Option Nat)} {R:Rg n ds} {its:List It} {fr:Fr} {C:Mem} {L:List Ent} {i k d:Nat} {o:Oper} {g:GL} {v:Value}
theorem XO {f:Nat->Value}{ob:Obj}(g:Nat.ble k 1=false)(j:o.dst=some d)(l:gOn ds fr o.guard=true)(m:∀v,aZ n ds ((d,[],v)::fr) d=true)
  (p:∀a,MA (ev fr []) a->∀w,(execOp a.eval o).run cx.P w=.ok (.value (f w.heap.size)) (w.alloc ob))
  (h:∀b,D cx R its ((d,[],f b)::fr) C (.obj b ob::L)):D cx R ((i,k,o)::its) fr C L :=
 Xc (S:=λv c e=>c=C/\∃b,v=f b/\e=.obj b ob::L) g j l m (λa hs w _ q=>by
  unfold Oper.wp;rw[p a hs w];exact⟨_,C,.obj w.heap.size ob::L,U,Mem.le.refl _,λ_ x r=>by simp[r],St.alloc q ob,U,_,U,U⟩)
  (λv c e _ ⟨s,b,t,u⟩=>by subst s;subst t;subst u;exact h b)
theorem Yh {f:Nat->Value}{ob:Obj}(g:Nat.ble k 1=false)(j:o.dst=some d)(l:gOn ds fr o.guard=true)(m:∀v,aZ n ds ((d,[],v)::fr) d=true)
  (p:∀a,MA (ev fr []) a->∀w,(execOp a.eval o).run cx.P w=.ok (.value (f w.heap.size)) (w.alloc ob))
  (h:∀b c,C.le c->c b=some ob->D cx R its ((d,[],f b)::fr) c L):D cx R ((i,k,o)::its) fr C L :=
 Xc (S:=λv c e=>e=L/\∃b,v=f b/\c b=some ob) g j l m (λa hs w z q=>by
  unfold Oper.wp;rw[p a hs w];have h1:=St.alloc q ob;have h2:=h1.freeze;exact⟨_,C.set w.heap.size ob,L,U,h2.1,λ_ x r=>r,h2.2,U,_,U,Mem.set_self _ _ _⟩)
  (λv c e s ⟨t,b,u,y⟩=>by subst t;subst u;exact h b c s y)
theorem tj {P:Program}(t:TypeId)(v:Value)(w:World):(newVar t v).run P w=.ok ⟨w.heap.size,0,none⟩ (w.alloc (.cells v.cells t)):=rfl
theorem D.alloc {t:Nat}{c:TI}(g:Nat.ble k 1=false)(j:o.dst=some d)(l:gOn ds fr o.guard=true)(m:o.op=.alloc t)(e:cx.T.get t=some c)(p:∀v,aZ n ds ((d,[],v)::fr) d=true)
  (h:∀b,D cx R its ((d,[],.pointer (some ⟨b,0,none⟩))::fr) C (.obj b (.cells ⟨c.zero.map Zv.val⟩ t (0,0))::L)):D cx R ((i,k,o)::its) fr C L :=
 XO (f:=λb=>.pointer (some ⟨b,0,none⟩)) g j l p (λa _ w=>by
  have q:execOp a.eval o=(do Pure.pure (.value (<- Instr.alloc t true (.tuple #[]))):Sem Next):=by unfold execOp;rw[m]
  obtain⟨f,_,_,_,_,r⟩:=(dC cx.hT e).info;rw[q];simp only[Instr.alloc,Sem.run_bind,pN cx.hT e w,Result.andThen_ok,tj,Sem.run_pure,r]) h
theorem WI {t:Nat}{a:TI}(c:Z5 (Nat.ble k 1) false o.dst (some d) (gOn ds fr o.guard) true o.op (.alloc t) (cx.T.get t) (some a))(h:∀b,D cx R its ((d,[],.pointer (some ⟨b,0,none⟩))::fr) C (.obj b (.cells ⟨a.zero.map Zv.val⟩ t (0,0))::L))(e:∀v,aZ n ds ((d,[],v)::fr) d=true:=by intro _;rfl):D cx R ((i,k,o)::its) fr C L:=have ⟨f,hd,g,j,ht⟩:=c;D.alloc f hd g j ht e h
theorem D.box {t:Nat}{x:Operand}{c:List Value}(e:Nat.ble k 1=false)(g:o.dst=some d)(j:gOn ds fr o.guard=true)(l:o.op=.box t x)(m:ev fr [] x=some v)(p:v.cells=⟨c⟩)(q:∀v,aZ n ds ((d,[],v)::fr) d=true)
  (h:∀b,D cx R its ((d,[],.pointer (some ⟨b,0,none⟩))::fr) C (.obj b (.cells ⟨c⟩ t (0,0))::L)):D cx R ((i,k,o)::its) fr C L :=
 XO (f:=λb=>.pointer (some ⟨b,0,none⟩)) e g j q (λa hs w=>by
  have r:execOp a.eval o=(do Pure.pure (.value (<- Instr.box t (a.eval x))):Sem Next):=by unfold execOp;rw[l]
  rw[r,hs _ _ m];simp only[Instr.box,Sem.run_bind,tj,Result.andThen_ok,Sem.run_pure,p]) h
theorem WH {t:Nat}{x:Operand}{a:List Value}(c:Z6 (Nat.ble k 1) false o.dst (some d) (gOn ds fr o.guard) true o.op (.box t x) (ev fr [] x) (some v) v.cells ⟨a⟩)(h:∀b,D cx R its ((d,[],.pointer (some ⟨b,0,none⟩))::fr) C (.obj b (.cells ⟨a⟩ t (0,0))::L))(e:∀v,aZ n ds ((d,[],v)::fr) d=true:=by intro _;rfl):D cx R ((i,k,o)::its) fr C L:=have ⟨f,hd,g,j,l,m⟩:=c;D.box f hd g j l m e h
def kS:Value->Bool
|.agg _|.tuple _=>false
|_=>true
theorem fW {v:Value}(h:kS v=true):v.oneCell'=true:=by cases v <;> simp_all [kS,Value.oneCell']
def aC (cs vs:List Value)(off:Nat):List Value:=cs.take off++vs++cs.drop (off+vs.length)
theorem ax:∀{L:List Ent}{j:Nat}{x:Ent},L[j]?=some x->L.Perm (x::L.eraseIdx j)
|y::L,0,x,h=>by simp at h;subst h;simp
|y::L,j+1,x,h=>by
  have a:L[j]?=some x:=by simpa using h
  have:=ax a;exact(this.cons y).trans (List.Perm.swap x y _)
|[],_,_,h=>by simp at h
def pkF:List Nat->List Ent->Option (List Ent)
|[],L=>some L
|j::js,L=>match L[j]? with
 |none=>none
 |some x=>match pkF js (L.eraseIdx j) with
  |none=>none
  |some M=>some (x::M)
theorem pkL:∀{L L':List Ent}(js:List Nat),pkF js L=some L'->L.Perm L'
|_,_,[],h=>by cases h;exact SQ _
|L,L',j::js,h=>by
  simp only[pkF]at h;split at h
  .cases h
  rename_i x a;split at h
  .cases h
  rename_i M b;cases h
  exact(ax a).trans (List.Perm.cons _ (pkL js b))
theorem St.setRow {c:World}{d:Mem}{f:List Ent}{C:Mem}{L:List Ent}{w:World}{b:Nat}{g:List Value}{a:TypeId}(h:St c d f C (.obj b (.cells ⟨g⟩ a (0,0))::L) w)(i:List Value) :
  St c d f C (.obj b (.cells ⟨i⟩ a (0,0))::L) (w.setRow b i.toArray):=by
 have j:w.heap[b]?=some (.cells ⟨g⟩ a (0,0)):=h.sep.e _ (SK ..);refine St.put h (setRow_heap w b _ _ a _ j) (λk l=>setRow_other w b k _ l) am U U U (SH _)
theorem oF {T:Tab}{P:Program}(h:oZ P T=true){t:Nat}{e:TI}(i:T.get t=some e){w:World}{b c:Nat}{d:List Value}{f:TypeId}{v:Value}{a:List Value}
  (j:w.heap[b]?=some (.cells ⟨d⟩ f (0,0))) (g:v.cells=⟨a⟩) (k:a.length=e.size) (l:c+a.length<=d.length) (m:∀u∈a,u.oneCell'=true) :
  (storeVar t ⟨b,c,none⟩ v).run P w=.ok () (w.setRow b (aC d a c).toArray):=by
 unfold storeVar;have n:v.cells.size=e.size:=by rw[g];simpa using k
 simp only[Sem.run_bind,eD h i w,Result.andThen_ok,n,ne_eq,not_true,Ui];have:=run_storeCells_at P b c f a 0 ⟨d⟩ w j (by simpa using l) m;simp only[Um]at this;rw[g];exact this
theorem XC {t b f j:Nat}{x y:Operand}{d c:List Value}{g:TypeId}{m:TI}(s:Z12 k 3 (gOn ds fr o.guard) true o.dst none o.op (.store t x y) (ev fr [] x) (some (.pointer (some ⟨b,f,none⟩))) (ev fr [] y) (some v) (L[j]?) (some (.obj b (.cells ⟨d⟩ g (0,0)))) (cx.T.get t) (some m) v.cells ⟨c⟩ (Nat.beq c.length m.size) true (Nat.ble (f+c.length) d.length) true (c.all kS) true)(h:D cx R its fr C (.obj b (.cells ⟨aC d c f⟩ g (0,0))::L.eraseIdx j)):D cx R ((i,k,o)::its) fr C L :=
 have ⟨z,A,hd,B,E,hy,hm,ht,F,G,n,h1⟩:=s;XI (S:=λp q=>p=C/\q=.obj b (.cells ⟨aC d c f⟩ g (0,0))::L.eraseIdx j) (by subst z;rfl) A (λa hs w _ H=>by
  have r:=St.perm H (ax hm);have I:w.heap[b]?=some (.cells ⟨d⟩ g (0,0)):=r.sep.e _ (SK ..);have J:(execOp a.eval o).run cx.P w=.ok .skip (w.setRow b (aC d c f).toArray):=by
   have l:execOp a.eval o=(do Instr.storeAt t (a.eval x) (a.eval y);Pure.pure .skip:Sem Next):=by unfold execOp;rw[B]
   rw[l,hs _ _ E,hs _ _ hy];simp only[Instr.storeAt,Instr.sureAddr,Sem.run_bind,Sem.run_pure,Result.andThen_ok];rw[oF cx.hT ht I F (Tr G) (by rw[UC]at n;exact n) (λu K=>fW (S3.1 h1 u K))];rfl
  unfold Oper.wp;rw[J];refine⟨C,.obj b (.cells ⟨aC d c f⟩ g (0,0))::L.eraseIdx j, ?_,Mem.le.refl _,λh2=>by omega,St.setRow r _,U,U⟩;rw[hd];rfl)
  (λp q _ ⟨l,M⟩=>by subst l;subst M;exact h)
theorem WB {t b c j:Nat}{x y:Operand}{d a:List Value}{e:TypeId}{f:TI}(g:Z12 k 3 (gOn ds fr o.guard) true o.dst none o.op (.store t x y) (ev fr [] x) (some (.pointer (some ⟨b,c,none⟩))) (ev fr [] y) (some v) (L[j]?) (some (.obj b (.cells ⟨d⟩ e (0,0)))) (cx.T.get t) (some f) v.cells ⟨a⟩ (Nat.beq a.length f.size) true (Nat.ble (c+a.length) d.length) true (a.all kS) true)(h:D cx R its fr C (.obj b (.cells ⟨aC d a c⟩ e (0,0))::L.eraseIdx j)):D cx R ((i,k,o)::its) fr C L:=have ⟨l,m,hd,n,p,hy,hm,ht,q,r,s,h1⟩:=g;XC ⟨l,m,hd,n,p,hy,hm,ht,q,r,s,h1⟩ h
def tA (ρ:Operand->Option Value)(s:Nat):List (Nat × Operand)->Nat->Option (List Value)
|[],_=>some []
|(j,x)::r,m=>bif Nat.beq j m then (match ρ x with
 |some v=>bif Nat.beq v.cells.toList.length s then (match tA ρ s r (m+1) with
  |some vs=>some (v.cells.toList++vs)
  |none=>none) else none
 |none=>none) else none
theorem rG (d:List Value)(a:Nat):∀(vs:List Value)(j:Nat)(b:Array Value),a+j+vs.length<=b.size ->
  ((vs.zipIdx j).foldl (λd (c,j)=>d.setIfInBounds (a+j) c) b).toList=b.toList.take (a+j)++vs++b.toList.drop (a+j+vs.length)
|[],j,b,h=>by simp
|v::vs,j,b,h=>by
  simp only[List.zipIdx_cons,VH];simp only[S5]at h;rw[rG d a vs (j+1) _ ap];have e:a+j<b.toList.length:=by simp;omega
  simp only[Array.toList_setIfInBounds,S5];rw[show a+(j+1)=(a+j)+1 by omega,List.take_succ_eq_append_getElem (by simpa using e),List.take_set_of_le (SH _)];rw[List.drop_set_of_lt om_];simp only[List.getElem_set_self,Tn,List.singleton_append];rw[show a+j+1+vs.length=a+j+(vs.length+1) by omega]
theorem tX {f:Operand->Option Value}{g:Operand->Value}(k:∀x v,f x=some v->g x=v){s:Nat}:∀{ps:List (Nat × Operand)}{m:Nat}{vs:List Value}(a:Array Value),tA f s ps m=some vs->m*s+vs.length<=a.size ->
    Instr.fill (λi=>some (i*s,s)) a (ps.map λ(i,x)=>(i,g x))=some (a.toList.take (m*s)++vs++a.toList.drop (m*s+vs.length)).toArray
 |[],m,vs,a,h,l=>by
    simp only[tA,Tv]at h;subst h;simp[Instr.fill]
 |(j,x)::r,m,vs,a,h,l=>by
    simp only[tA]at h;cases d:Nat.beq j m with
   |false=>rw[d]at h;cases h
   |true =>
      rw[d]at h;obtain rfl:=Tr d;simp only[Ux]at h;split at h
      . rename_i v p;cases e:Nat.beq v.cells.toList.length s with
       |false=>rw[e]at h;cases h
       |true =>
          rw[e]at h;simp only[Ux]at h;split at h
          . rename_i b q;cases h
            have hs:=Tr e;simp only[VP]at hs;simp only[SP,VP,hs]at l;simp only[Tq,Instr.fill,k x v p,hs];have n:¬ (v.cells.size≠s || decide (j*s+v.cells.size > a.size))=true:=by simp[hs];omega
            rw[hs]at n;rw[aF (by simpa using n)];have o:=rG [] (j*s) v.cells.toList 0 a (by simp[hs];omega);simp only[Um,VP,hs]at o;have t:(v.cells.zipIdx.foldl (λcs (c,j_1)=>cs.setIfInBounds (j*s+j_1) c) a)=(a.toList.take (j*s)++v.cells.toList++a.toList.drop (j*s+s)).toArray:=by
              apply Uz;rw[<- Array.foldl_toList,Array.toList_zipIdx];exact o
            rw[t,tX k _ q (by simp[hs];rw[Ug];omega)];congr 1;have u:(a.toList.take (j*s)++v.cells.toList).length=(j+1)*s:=by simp[hs,Ug];omega
            rw[<- u,List.take_left];have w:((a.toList.take (j*s)++v.cells.toList)++a.toList.drop (j*s+s)).drop ((a.toList.take (j*s)++v.cells.toList).length+b.length)=a.toList.drop (j*s+s+b.length):=by
              rw[VE,Uq om_,UM,Ud,List.drop_drop]
            rw[w];have y:j*s+(v.cells.toList++b).length=j*s+s+b.length:=by simp[hs];omega
            rw[y];simp only[Tn]
          cases h
      cases h
end
end Go.Jog
namespace Go.Jog
open Go
def xG:Value->List Value
|.agg ⟨cs⟩=>cs
|v=>[v]
theorem ld (v:Value):v.cells.toList=xG v:=by cases v <;> rfl
def rowsO (ρ:Operand->Option Value):List (Nat × Operand)->Nat->Option (List (List Value))
|[],_=>some []
|(j,x)::r,m=>bif Nat.beq j m then (match ρ x with
 |some v=>(match rowsO ρ r (m+1) with
  |some vs=>some (xG v::vs)
  |none=>none)
 |none=>none) else none
theorem eo {b:Operand->Option Value}{s:Nat}:∀{ps:List (Nat × Operand)}{m:Nat}{rows:List (List Value)},rowsO b ps m=some rows->(∀r∈rows,r.length=s)->tA b s ps m=some rows.flatten/\rows.length=ps.length
 |[],m,rows,h,_=>by simp[rowsO]at h;subst h;exact⟨rfl,rfl⟩
 |(j,x)::r,m,rows,h,c=>by
    simp only[rowsO]at h;cases a:Nat.beq j m with
   |false=>rw[a]at h;cases h
   |true =>
      rw[a]at h;simp only[Ux]at h;split at h
      . rename_i v d;split at h
        . rename_i vs e;cases h
          have h1:=eo e (λr hr=>c r (by simp[hr]));have h2:Nat.beq v.cells.toList.length s=true:=by rw[ld,c (xG v) am];exact Wb s
          refine⟨?_,by simp[h1.2]⟩;simp only[tA,a,Ux,d,h2,h1.1,TV];rw[ld]
        cases h
      cases h
theorem aQ {s:Nat}:∀{rows:List (List Value)},(∀r∈rows,r.length=s)->rows.flatten.length=rows.length*s
|[],_=>by simp
|r::rows,h=>by
  rw[TV,SP,h r am,aQ (λx a=>h x (by simp[a])),S5,Ug];omega
theorem getElem?_flatten_rows {s:Nat}:∀{rows:List (List Value)},(∀r∈rows,r.length=s)->∀{i:Nat}{x:List Value},rows[i]?=some x->∀{j:Nat}{v:Value},x[j]?=some v->rows.flatten[i*s+j]?=some v
|r::rows,h,0,x,a,j,v,b=>by
  simp at a;subst a;have c:j<r.length:=(R0.1 b).1;rw[TV,Nat.zero_mul,TX,Tz c];exact b
|r::rows,h,i+1,x,a,j,v,b=>by
  have hr:=h r am;rw[TV,Tj (by rw[hr,Ug];omega),hr];rw[show(i+1)*s+j-s=i*s+j by rw[Ug];omega];exact getElem?_flatten_rows (λx d=>h x (by simp[d])) (by simpa using a) b
|[],_,i,x,a,_,_,_=>by simp at a
theorem Sl.ofBlock {C:Mem}{b s c:Nat}{a:Array Value}{t:TypeId}{d:Nat × Nat}{rows:List (List Value)}(f:C b=some (.cells a t d))(e:∀r∈rows,r.length=s)
  (g:∀(j:Nat)(v:Value),rows.flatten[j]?=some v->a[j]?=some v) (h:rows.length<=c) (k:c<=maxLen):Sl C s (.slice (some ⟨b,0,none⟩) rows.length c) rows :=
 ⟨some ⟨b,0,none⟩,c,rfl,h,k,e,λi x l=>⟨⟨b,0,none⟩,rfl,rfl,λj v m=>by
  rw[Addr.add_lit];exact⟨U,a,t,d,f,by simpa using g _ _ (getElem?_flatten_rows e l m)⟩⟩⟩
section
variable {cx:Cx} {n:Nat} {ds:List (Option Nat)} {R:Rg n ds} {its:List It} {fr:Fr} {C:Mem} {L:List Ent} {i k d:Nat} {o:Oper} {g:GL} {v:Value}
theorem gG {T:Tab}{P:Program}(d:oZ P T=true){t e f:Nat}{h a:TI}(z:T.get t=some h)(o:h.k=.slice e)(j:T.get e=some a){p:Operand->Option Value}{l:Operand->Value}(A:∀x v,p x=some v->l x=v)
  {g:List (Nat × Operand)} {b:List (List Value)} (B:rowsO p g 0=some b) (q:∀r∈b,r.length=a.size) (C:g.length=f) (G:f*a.size<=16777216) (w:World) :
  (Instr.buildSlice t f (g.map λ(i,x)=>(i,l x)).toArray).run P w=.ok (.slice (some ⟨w.heap.size,0,none⟩) b.length b.length) (w.alloc (.cells ⟨b.flatten⟩ e)):=by
 have s:P.underlying t=some (.slice e):=by
  obtain⟨H,I,J,K,L⟩:=h;simp only at o;subst o;exact bW d z
 obtain⟨h1,h2⟩:=eo B q;have u:=aQ q;have D:f=b.length:=by rw[h2];exact C.symm
 subst D;have y:∀c:Array Value,c.size=b.length*a.size->Instr.fill (λi=>some (i*a.size,a.size)) c (g.map λ(i,x)=>(i,l x))=some ⟨b.flatten⟩:=λc E=>by
  rw[tX A c h1 (by rw[u];omega)];congr 1;apply Uz;have:c.toList.drop (b.length*a.size)=[]:=Uq (by simp[E]);simp[u,this]
 have F:¬ (16777216<b.length*a.size):=by omega
 unfold Instr.buildSlice;by_cases m:b.length*a.size=0
 .have n:=y #[] (by simp[m]);simp[run_underlying s,eD d j w,m,Array.range_zero',n,newRow]
 have n:=y ((Array.range (b.length*a.size)).map (a.zv.cells[· % a.zv.cells.size]!)) am;simp[run_underlying s,eD d j w,m,F,pN d j w,n,newRow]
theorem D.buildSlice {t e l:Nat}{m:Array (Nat × Operand)}{u c:TI}(g:List (List Value))(E:Nat.ble k 1=false)(F:o.dst=some d)(G:gOn ds fr o.guard=true)(H:o.op=.buildSlice t l m)
    (I:cx.T.get t=some u) (J:u.k=.slice e) (K:cx.T.get e=some c) (y:rowsO (ev fr []) m.toList 0=some g) (M:(g.all λr=>Nat.beq r.length c.size)=true) (N:Nat.beq m.toList.length l=true)
    (z:Nat.ble (l*c.size) 16777216=true) (A:Nat.beq c.size 0=false) (O:∀v,aZ n ds ((d,[],v)::fr) d=true)
    (h:∀p q,C.le q->Sl q c.size p g->D cx R its ((d,[],p)::fr) q L):D cx R ((i,k,o)::its) fr C L:=by
  have s:∀r∈g,r.length=c.size:=λr hr=>Tr (S3.1 M r hr);have B:=Tr N;rw[UC]at z;have P:=(eo y s).2;refine Yh (f:=λb=>.slice (some ⟨b,0,none⟩) g.length g.length) (ob:=.cells ⟨g.flatten⟩ e) E F G O (λa hs w=>?_) (λb q Q S=>?_)
  . have U:execOp a.eval o=(do Pure.pure (.value (<- Instr.buildSlice t l (m.map λ(i,x)=>(i,a.eval x)))):Sem Next):=by unfold execOp;rw[H]
    rw[U];have V:(m.map λ(i,x)=>(i,a.eval x))=(m.toList.map λ(i,x)=>(i,a.eval x)).toArray:=by apply Uz;simp
    rw[V];simp only[Sem.run_bind,gG cx.hT I J K (λx v W=>hs x v W) y s B z w,Result.andThen_ok,Sem.run_pure]
  refine h _ q Q (Sl.ofBlock S s (λj v X=>by simpa using X) (SH _) ?_);rw[P,B];have h0:0<c.size:=UH (λe=>by rw[e]at A;cases A);have:l<=l*c.size:=Vk _ h0;simp only[maxLen];omega
theorem WP {t e c:Nat}{f:Array (Nat × Operand)}{j a:TI}(b:List (List Value))(l:Z12 (Nat.ble k 1) false o.dst (some d) (gOn ds fr o.guard) true o.op (.buildSlice t c f) (cx.T.get t) (some j) j.k (.slice e) (cx.T.get e) (some a) (rowsO (ev fr []) f.toList 0) (some b) (b.all λr=>Nat.beq r.length a.size) true (Nat.beq f.toList.length c) true (Nat.ble (c*a.size) 16777216) true (Nat.beq a.size 0) false)(h:∀p g,C.le g->Sl g a.size p b->D cx R its ((d,[],p)::fr) g L)(m:∀v,aZ n ds ((d,[],v)::fr) d=true:=by intro _;rfl):D cx R ((i,k,o)::its) fr C L:=have ⟨q,hd,s,u,ht,w,x,y,z,A,B,E⟩:=l;D.buildSlice b q hd s u ht w x y z A B E m h
theorem W0 {t e j m:Nat}{x y:Operand}{H b:TI}{p l:Value}{s:List Value}{g:List (List Value)}(ak:Z11 k 3 o.dst (some d) (gOn ds fr o.guard) true o.op (.call ⟨.builtin .append,#[x,y],#[t,t]⟩) (cx.T.get t) (some H) H.k (.slice e) (cx.T.get e) (some b) (Nat.beq b.size 0) false (ev fr [] x) (some l) (ev fr [] y) (some p) (L[j]?) (some (.arr l e b.size m s)))(al:Sl C b.size p g)(z:g.all (λr=>r.all kS)=true)(an:m+g.length<=maxLen)(ao:(m+g.length)*b.bytes<=140737488355328)(hp:∀v,aZ n ds ((d,[],v)::fr) d=true)(h:∀A n c,D cx R its ((d,[],.slice A n c)::fr) C (.arr (.slice A n c) e b.size (m+g.length) (s++g.flatten)::L.eraseIdx j)):D cx R ((i,k,o)::its) fr C L:=by
 have ⟨hk,hd,hg,ap,ht,Q,V,X,hx,hy,hm⟩:=ak;have B:cx.P.underlying t=some (.slice e):=by
  obtain⟨kk,s1,b1,z1,g1⟩:=H;simp only at Q;subst Q;exact bW cx.hT ht
 obtain⟨inf,I,J,aq,hz,aH⟩:=(dC cx.hT V).info;have Y:0<b.size:=UH (λe=>by rw[e]at X;cases X);obtain⟨A,c,Z,aI,aJ,E,aa⟩:=al
 refine Xc (S:=λf C' L'=>(∃A n c,f=.slice A n c)/\C'=C/\L'=.arr f e b.size (m+g.length) (s++g.flatten)::L.eraseIdx j) (by subst hk;rfl) hd hg hp (λa hs w _ hw=>?_) (λf C' L' _ ⟨⟨A,n',c,e0⟩,K,e2⟩=>by subst e0;subst K;subst e2;exact h A n' c);have ab:=St.perm hw (ax hm);have M:w.ownsRow 0 e b.size l m s:=ab.sep.e _ (SK ..);have ar:∀u∈g.flatten,u.oneCell'=true:=λu B=>by
  obtain⟨r,hr,au⟩:=List.mem_flatten.1 B;exact fW (S3.1 (S3.1 z r hr) u au)
 have av:∃f w',(Builtin.append_ #[t,t] o.type #[l,p]).run cx.P w=.ok f w'/\w'.ownsRow 0 e b.size f (m+g.length) (s++g.flatten)/\w.grownBy w' l.ownBlock/\(f.ownBlock=l.ownBlock∨f.ownBlock=some w.heap.size):=by
  cases g with
 |nil =>
   refine⟨l,w, ?_,by simpa using M,⟨U,U,U,SH _,λ_ _ _=>rfl⟩,.inl U⟩;have aw:p=.slice A 0 c:=Z;rw[aw];have ac:∀(W:World),(Builtin.firstCells b.size 0 (.slice A 0 c)).run cx.P W=.ok #[] W:=λW=>by
    cases A <;> simp[Builtin.firstCells,loadCells,loadCellsFrom]
   rcases M.2 with⟨rfl,rfl⟩|⟨g0,ay,az,rfl,_,_,aA,_⟩
   .simp[Builtin.append_,run_underlying B,sizeOf,typeInfo,I,J,Builtin.lenOf,ac]
   simp[Builtin.append_,run_underlying B,sizeOf,typeInfo,I,J,Builtin.lenOf,ac,aA,storeCells]
 |cons r rs =>
   obtain⟨ad,hA,aK,_⟩:=aa 0 r am;subst hA;have aB:∀(q:Nat)(u:Value),(r::rs).flatten[q]?=some u->w.cell? (ad.add q)=some u:=λq u hq=>by
    have aC:q<(r::rs).length*b.size:=by rw[<- aQ E];exact(R0.1 hq).1
    have ae:q / b.size<(r::rs).length:=VB (by rw[Tt];exact aC);have af:(r::rs)[q / b.size]?=some (r::rs)[q / b.size]:=aj ae;have aD:q % b.size<((r::rs)[q / b.size]).length:=by rw[E _ (TC ae)];exact Ts _ Y
    have ag:=aj aD;have ah:=getElem?_flatten_rows E af ag;have ai:q / b.size*b.size+q % b.size=q:=by rw[Tt];exact Vt q b.size
    rw[ai,hq]at ah;obtain⟨aL,h3,h4,h5⟩:=aa _ _ af;cases h3
    have:=h5 _ _ ag;rw[ai]at this;rw[ah];exact this.cell hw.sep
   have aE:b.zv.cells.size=b.size:=(dC cx.hT V).zsize;obtain⟨f,w',F,G,N,_,O⟩:=run_append_own_at (P:=cx.P) w 0 t o.type e inf b.zv b.size b.bytes B I hz J aq aE Y l m s M ad (r::rs).length c (r::rs).flatten (aQ E) aB ar an ao (SM _);exact⟨f,w',by rw[Z];exact F,G,N,O⟩
 obtain⟨f,w',F,G,N,O⟩:=av;have aF:(execOp a.eval o).run cx.P w=.ok (.value f) w':=by
  have K:execOp a.eval o=(do let dd <- resolve a.eval ⟨.builtin .append,#[x,y],#[t,t]⟩ o.type;invoke dd.target dd.args:Sem Next):=by unfold execOp;rw[ap]
  rw[K];simp only[resolve,invoke,builtin,Sem.run_bind,Sem.run_pure,Result.andThen_ok,Us,Tq,Ut,hs _ _ hx,hs _ _ hy,F]
 unfold Oper.wp;rw[aF];have aG:∃A n c,f=.slice A n c:=by
  rcases G.2 with⟨z,_⟩|⟨g0,ay,az,z,_⟩
  .exact⟨_,_,_,z⟩
  exact⟨_,_,_,z⟩
 exact⟨f,C,_,U,Mem.le.refl _,λh2=>by omega,St.turn ab G N (bX _ F) (O.elim .inl (λh=>.inr (.inl h))),aG,U,U⟩
theorem D.Qk {t e j m:Nat}{x y:Operand}{f a:TI}{p g:Value}{l:List Value}{b:List (List Value)}(q:Sl C a.size p b)(s:b.all (λr=>r.all kS)=true)(u:m+b.length<=maxLen)(w:(m+b.length)*a.bytes<=140737488355328)(h:∀A n c,D cx R its ((d,[],.slice A n c)::fr) C (.arr (.slice A n c) e a.size (m+b.length) (l++b.flatten)::L.eraseIdx j))(z:k=3:=by rfl)(B:o.dst=some d:=by rfl)(E:gOn ds fr o.guard=true:=by rfl)(F:o.op=.call ⟨.builtin .append,#[x,y],#[t,t]⟩:=by rfl)(G:cx.T.get t=some f:=by rfl)(H:f.k=.slice e:=by rfl)(I:cx.T.get e=some a:=by rfl)(J:Nat.beq a.size 0=false:=by rfl)(K:ev fr [] x=some g:=by rfl)(M:ev fr [] y=some p:=by rfl)(N:L[j]?=some (.arr g e a.size m l):=by rfl)(O:∀v,aZ n ds ((d,[],v)::fr) d=true:=by intro _;rfl):D cx R ((i,k,o)::its) fr C L:=W0 ⟨z,B,E,F,G,H,I,J,K,M,N⟩ q s u w O h
theorem D.append {t e j m:Nat}{x y:Operand}{c a:TI}{p f:Value}{g:List Value}{b:List (List Value)}(q:Z11 k 3 o.dst (some d) (gOn ds fr o.guard) true o.op (.call ⟨.builtin .append,#[x,y],#[t,t]⟩) (cx.T.get t) (some c) c.k (.slice e) (cx.T.get e) (some a) (Nat.beq a.size 0) false (ev fr [] x) (some f) (ev fr [] y) (some p) (L[j]?) (some (.arr f e a.size m g)))(s:Sl C a.size p b)(u:b.all (λr=>r.all kS)=true)(w:m+b.length<=maxLen)(z:(m+b.length)*a.bytes<=140737488355328)(A:∀v,aZ n ds ((d,[],v)::fr) d=true)(h:∀l,D cx R its ((d,[],l)::fr) C (.arr l e a.size (m+b.length) (g++b.flatten)::L.eraseIdx j)):D cx R ((i,k,o)::its) fr C L :=
 have ⟨B,hd,E,F,ht,G,H,I,J,hy,hm⟩:=q;W0 ⟨B,hd,E,F,ht,G,H,I,J,hy,hm⟩ s u w z A (λ_K _M _N=>h _)
end
end Go.Jog
namespace Go.Jog
open Go
def Pur (P:Program)(f:FuncId)(args:List Value)(C:Mem)(post:Value->Mem->Prop):Prop:=Fn P f args C [] λv C' L'=>L'=[]/\post v C'
theorem gv {P:Program}{f:FuncId}(h:Enters P f=true)(a:Array Value)(w:World):(callFunc f a).run P w=.ok (.enter f a) w:=by
  unfold Enters at h;split at h
  . rename_i fn b;simp only[S1,Vg]at h;have h1 : ¬ (fn.name == "runtime.NumGoroutine") = true := by rw[h.1]; simp
    have h2:¬ fn.body.isNone=true:=by
      cases d:fn.body with
     |none=>rw[d]at h;simp at h
     |some c=>simp
    simp only[callFunc,Sem.run_bind,run_program,Result.andThen_ok,b];rw[aF h1,aF h2];rfl
  cases h
section
variable {cx:Cx} {n:Nat} {ds:List (Option Nat)} {R:Rg n ds} {its:List It} {fr:Fr} {C:Mem} {L:List Ent} {i k d:Nat} {o:Oper} {g:GL} {v:Value}
theorem pf {P:Program}{a:Act}{o:Oper}{f:Operand}{b:Array Operand}{i:Array TypeId}{d:FuncId}{e g:Array Value}{c h:List Value}
  (j:o.op=.call ⟨.value f,b,i⟩) (k:a.eval f=.func (.func d) e g) (l:b.toList.map a.eval=c) (m:e.toList++c++g.toList=h) (n:Enters P d=true) (w:World) :
  (execOp a.eval o).run P w=.ok (.enter d h.toArray) w:=by
 have p:execOp a.eval o=(do let dd <- resolve a.eval ⟨.value f,b,i⟩ o.type;invoke dd.target dd.args:Sem Next):=by unfold execOp;rw[j]
 have q:b.map a.eval=c.toArray:=by apply Uz;rw[<- l];simp
 have r:e++c.toArray++g=h.toArray:=by apply Uz;rw[<- m];simp
 rw[p];simp only[resolve,k,Deferred.ofValue,q,Sem.run_bind,Sem.run_pure,Result.andThen_ok,invoke,r];exact gv n _ w
theorem D.call {f:Operand}{q:Array Operand}{B:Array TypeId}{r:FuncId}{s t:Array Value}{u z:List Value}{Lp Lr:List Ent}{m:Value->Mem->List Ent->Prop}(c:Fn cx.P r z C Lp m)(E:Nat.ble k 1=false)(j:Lp=[]∨k≠2)(F:Z6 o.dst (some d) (gOn ds fr o.guard) true o.op (.call ⟨.value f,q,B⟩) (ev fr [] f) (some (.func (.func r) s t)) (ly (ev fr []) q.toList) (some u) (s.toList++u++t.toList) z)(A:L.Perm (Lp++Lr))(G:∀v,aZ n ds ((d,[],v)::fr) d=true)(h:∀v b g,C.le b->m v b g->D cx R its ((d,[],v)::fr) b (g++Lr)):D cx R ((i,k,o)::its) fr C L :=
 have ⟨hd,H,I,J,K,M⟩:=F;Xc (S:=λv b g=>∃l,g=l++Lr/\m v b l) E hd H G (λa hs w _ N=>by
  unfold Oper.wp;rw[pf I (hs _ _ J) (fh (λx y=>hs x y) K) M c.1 w];simp only[Oper.upon];refine(c.callAt (St.perm N A)).mono λe w' ⟨v,b,g,p,h1,h2,h3⟩=>?_;subst p;refine⟨v,b,g++Lr,U,h1,λO x Q=>?_,h2,g,U,h3⟩;rcases j with j|j
  .subst j;have:=A.mem_iff.1 Q;simp only[UM]at this;exact UE _ this
  .exact absurd O j)
  (λv b g T ⟨l,p,V⟩=>by subst p;exact h v b l T V)
theorem D.call_ {f:Operand}{e:Array Operand}{t:Array TypeId}{g:FuncId}{j l:Array Value}{m p:List Value}{a q:List Ent}{r:Value->Mem->List Ent->Prop}(c:Fn cx.P g p C a r)(u:a=[]∨k≠2)(w:L.Perm (a++q))(h:∀v b s,C.le b->r v b s->D cx R its ((d,[],v)::fr) b (s++q))(x:Nat.ble k 1=false:=by rfl)(y:o.dst=some d:=by rfl)(z:gOn ds fr o.guard=true:=by rfl)(A:o.op=.call ⟨.value f,e,t⟩:=by rfl)(B:ev fr [] f=some (.func (.func g) j l):=by rfl)(E:ly (ev fr []) e.toList=some m:=by rfl)(F:j.toList++m++l.toList=p:=by rfl)(G:∀v,aZ n ds ((d,[],v)::fr) d=true:=by intro _;rfl):D cx R ((i,k,o)::its) fr C L:=D.call c x u ⟨y,z,A,B,E,F⟩ w G h
theorem WT {f:Operand}{b:Array Operand}{q:Array TypeId}{e:FuncId}{g j:Array Value}{l m:List Value}{p:Value->Mem->Prop}(c:Pur cx.P e m C p)(r:Z7 (Nat.ble k 1) false o.dst (some d) (gOn ds fr o.guard) true o.op (.call ⟨.value f,b,q⟩) (ev fr [] f) (some (.func (.func e) g j)) (ly (ev fr []) b.toList) (some l) (g.toList++l++j.toList) m)(s:∀v,aZ n ds ((d,[],v)::fr) d=true)(h:∀v a,C.le a->p v a->D cx R its ((d,[],v)::fr) a L):D cx R ((i,k,o)::its) fr C L :=
 have ⟨t,hd,u,w,x,y,z⟩:=r;D.call c t (.inl rfl) ⟨hd,u,w,x,y,z⟩ (SQ L) s (λv a F A ⟨B,E⟩=>by subst B;exact h v a A E)
theorem WY {f:Operand}{b:Array Operand}{q:Array TypeId}{e:FuncId}{g j:Array Value}{l m:List Value}{p:Value->Mem->Prop}(c:Pur cx.P e m C p)(r:Z7 (Nat.ble k 1) false o.dst (some d) (gOn ds fr o.guard) true o.op (.call ⟨.value f,b,q⟩) (ev fr [] f) (some (.func (.func e) g j)) (ly (ev fr []) b.toList) (some l) (g.toList++l++j.toList) m)(h:∀v a,C.le a->p v a->D cx R its ((d,[],v)::fr) a L)(s:∀v,aZ n ds ((d,[],v)::fr) d=true:=by intro _;rfl):D cx R ((i,k,o)::its) fr C L:=have ⟨t,hd,u,w,x,y,z⟩:=r;WT c ⟨t,hd,u,w,x,y,z⟩ s h
theorem WN {f:Operand}{b:Array Operand}{t:Array TypeId}{e:FuncId}{j l:Array Value}{m p:List Value}(c:GT ds fr g->Gives cx.P e p C v)(u:Z9 k 1 o.dst (some d) (gOf ds fr o.guard) (some g) o.op (.call ⟨.value f,b,t⟩) (ev fr g f) (some (.func (.func e) j l)) (ly (ev fr g) b.toList) (some m) (j.toList++m++l.toList) p (aZ n ds ((d,g,v)::fr) d) true (wfG ds fr g) true)(h:D cx R its ((d,g,v)::fr) C L):D cx R ((i,k,o)::its) fr C L:=by
 have ⟨q,hd,z,A,B,E,F,hp,G⟩:=u;intro r;exact Xe (by subst q;rfl) hd z hp G (λs a hs J H w I=>by
  unfold Oper.quietAt;rw[pf A (hs _ _ B) (fh (λx y=>hs x y) E) F (c s).1 w];exact⟨U,(c s).quiet (H q).1 r I⟩) h r
theorem W5 {f:Operand}{a:Array Operand}{p:Array TypeId}{b:FuncId}{e j:Array Value}{l m:List Value}(c:GT ds fr g->Gives cx.P b m C v)(q:Z9 k 1 o.dst (some d) (gOf ds fr o.guard) (some g) o.op (.call ⟨.value f,a,p⟩) (ev fr g f) (some (.func (.func b) e j)) (ly (ev fr g) a.toList) (some l) (e.toList++l++j.toList) m (aZ n ds ((d,g,v)::fr) d) true (wfG ds fr g) true)(h:D cx R its ((d,g,v)::fr) C L):D cx R ((i,k,o)::its) fr C L:=have ⟨r,hd,s,t,u,w,x,hp,y⟩:=q;WN c ⟨r,hd,s,t,u,w,x,hp,y⟩ h
theorem WC {f:Operand}{g:Array Operand}{s:Array TypeId}{j:FuncId}{l m:Array Value}{p q:List Value}(c:Gives cx.P j q C v)(t:Z7 (Nat.ble k 1) false o.dst (some d) (gOn ds fr o.guard) true o.op (.call ⟨.value f,g,s⟩) (ev fr [] f) (some (.func (.func j) l m)) (ly (ev fr []) g.toList) (some p) (l.toList++p++m.toList) q)(z:∀v,aZ n ds ((d,[],v)::fr) d=true)(h:D cx R its ((d,[],v)::fr) C L):D cx R ((i,k,o)::its) fr C L :=
 have ⟨A,hd,B,E,F,G,H⟩:=t;Xc (S:=λu r L'=>u=v/\r=C/\L'=L) A hd B z (λa hs w I J=>by
  unfold Oper.wp;rw[pf E (hs _ _ F) (fh (λx y=>hs x y) G) H c.1 w];simp only[Oper.upon];refine(c.quiet (κ:=(C,L)) (Mem.le.refl _) I J).mono λe w' ⟨b,h1⟩=>?_;subst b;exact⟨v,C,L,U,Mem.le.refl _,λ_ x K=>K,h1,U,U,U⟩)
  (λu r L' _ ⟨b,M,N⟩=>by subst b;subst M;subst N;exact h)
theorem WD {f:Operand}{a:Array Operand}{m:Array TypeId}{b:FuncId}{e g:Array Value}{j l:List Value}(c:Gives cx.P b l C v)(p:Z7 (Nat.ble k 1) false o.dst (some d) (gOn ds fr o.guard) true o.op (.call ⟨.value f,a,m⟩) (ev fr [] f) (some (.func (.func b) e g)) (ly (ev fr []) a.toList) (some j) (e.toList++j++g.toList) l)(h:D cx R its ((d,[],v)::fr) C L)(q:∀v,aZ n ds ((d,[],v)::fr) d=true:=by intro _;rfl):D cx R ((i,k,o)::its) fr C L:=have ⟨r,hd,s,t,u,w,x⟩:=p;WC c ⟨r,hd,s,t,u,w,x⟩ q h
end
section
variable {cx:Cx} {n:Nat} {ds:List (Option Nat)} {R:Rg n ds} {its:List It} {fr:Fr} {C:Mem} {L:List Ent} {i k d:Nat} {o:Oper} {g:GL} {v:Value}
theorem PtrTo.block {C:Mem}{b:Nat}{a:List Value}{t:TypeId}{d:Nat × Nat}(h:C b=some (.cells ⟨a⟩ t d))(c:Nat):PtrTo C (.pointer (some ⟨b,c,none⟩)) (a.drop c) :=
 ⟨⟨b,c,none⟩,rfl,rfl,λj v e=>by
  rw[Addr.add_lit];exact⟨U,⟨a⟩,t,d,h,by simpa using e⟩⟩
theorem W9 {t:Nat}{x:Operand}{p:Value}{f:List Value}{e:TI}(m:GT ds fr g->PtrTo R.b.C0 p f)(q:Z9 (Nat.ble k 1) true o.dst (some d) o.op (.load t x) (gOf ds fr o.guard) (some g) (ev fr g x) (some p) (cx.T.get t) (some e) (cJ e (f.take e.size)) (some v) (aZ n ds ((d,g,v)::fr) d) true (wfG ds fr g) true)(h:D cx R its ((d,g,v)::fr) C L):D cx R ((i,k,o)::its) fr C L :=
 have ⟨r,hd,s,y,z,ht,A,hp,B⟩:=q;Xe r hd y hp B (λE a hs I _ w l=>by
  obtain⟨J,rfl,_,F⟩:=m E;have G:(execOp a.eval o).run cx.P w=.ok (.value v) w:=by
   have H:execOp a.eval o=(do Pure.pure (.value (<- Instr.loadAt t (a.eval x))):Sem Next):=by unfold execOp;rw[s]
   rw[H,hs _ _ z];simp only[Instr.loadAt,Instr.sureAddr,Sem.run_bind,Sem.run_pure,Result.andThen_ok];rw[eZ cx.hT ht (λj u c=>by
    rw[TA]at c;split at c
    .exact((F j u c).mono l.c0).cell l.sep
    cases c) A]
   rfl
  unfold Oper.quietAt;rw[G];exact⟨U,U⟩) h
end
section
variable {cx:Cx} {n:Nat} {ds:List (Option Nat)} {R:Rg n ds} {its:List It} {fr:Fr} {C:Mem} {L:List Ent} {i k d:Nat} {o:Oper} {v:Value}
theorem vG {a:List (Option Nat)}{b:Fr}{o:Oper}(h:o.guard=none):gOf a b o.guard=some []:=by rw[h];rfl
theorem WG {t e:Nat}{x y:Operand}{j:IntKind}{m:Int}{s:Value}{b:Nat}{c:List (List Value)}{row:List Value}{f g:TI}(l:Sl C b s c)(q:Z10 (Nat.ble k 1) true o.dst (some d) o.op (.indexAddr t x y) o.guard none (ev fr [] x) (some s) (ev fr [] y) (some (.int j m)) (cx.T.get t) (some f) f.k (.slice e) (cx.T.get e) (some g) g.size b)(r:0<=m)(u:c[m.toNat]?=some row)(a:∀v,aZ n ds ((d,[],v)::fr) d=true)(h:∀p,PtrTo C p row->D cx R its ((d,[],p)::fr) C L):D cx R ((i,k,o)::its) fr C L :=
 have ⟨w,hd,z,A,B,hy,ht,E,F,G⟩:=q;D.index ⟨w,hd,z,(vG A),B,hy,ht,E,F,G⟩ (λ_=>⟨l,r,u⟩) a rfl (λp a=>h p (a trivial))
theorem Xv {t f c e:Nat}{x:Operand}{p:Value}{g:List Value}{j a:TI}{l:List (Nat × Nat)}(q:PtrTo C p g)(r:Z10 (Nat.ble k 1) true o.dst (some d) o.op (.fieldAddr t x f) o.guard none (ev fr [] x) (some p) (cx.T.get t) (some j) j.k (.struct l) (l[f]?) (some (c,e)) (cx.T.get c) (some a) (Nat.beq a.size 0) false)(b:∀v,aZ n ds ((d,[],v)::fr) d=true)(h:∀m,PtrTo C m ((g.drop e).take a.size)->D cx R its ((d,[],m)::fr) C L):D cx R ((i,k,o)::its) fr C L :=
 have ⟨s,hd,u,w,y,ht,z,A,B,E⟩:=r;X4 s hd u (vG w) y ht z A B E (λ_=>q) b rfl (λp b=>h p (b trivial))
theorem XE {t:Nat}{x:Operand}{p:Value}{a:List Value}{b:TI}(c:PtrTo C p a)(e:Z6 k 1 o.dst (some d) o.op (.load t x) o.guard none (ev fr [] x) (some p) (cx.T.get t) (some b))(f:cJ b a=some v)(g:aZ n ds ((d,[],v)::fr) d=true)(h:D cx R its ((d,[],v)::fr) C L):D cx R ((i,k,o)::its) fr C L :=
 have ⟨j,hd,l,m,q,ht⟩:=e;WU ⟨j,hd,l,(vG m),q,ht⟩ (λ_=>c) ⟨f,g,rfl⟩ h
theorem Ws {t:Nat}{x:Operand}{p:Value}{a:List Value}{b:TI}(c:PtrTo C p a)(e:Z8 k 1 o.dst (some d) o.op (.load t x) o.guard none (ev fr [] x) (some p) (cx.T.get t) (some b) (cJ b a) (some v) (aZ n ds ((d,[],v)::fr) d) true)(h:D cx R its ((d,[],v)::fr) C L):D cx R ((i,k,o)::its) fr C L:=have ⟨f,hd,g,j,l,ht,m,hp⟩:=e;XE c ⟨f,hd,g,j,l,ht⟩ m hp h
end
inductive KI where
|code (c:Code)
|blk (id:Nat)
|inv (I:Act->World->Prop)
structure Fx where
 cx:Cx
 fn:Func
 n:Nat
 b:Bs
 post:Value->Mem->List Ent->Prop
 W:Cw cx.P
 dd:List Deferred
 last:Exit->Act->World->Prop
def yN (b:Bs)(post:Value->Mem->List Ent->Prop)(e:Ending)(w:World):Prop:=∃v C' L',e=.returned v/\St b.w0 b.C0 b.L0 C' L' w/\post v C' L'
def Fx.fin (F:Fx):Ending->World->Prop:=yN F.b F.post
def Fx.ends (F:Fx):Prop:=(∀e a w,bodyPost F.cx.P F.fn F.fin e a w->F.last e a w)/\F.dd=[]
def Kq (F:Fx):List KI->Exit->Act->World->Prop
|[]=>F.last
|.code c::k=>λe a w=>match e with
 |.normal=>F.W.wp c (Kq F k) a w
 |e=>Kq F k e a w
|.blk id::k=>λe a w=>match e with
 |.exit j=>if j=id then Kq F k .normal a w else Kq F k (.exit j) a w
 |e=>Kq F k e a w
|.inv I::k=>λe a w=>match e with
 |.normal=>I a w
 |e=>Kq F k e a w
theorem Fx.ends.kq {F:Fx}(b:F.ends){e:Exit}{a:Act}{w:World}(h:bodyPost F.cx.P F.fn F.fin e a w):Kq F [] e a w:=by
 exact b.1 _ _ _ h
def G (F:Fx)(k:List KI)(e:Exit)(fr:Fr)(C:Mem)(L:List Ent):Prop :=
 F.b.C0.le C->∀a w,FrOk F.n [] F.dd fr a->F.b.cls (C,L) w->Kq F k e a w
section
variable {F:Fx} {k:List KI} {fr:Fr} {C:Mem} {L:List Ent}
theorem G.seq {x y:Code}(h:G F (.code x::.code y::k) .normal fr C L):G F (.code (.seq x y)::k) .normal fr C L:=λh0 a w b c=>by
 simp only[Kq];refine F.W.seq (F.W.mono (λe a w q=>?_) (h h0 a w b c));cases e <;> exact q
theorem G.block {b:Nat}{x:Code}(h:G F (.code x::.blk b::k) .normal fr C L):G F (.code (.block b x)::k) .normal fr C L:=λh0 a w c d=>by
 simp only[Kq];refine F.W.block (F.W.mono (λe a w q=>?_) (h h0 a w c d));cases e <;> exact q
theorem G.skip (h:G F k .normal fr C L):G F (.code .skip::k) .normal fr C L:=λh0 a w b c=>F.W.skip (h h0 a w b c)
theorem G.ret (h:G F k .ret fr C L):G F (.code .ret::k) .normal fr C L:=λh0 a w b c=>F.W.ret (h h0 a w b c)
theorem G.exit {b:Nat}(h:G F k (.exit b) fr C L):G F (.code (.exit b)::k) .normal fr C L:=λh0 a w c d=>F.W.exit (h h0 a w c d)
theorem Y7 {b:Nat}(h:G F k .normal fr C L):G F (.blk b::k) .normal fr C L:=λh0 a w c d=>h h0 a w c d
theorem Y0 {b:Nat}(h:G F k .normal fr C L):G F (.blk b::k) (.exit b) fr C L:=λh0 a w c d=>by
 simp only[Kq,UK];exact h h0 a w c d
theorem YX {b j:Nat}(c:Nat.beq j b=false)(h:G F k (.exit j) fr C L):G F (.blk b::k) (.exit j) fr C L:=λh0 a w d f=>by
 have:j≠b:=λe=>by subst e;rw[Wb]at c;cases c
 simp only[Kq,aF this];exact h h0 a w d f
theorem Y3 {b:Nat}(h:G F k .ret fr C L):G F (.blk b::k) .ret fr C L:=λh0 a w c d=>h h0 a w c d
theorem YZ {c:Code}(h:G F k .ret fr C L):G F (.code c::k) .ret fr C L:=λh0 a w b d=>h h0 a w b d
theorem YW {c:Code}{j:Nat}(h:G F k (.exit j) fr C L):G F (.code c::k) (.exit j) fr C L:=λh0 a w b d=>h h0 a w b d
theorem Y1 {I:Act->World->Prop}(h:G F k .ret fr C L):G F (.inv I::k) .ret fr C L:=λh0 a w b c=>h h0 a w b c
theorem YY {I:Act->World->Prop}{j:Nat}(h:G F k (.exit j) fr C L):G F (.inv I::k) (.exit j) fr C L:=λh0 a w b c=>h h0 a w b c
def exK (id:Nat):List KI->Option (List KI)
|[]=>none
|.blk j::k=>bif Nat.beq j id then some k else exK id k
|.code _::k=>exK id k
|.inv _::k=>exK id k
def kJ:Nat->List KI->List KI
|0,k=>k
|_,[]=>[]
|f+1,.blk _::k=>kJ f k
|_+1,.inv I::k=>.inv I::k
|f+1,.code c::k=>match c with
 |.seq a b=>kJ f (.code a::.code b::k)
 |.block id c=>kJ f (.code c::.blk id::k)
 |.skip=>kJ f k
 |.exit id=>match exK id k with
  |some k'=>kJ f k'
  |none=>.code c::k
 |_=>.code c::k
theorem XV {d:Nat}:∀{k b:List KI},exK d k=some b->G F b .normal fr C L->G F k (.exit d) fr C L
|.blk j::k,b,a,h=>by
  simp only[exK]at a;cases c:Nat.beq j d with
 |true =>
   rw[c]at a;simp only[Ux,Tv]at a;subst a;obtain rfl:=Tr c;exact Y0 h
 |false =>
   rw[c]at a;refine YX (F:=F) ?_ (XV a h);cases e:Nat.beq d j with
  |false=>rfl
  |true=>rw[Tr e,Wb]at c;cases c
|.code _::k,b,a,h=>YW (XV (k:=k) a h)
|.inv _::k,b,a,h=>YY (XV (k:=k) a h)
theorem Xf:∀(f:Nat){k:List KI},G F (kJ f k) .normal fr C L->G F k .normal fr C L
|0,_,h=>h
|_+1,[],h=>h
|f+1,.blk _::k,h=>Y7 (Xf f h)
|_+1,.inv _::_,h=>h
|f+1,.code c::k,h=>by
  cases c <;> simp only[kJ]at h <;> try exact h
  case skip=>exact G.skip (Xf f h)
  case seq a b=>exact G.seq (Xf f h)
  case block id c=>exact G.block (Xf f h)
  case exit id =>
   split at h
   .rename_i e d;exact G.exit (XV d (Xf f h))
   exact h
theorem XT:∀{k:List KI},G F [] .ret fr C L->G F k .ret fr C L
|[],h=>h
|.code _::_,h=>YZ (XT h)
|.blk _::_,h=>Y3 (XT h)
|.inv _::_,h=>Y1 (XT h)
theorem WE {k:List KI}(h:G F [] .ret fr C L):G F (.code .ret::k) .normal fr C L:=G.ret (XT h)
theorem G.cond {c:Operand}{x y:Code}{b:Bool}(f:ev fr [] c=some (.bool b))(g:b=true->G F (kJ 64 (.code x::k)) .normal fr C L)(i:b=false->G F (kJ 64 (.code y::k)) .normal fr C L) :
  G F (.code (.cond c x y)::k) .normal fr C L:=λh0 a w d e=>by
 simp only[Kq];exact F.W.cond (bP d (λp hp=>by cases hp) f) (λh=>Xf 64 (g h) h0 a w d e) (λh=>Xf 64 (i h) h0 a w d e)
theorem G.cd {c:Operand}{x y:Code}{b:Bool}(a:b=true->G F (kJ 64 (.code x::k)) .normal fr C L)(d:b=false->G F (kJ 64 (.code y::k)) .normal fr C L)(e:ev fr [] c=some (.bool b):=by rfl):G F (.code (.cond c x y)::k) .normal fr C L:=G.cond e a d
def subF (fr fr':Fr):Prop:=∀s g v,fr'.get s=some (g,v)->fr.get s=some (g,v)
theorem FrOk.weaken {n:Nat}{b:List (Option Nat)}{c d:Fr}{a:Act}{e:List Deferred}(h:FrOk n b e c a)(f:subF c d):FrOk n b e d a :=
 ⟨h.size,h.defers,λs g v i=>h.ent s g v (f s g v i)⟩
def Has (fr:Fr):List (Nat × GL × Value)->Prop
|[]=>True
|(s,g,v)::r=>fr.get s=some (g,v)/\Has fr r
theorem Has.sub {b:Fr}:∀{fr':Fr},Has b fr'->subF b fr'
|[],_,s,g,v,h=>by simp[Fr.get]at h
|(t,c,d)::r,hh,s,g,v,h=>by
  simp only[Fr.get]at h;cases a:Nat.beq t s with
 |true =>
   rw[a]at h;simp only[Ux,Tv,UW]at h;obtain⟨rfl,rfl⟩:=h;rw[<- Tr a];exact hh.1
 |false =>
   rw[a]at h;exact Has.sub hh.2 s g v h
theorem G.perm {e:Exit}(L':List Ent)(b:L.Perm L')(h:G F k e fr C L'):G F k e fr C L:=λh0 a w c d=>h h0 a w c (St.perm d b)
theorem Xb {e:Exit}(j:Nat){x:Ent}(b:L[j]?=some x)(h:G F k e fr C (L.eraseIdx j)):G F k e fr C L:=λh0 a w c d=>h h0 a w c (St.drop (St.perm d (ax b)))
theorem St.dropAll {a:World}{b:Mem}{c:List Ent}{C:Mem}{w:World}:∀{L:List Ent},St a b c C L w->St a b c C [] w
|[],h=>h
|_::_,h=>St.dropAll h.drop
theorem G.dropAll {e:Exit}(h:G F k e fr C []):G F k e fr C L:=λh0 a w b c=>h h0 a w b (St.dropAll c)
theorem least {p:Nat->Prop}:∀m,p m->∃c,p c/\∀a,p a->c<=a:=by
 intro m;induction m using Nat.strongRecOn with
|_ m d =>
  intro hm;by_cases h:∃a,a<m/\p a
  .obtain⟨a,b,hp⟩:=h;exact d a b hp
  exact⟨m,hm,λa hp=>Nat.le_of_not_lt (λb=>h ⟨a,b,hp⟩)⟩
theorem sR {P:Program}(W:Cw P){c:Code}{Q:Exit->Act->World->Prop}{a:Act}{w:World}(J:Nat->Act->World->Prop){m:Nat}(j:J m a w)
  (k:∀m a w,J m a w->W.wp c (Exit.then (λd w'=>∃b,b<m/\J b d w') Q) a w):W.wp (Code.loop c) Q a w:=by
 classical
 refine W.loop (λa w=>∃m,J m a w) (λa w=>if h:∃m,J m a w then Classical.choose (least (p:=λm=>J m a w) _ (Vu h)) else 0) ⟨m,j⟩ ?_;intro a w g;have hs:=Vu (least (p:=λm=>J m a w) _ (Vu g));refine W.mono (λe d w' q=>?_) (k _ a w hs.1);cases e <;> try exact q
 obtain⟨b,l,i⟩:=q;have f:∃m,J m d w':=⟨b,i⟩;refine⟨f, ?_⟩;rw[dif_pos f,dif_pos g];exact TD ((Vu (least (p:=λm=>J m d w') _ (Vu f))).2 b i) l
def IA (F:Fx)(I:Fr->Mem->List Ent->Nat->Prop)(C:Mem)(m:Nat)(a:Act)(w:World):Prop :=
 ∃fr C' L',C.le C'/\I fr C' L' m/\FrOk F.n [] F.dd fr a/\F.b.cls (C',L') w
theorem G.loop {c:Code}(I:Fr->Mem->List Ent->Nat->Prop){m:Nat}{b:Fr}(i:Has fr b)(j:I b C L m)
  (l:∀fr d f m,C.le d->I fr d f m->G F (kJ 64 (.code c::.inv (λa w=>∃g,g<m/\IA F I C g a w)::k)) .normal fr d f):G F (.code (.loop c)::k) .normal fr C L:=λh0 a w n o=>by
 simp only[Kq];refine sR F.W (IA F I C) ⟨b,C,L,Mem.le.refl _,j,n.weaken i.sub,o⟩ (λm a w ⟨p,r,s,h,t,u,v⟩=>?_);refine F.W.mono (λe a w q=>?_) (Xf 64 (l p r s m h t) (h0.trans h) a w u v);cases e <;> exact q
theorem WF {I:Fr->Mem->List Ent->Nat->Prop}{c:Mem}{m m':Nat}{b:Fr}(d:m'<m)(e:c.le C)(f:Has fr b)(g:I b C L m') :
  G F (.inv (λa w=>∃m',m'<m/\IA F I c m' a w)::k) .normal fr C L:=λ_ _j _l h i =>
 ⟨m',d,b,C,L,e,g,h.weaken f.sub,i⟩
theorem G.cut {c:Code}(I:Fr->Mem->List Ent->Nat->Prop)(g:G F (kJ 64 (.code c::.inv (λa w=>∃m,IA F I C m a w)::k)) .normal fr C L)
  (h:∀fr b d m,C.le b->I fr b d m->G F (kJ 64 k) .normal fr b d):G F (.code c::k) .normal fr C L:=λh0 a w i j=>by
 simp only[Kq];refine F.W.mono (λe a w q=>?_) (Xf 64 g h0 a w i j);cases e <;> try exact q
 obtain⟨m,l,n,o,f,p,r,s⟩:=q;exact Xf 64 (h l n o m f p) (h0.trans f) a w r s
theorem WJ {I:Fr->Mem->List Ent->Nat->Prop}{b:Mem}{fr':Fr}(m:Nat)(c:b.le C)(d:Has fr fr')(e:I fr' C L m) :
  G F (.inv (λa w=>∃m,IA F I b m a w)::k) .normal fr C L:=λ_ _h _i f g=>⟨m,fr',C,L,c,e,f.weaken d.sub,g⟩
def fZ (o:Oper):Nat:=match o.op with
|.load ..|.lookup ..|.entry ..=>1
|.alloc ..|.box ..|.buildSlice ..|.makeMap ..|.makeSlice ..|.convert ..=>2
|.store ..|.mapUpdate ..|.mapEntry ..|.entryStore ..|.insert ..|.next ..|.range ..=>3
|.call c=>match c.callee with
 |.value _=>match o.guard with|none=>2|some _=>1
 |.invoke ..=>3
 |.builtin b=>match b with|.len|.cap|.max|.min=>0|_=>3
|_=>0
def ovr:List (Nat × Nat)->Nat->Nat->Nat
|[],_,d=>d
|(j,k)::r,i,d=>bif Nat.beq j i then k else ovr r i d
def oU:List Oper->Nat->Oper
|[],_=>default
|o::_,0=>o
|_::r,i+1=>oU r i
theorem gZ:∀{l:List Oper}{i:Nat},i<l.length->l[i]?=some (oU l i)
|[],i,h=>by simp at h
|o::l,0,_=>rfl
|o::l,i+1,h=>by simpa [oU] using gZ (l:=l) (i:=i) (by simpa using h)
def jh (l:List Oper)(ov:List (Nat × Nat)):List Nat->List It
|[]=>[]
|i::π=>(i,ovr ov i (fZ (oU l i)),oU l i)::jh l ov π
theorem eL (l:List Oper)(b:List (Nat × Nat)):∀a:List Nat,(jh l b a).map (·.1)=a
|[]=>rfl
|i::a=>by simp[jh,eL l b a]
theorem ia {l:List Oper}{b:List (Nat × Nat)}:∀{a:List Nat}{x:It},x∈jh l b a->x.1∈a/\x.2.1=ovr b x.1 (fZ (oU l x.1))/\x.2.2=oU l x.1
|[],x,h=>by simp[jh]at h
|i::a,x,h=>by
  simp only[jh,SY]at h;rcases h with rfl|h
  .exact⟨by simp,rfl,rfl⟩
  have:=ia h;exact⟨by simp[this.1],this.2⟩
def gz:Nat->Nat->List Nat
|0,_=>[]
|n+1,i=>i::gz n (i+1)
theorem fX:∀n i,gz n i=List.range' i n
|0,_=>rfl
|n+1,i=>by simp[gz,fX n,Wq]
def Ni:List Oper->Nat
|[]=>0
|_::r=>Ni r+1
theorem rz:∀l,Ni l=l.length
|[]=>rfl
|_::r=>by simp[Ni,rz r]
theorem FrOk.enter {n:Nat}{c:Fr}{a:Act}{d:List Deferred}(h:FrOk n [] d c a)(f:List (Option Nat))(b:c.all (λx=>x.2.1.isEmpty)=true):FrOk n f d c a :=
 ⟨h.size,h.defers,λs g v e=>by
  have hm:=S3.1 b _ (Fr.get_mem e);simp only[Vm]at hm;subst hm;exact⟨λ_=>(h.ent s [] v e).1 (λp b=>by cases b),λi=>absurd (λp b=>by cases b) i⟩⟩
theorem G.region {m:Nat}{l:List Oper}(c:fr.all (λx=>x.2.1.isEmpty)=true)
  (h:∀R:Rg F.n (l.map (·.dst)),(∀fr C L,fr.all (λx=>x.2.1.isEmpty)=true->G F (kJ 64 k) .normal fr C L->D F.cx R [] fr C L)->D F.cx R (jh l [] (gz (Ni l) 0)) fr C L) (o:F.W.nd l.toArray:=by first|exact trivial|exact rfl) :
  G F (.code (.region m l.toArray false)::k) .normal fr C L:=λh0 a w d e=>by
 simp only[Kq]
 let kd:=λi=>fZ (oU l i)
 let Post:Act->Mem × List Ent->Prop:=λa κ=>∀w,F.b.cls κ w->Kq F k .normal a w
 let R:Rg F.n (l.map (·.dst)):=⟨F.b,l.toArray,kd,Post,λtmps=>gS l tmps,F.dd⟩
 have f:=h R (λfr C L c q h0 _ a d w e=>Xf 64 q h0 a w ⟨d.size,d.defers,λs g v j=>by
  have hm:=S3.1 c _ (Fr.get_mem j);simp only[Vm]at hm;subst hm;exact⟨λ_=>(d.ent s [] v j).1 (λp c=>by cases c),λr=>absurd (λp c=>by cases c) r⟩⟩ e) h0 (λx t=>by
   obtain⟨h1,h2,h3⟩:=ia t;refine⟨h2.symm, ?_⟩;rw[fX,List.mem_range'_1,rz]at h1;show(l.toArray)[x.1]?=_;rw[T9,gZ om_,h3]) a (d.enter _ c)
 rw[eL,fX,rz]at f;refine lP F.W o (cls:=F.b.cls) (le:=kle) kle.refl e (κ:=(C,L)) (kd:=kd) (Post:=Post) ?_ (λa κ w u e=>u w e);rw[Wc];simpa using f
theorem Wu {a:Nat}{l:List Oper}(h:∀R:Rg F.n (l.map (·.dst)),(∀fr C L,fr.all (λx=>x.2.1.isEmpty)=true->G F (kJ 64 k) .normal fr C L->D F.cx R [] fr C L)->D F.cx R (jh l [] (gz (Ni l) 0)) fr C L)(b:F.W.nd l.toArray:=by first|exact trivial|exact rfl)(c:fr.all (λx=>x.2.1.isEmpty)=true:=by rfl):G F (.code (.region a l.toArray false)::k) .normal fr C L:=G.region c h b
theorem St.rebase {a:World}{c:Mem}{b:List Ent}{C:Mem}{L:List Ent}{w:World}(h:St a c b C L w):St a C b C L w:=⟨h.sep,h.ev,Mem.le.refl _,λ_ _ d=>.inl d,h.ln⟩
theorem St.unbase {a:World}{b:Mem}{c:List Ent}{C d:Mem}{e:List Ent}{f:World}(g:b.le C)(i:∀k o,C k=some o->b k=some o∨a.heap.size<=k∨qX c k)(h:St a C c d e f):St a b c d e f :=
 ⟨h.sep,h.ev,g.trans h.c0,λk o j=>(h.cn k o j).elim (i k o) (λh=>.inr h),h.ln⟩
theorem WM {t:Nat}{l:List Oper}(e:List Nat)(j:List (Nat × Nat))(c:fr.all (λx=>x.2.1.isEmpty)=true)
  (m:(Region.noSelect l.toArray && (e.length == l.toArray.size) && N9 .any l.toArray (λi=>ovr j i (fZ (oU l i))) e (Array.replicate l.toArray.size false) && e.all (λi=>Nat.blt i l.length))=true)
  (h:∀R:Rg F.n (l.map (·.dst)),C.le R.b.C0->(∀fr C L,fr.all (λx=>x.2.1.isEmpty)=true->G F (kJ 64 k) .normal fr C L->D F.cx R [] fr C L)->D F.cx R (jh l j e) fr C L) (u:F.W.nd l.toArray:=by first|exact trivial|exact rfl) :
  G F (.code (.region t l.toArray true)::k) .normal fr C L:=λh0 a w f d=>by
 simp only[Kq];rw[S1]at m
 let kd:=λi=>ovr j i (fZ (oU l i))
 let b:Bs:=⟨F.b.w0,C,F.b.L0⟩
 let Post:Act->Mem × List Ent->Prop:=λa κ=>∀w,b.cls κ w->Kq F k .normal a w
 let R:Rg F.n (l.map (·.dst)):=⟨b,l.toArray,kd,Post,λtmps=>gS l tmps,F.dd⟩
 have y:∀κ w,b.cls κ w->F.b.cls κ w:=λκ w z=>St.unbase h0 d.cn z;have o:=h R (Mem.le.refl _) (λfr J L c A B _ a f w d=>Xf 64 A (h0.trans B) a w ⟨f.size,f.defers,λs g v q=>by
  have hm:=S3.1 c _ (Fr.get_mem q);simp only[Vm]at hm;subst hm;exact⟨λ_=>(f.ent s [] v q).1 (λp c=>by cases c),λE=>absurd (λp c=>by cases c) E⟩⟩ (y _ _ d)) (Mem.le.refl _) (λx H=>by
   obtain⟨h1,h2,h3⟩:=ia H;refine⟨h2.symm, ?_⟩;have r:=S3.1 m.2 x.1 h1;rw[Wa]at r;show(l.toArray)[x.1]?=_;rw[T9,gZ r,h3]) a (f.enter _ c)
 rw[eL]at o;exact lO F.W u (cls:=b.cls) (le:=kle) kle.refl kle.trans F.cx.mixed (St.rebase (St.drew d)) e m.1 o (λa κ w I d=>I w d)
theorem WQ {o:Nat}{l:List Oper}(f:List (Nat × Nat))(c:fr.all (λx=>x.2.1.isEmpty)=true)
  (h:∀R:Rg F.n (l.map (·.dst)),(∀fr C L,fr.all (λx=>x.2.1.isEmpty)=true->G F (kJ 64 k) .normal fr C L->D F.cx R [] fr C L)->D F.cx R (jh l f (gz (Ni l) 0)) fr C L) (q:F.W.nd l.toArray:=by first|exact trivial|exact rfl) :
  G F (.code (.region o l.toArray false)::k) .normal fr C L:=λh0 a w d e=>by
 simp only[Kq]
 let kd:=λi=>ovr f i (fZ (oU l i))
 let Post:Act->Mem × List Ent->Prop:=λa κ=>∀w,F.b.cls κ w->Kq F k .normal a w
 let R:Rg F.n (l.map (·.dst)):=⟨F.b,l.toArray,kd,Post,λtmps=>gS l tmps,F.dd⟩
 have j:=h R (λfr C L c r h0 _ a d w e=>Xf 64 r h0 a w ⟨d.size,d.defers,λs g v m=>by
  have hm:=S3.1 c _ (Fr.get_mem m);simp only[Vm]at hm;subst hm;exact⟨λ_=>(d.ent s [] v m).1 (λp c=>by cases c),λt=>absurd (λp c=>by cases c) t⟩⟩ e) h0 (λx u=>by
   obtain⟨h1,h2,h3⟩:=ia u;refine⟨h2.symm, ?_⟩;rw[fX,List.mem_range'_1,rz]at h1;show(l.toArray)[x.1]?=_;rw[T9,gZ om_,h3]) a (d.enter _ c)
 rw[eL,fX,rz]at j;refine lP F.W q (cls:=F.b.cls) (le:=kle) kle.refl e (κ:=(C,L)) (kd:=kd) (Post:=Post) ?_ (λa κ w y e=>y w e);rw[Wc];simpa using j
theorem Xp {n:Nat}{d:List (Option Nat)}{R:Rg n d}{b:Cx}(c:Fr)(e:Has fr c)(h:D b R [] c C L):D b R [] fr C L:=λh0 f a g=>h h0 f a (g.weaken e.sub)
theorem XL {n:Nat}{d:List (Option Nat)}{R:Rg n d}{c:Cx}{a:Fr}{C:Mem}{L:List Ent}{P:Fr->Mem->List Ent->Prop}(b:Fr)(e:∀a C L,a.all (λx=>x.2.1.isEmpty)=true->P a C L->D c R [] a C L)(h:P b C L)(f:Has a b:=by(repeat (first|exact trivial|refine⟨rfl, ?_⟩)))(g:b.all (λx=>x.2.1.isEmpty)=true:=by rfl):D c R [] a C L:=Xp b f (e _ _ _ g h)
def pkS (fr:Fr):List Nat->Option Fr
|[]=>some []
|k::ks=>match fr.get k with
 |some ([],v)=>match pkS fr ks with
  |some r=>some ((k,[],v)::r)
  |none=>none
 |_=>none
theorem qR {a:Fr}:∀{ks:List Nat}{f:Fr},pkS a ks=some f->Has a f/\f.all (λx=>x.2.1.isEmpty)=true
 |[],_,h=>by cases h;exact⟨trivial,rfl⟩
 |k::ks,f,h=>by
    simp only[pkS]at h;split at h
    . rename_i v b;split at h
      . rename_i r hr;cases h
        exact⟨⟨b,(qR hr).1⟩,(qR hr).2⟩
      cases h
    cases h
theorem hn_ {a f:Fr}(b:List Nat)(h:pkS a b=some f):Has a f:=(qR h).1
theorem Ww {n:Nat}{d:List (Option Nat)}{R:Rg n d}{b:Cx}{a f:Fr}{C:Mem}{L:List Ent}{P:Fr->Mem->List Ent->Prop}(e:List Nat)(g:∀a C L,a.all (λx=>x.2.1.isEmpty)=true->P a C L->D b R [] a C L)(c:pkS a e=some f)(h:P f C L):D b R [] a C L:=XL f g h (qR c).1 (qR c).2
def QS (cx:Cx)(n:Nat)(ds:List (Option Nat)):Nat->List It->Fr->Option (List It × Fr)
|0,its,fr=>some (its,fr)
|_+1,[],_=>none
|m+1,(_,k,o)::its,fr=>match o.dst with
 |none=>none
 |some d=>match gOf ds fr o.guard with
  |none=>none
  |some g=>match po cx.T (ev fr g) o.op with
   |none=>none
   |some v=>bif Nat.ble k 1 && (aZ n ds ((d,g,v)::fr) d && wfG ds fr g) then QS cx n ds m its ((d,g,v)::fr) else none
theorem Wv {n:Nat}{f:List (Option Nat)}{R:Rg n f}{j:Cx}{c l:List It}{e p:Fr}{C:Mem}{L:List Ent}(m:Nat)(a:QS j n f m c e=some (l,p))(h:D j R l p C L):D j R c e C L:=by
 induction m generalizing c e with
|zero=>cases a;exact h
|succ m q=>match c,a with
 |(i,k,o)::c,a =>
   simp only[QS]at a;split at a
   .cases a
   rename_i d hd;split at a
   .cases a
   rename_i g r;split at a
   .cases a
   rename_i v s;cases b:(Nat.ble k 1 && (aZ n f ((d,g,v)::e) d && wfG f e g)) with
  |false=>rw[b]at a;cases a
  |true =>
    rw[b]at a;simp only[S1]at b;exact D.pure b.1 hd r s b.2.1 b.2.2 (q a)
def Si (cx:Cx)(n:Nat)(ds:List (Option Nat))(m:Nat)(its:List It)(fr:Fr)(ks:List Nat):Option Fr :=
 match QS cx n ds m its fr with
|some ([],f)=>pkS f ks
|_=>none
theorem C6 {n:Nat}{d:List (Option Nat)}{R:Rg n d}{c:Cx}{a:Fr}{C:Mem}{L:List Ent}{g:List It}{f:Fr}{P:Fr->Mem->List Ent->Prop}(m:Nat)(i:List Nat)(j:∀a C L,a.all (λx=>x.2.1.isEmpty)=true->P a C L->D c R [] a C L)(b:Si c n d m g a i=some f)(h:P f C L):D c R g a C L:=by
 unfold Si at b;split at b
 .rename_i k e;exact Wv m e (Ww i j b h)
 cases b
theorem U1 {F:Fx}{k:List KI}{a b:Fr}{C:Mem}{L:List Ent}{d:Nat}{l:List Oper}{c:List It}(m:Nat)(e:QS F.cx F.n (l.map (·.dst)) m (jh l [] (gz (Ni l) 0)) a=some (c,b))(h:∀R:Rg F.n (l.map (·.dst)),(∀a C L,a.all (λx=>x.2.1.isEmpty)=true->G F (kJ 64 k) .normal a C L->D F.cx R [] a C L)->D F.cx R c b C L)(f:F.W.nd l.toArray:=by first|exact trivial|exact rfl)(g:a.all (λx=>x.2.1.isEmpty)=true:=by rfl):G F (.code (.region d l.toArray false)::k) .normal a C L:=Wu (λR i=>Wv m e (h R i)) f g
theorem U0 {F:Fx}{k:List KI}{a b:Fr}{C:Mem}{L:List Ent}{d:Nat}{l:List Oper}(m:Nat)(c:List Nat)(e:Si F.cx F.n (l.map (·.dst)) m (jh l [] (gz (Ni l) 0)) a c=some b)(h:G F (kJ 64 k) .normal b C L)(f:F.W.nd l.toArray:=by first|exact trivial|exact rfl)(g:a.all (λx=>x.2.1.isEmpty)=true:=by rfl):G F (.code (.region d l.toArray false)::k) .normal a C L:=Wu (λ_ i=>C6 m c i e h) f g
abbrev E_ (k:Nat)(v:Value):Nat × GL × Value:=(k,[],v)
theorem W6 {r:Nat}{v:Value}(e:F.fn.results=#[.tmp r])(f:ev fr [] (.tmp r)=some v)(h:F.post v C L)(b:F.ends:=by exact⟨λ_ _ _ h=>h,rfl⟩):G F [] .ret fr C L:=λ_ a w c g=>by
 have d:=bP c (λp hp=>by cases hp) f;simp only[Act.eval]at d;exact b.kq <| bodyPost_ret (v:=v) (by rw[results_tmp e,d]) (c.defers.trans b.2) ⟨v,C,L,U,g,h⟩
theorem Wx {k:List KI}{r:Nat}{v:Value}(a:Z2 F.fn.results (#[.tmp r]) (ev fr [] (.tmp r)) (some v))(h:F.post v C [])(b:F.ends:=by exact⟨λ_ _ _ h=>h,rfl⟩):G F (.code .ret::k) .normal fr C L:=have ⟨c,d⟩:=a;WE (G.dropAll (W6 c d h b))
theorem WS {r s:Nat}{u v:Value}(f:Z3 F.fn.results (#[.tmp r,.tmp s]) (ev fr [] (.tmp r)) (some u) (ev fr [] (.tmp s)) (some v))(h:F.post (.tuple #[u,v]) C L)(c:F.ends:=by exact⟨λ_ _ _ h=>h,rfl⟩):G F [] .ret fr C L:=have ⟨g,i,j⟩:=f;λ_ a w b k=>by
 have d:=bP b (λp hp=>by cases hp) i;have e:=bP b (λp hp=>by cases hp) j;simp only[Act.eval]at d e;exact c.kq <| bodyPost_ret (v:=.tuple #[u,v]) (by rw[results_tmp2 g,d,e]) (b.defers.trans c.2) ⟨_,C,L,U,k,h⟩
theorem zD {r s:Nat}{u v:Value}(f:Z3 F.fn.results (#[.tmp r,.tmp s]) (ev fr [] (.tmp r)) (some u) (ev fr [] (.tmp s)) (some v))(h:F.post (.tuple #[u,v]) C [])(c:F.ends:=by exact⟨λ_ _ _ h=>h,rfl⟩):G F [] .ret fr C L:=G.dropAll (WS f h c)
theorem Xj {r s t:Nat}{u v x:Value}(g:Z4 F.fn.results (#[.tmp r,.tmp s,.tmp t]) (ev fr [] (.tmp r)) (some u) (ev fr [] (.tmp s)) (some v) (ev fr [] (.tmp t)) (some x))(h:F.post (.tuple #[u,v,x]) C L)(f:F.ends:=by exact⟨λ_ _ _ h=>h,rfl⟩):G F [] .ret fr C L:=have ⟨i,j,k,l⟩:=g;λ_ a w b m=>by
 have c:=bP b (λp hp=>by cases hp) j;have d:=bP b (λp hp=>by cases hp) k;have e:=bP b (λp hp=>by cases hp) l;simp only[Act.eval]at c d e;simp only[TM]at c d e;exact f.kq <| bodyPost_ret (v:=.tuple #[u,v,x]) (by simp[results,i,c,d,e]) (b.defers.trans f.2) ⟨_,C,L,U,m,h⟩
theorem Yu (b:F.fn.results=#[])(h:F.post (.tuple #[]) C L)(a:F.ends:=by exact⟨λ_ _ _ h=>h,rfl⟩):G F [] .ret fr C L:=λ_ _e _f c d =>
 a.kq <| bodyPost_ret (results_none b _ _ _) (c.defers.trans a.2) ⟨_,C,L,rfl,d,h⟩
theorem XD (b:F.fn.results=#[])(h:F.post (.tuple #[]) C L)(a:F.ends:=by exact⟨λ_ _ _ h=>h,rfl⟩):G F [] .normal fr C L:=λ_ _e _f c d =>
 a.kq <| bodyPost_end (results_none b _ _ _) (c.defers.trans a.2) ⟨_,C,L,rfl,d,h⟩
def BH:List Value->Nat->Fr
|[],_=>[]
|v::vs,i=>(i,[],v)::BH vs (i+1)
theorem sd:∀{vs:List Value}{i s:Nat}{g:GL}{v:Value},(BH vs i).get s=some (g,v)->g=[]/\i<=s/\vs[s-i]?=some v
|[],i,s,g,v,h=>by simp[BH,Fr.get]at h
|u::vs,i,s,g,v,h=>by
  simp only[BH,Fr.get]at h;cases a:Nat.beq i s with
 |true =>
   rw[a]at h;simp only[Ux,Tv,UW]at h;obtain⟨rfl,rfl⟩:=h;obtain rfl:=Tr a;exact⟨U,SH _,by simp⟩
 |false =>
   rw[a]at h;obtain⟨h1,h2,h3⟩:=sd h;exact⟨h1,by omega,by rw[show s-i=(s-(i+1))+1 by omega];simpa using h3⟩
theorem YS {b:Cx}{f:FuncId}{d:Func}{c:Code}{i:List Value}{C:Mem}{L:List Ent}{j:Value->Mem->List Ent->Prop}(m:Enters b.P f=true)(o:b.P.funcs[f]?=some d)(r:d.body=some c)
  (n:Nat) (t:d.ntmps=n) (k:Nat.ble i.length n=true)
  (h:∀w0,G ⟨b,d,n,⟨w0,C,L⟩,j,Cw.plain b.P,[],bodyPost b.P d (yN ⟨w0,C,L⟩ j)⟩ (kJ 64 [.code c]) .normal (BH i 0) C L):Fn b.P f i C L j:=by
 subst t;refine⟨m,λw u=>?_⟩;refine calls_of_wp o r ?_;rw[UC]at k;have:=Xf 64 (h w) (Mem.le.refl _) { tmps:=i.toArray++Array.replicate (d.ntmps-i.toArray.size) undef,defers:=[] } w
  ⟨by simp;omega,rfl,λs g v x=>by
   obtain⟨rfl,_,l⟩:=sd x;refine⟨λ_=>?_,λk=>absurd (λp hp=>by cases hp) k⟩;simp only[VK]at l;have y:=(R0.1 l).1;simp only[Array.getElem?_append,Uu,y,UK,T9];exact l⟩ (St.start u)
 simp only[Kq]at this;refine Code.wp_mono (λe a w q=>?_) this;cases e <;> exact q
theorem Wy {a:Cx}{f:FuncId}{b:Func}{c:Code}{d:List Value}{C:Mem}{L:List Ent}{e:Value->Mem->List Ent->Prop}(g:a.P.funcs[f]?=some b)(n:Nat)(i:Z3 b.body (some c) b.ntmps n (Nat.ble d.length n) true)(h:∀w0,G ⟨a,b,n,⟨w0,C,L⟩,e,Cw.plain a.P,[],bodyPost a.P b (yN ⟨w0,C,L⟩ e)⟩ (kJ 64 [.code c]) .normal (BH d 0) C L)(j:Enters a.P f=true:=by kernel_rfl):Fn a.P f d C L e:=have ⟨k,l,m⟩:=i;YS j g k n l m h
end
end Go.Jog
namespace Go.Jog
open Go
theorem wrap_i64 {n:Int}(a:-9223372036854775808<=n)(b:n<=9223372036854775807):IntKind.i64.wrap n=n:=by
 rw[IntKind.wrap_i64];omega
section
variable {cx:Cx} {n:Nat} {ds:List (Option Nat)} {R:Rg n ds} {its:List It} {fr:Fr} {C:Mem} {L:List Ent} {i k d:Nat} {o:Oper} {g:GL} {v:Value}
theorem WW (c:Int){e:Int}(a:Z4 (Nat.ble k 1) true o.dst (some d) (gOf ds fr o.guard) (some g) (po cx.T (ev fr g) o.op) (some (.int .i64 (IntKind.i64.wrap e))))(b:e=c)(f:-9223372036854775808<=c)(j:c<=9223372036854775807)(l:Z2 (aZ n ds ((d,g,.int .i64 c)::fr) d) true (wfG ds fr g) true)(h:D cx R its ((d,g,.int .i64 c)::fr) C L):D cx R ((i,k,o)::its) fr C L:=by
 have ⟨m,hd,p,q⟩:=a;have ⟨hp,r⟩:=l;subst b;exact D.pure m hd p (by rw[q,wrap_i64 f j]) hp r h
theorem Wz {e:Int}(c:Int)(a:e=c)(b:Z6 (Nat.ble k 1) true o.dst (some d) (gOf ds fr o.guard) (some g) (po cx.T (ev fr g) o.op) (some (.int .i64 (IntKind.i64.wrap e))) (aZ n ds ((d,g,.int .i64 c)::fr) d) true (wfG ds fr g) true)(h:D cx R its ((d,g,.int .i64 c)::fr) C L)(f:-9223372036854775808<=c:=by omega)(j:c<=9223372036854775807:=by omega):D cx R ((i,k,o)::its) fr C L:=have ⟨l,hd,m,p,hp,q⟩:=b;WW c ⟨l,hd,m,p⟩ a f j ⟨hp,q⟩ h
theorem D.run (v:Value)(b:Nat.ble k 1=true)(c:o.dst=some d)(e:gOf ds fr o.guard=some g)(f:GT ds fr g->∀a,MA (ev fr g) a->∀w,(execOp a.eval o).run cx.P w=.ok (.value v) w)
  (j:aZ n ds ((d,g,v)::fr) d=true) (l:wfG ds fr g=true)
  (h:D cx R its ((d,g,v)::fr) C L):D cx R ((i,k,o)::its) fr C L :=
 Xe b c e j l (λm a hs p _ w _=>by
  unfold Oper.quietAt;rw[f m a hs w];exact⟨U,U⟩) h
theorem dU {P:Program}{a:Act}{o:Oper}{c:BinOp}{t e:Nat}{x y:Operand}{u v:Value}(d:o.op=.binOp c t x y e)(f:a.eval x=u)(g:a.eval y=v)(h:∀a b,u≠.agg a∨v≠.agg b)(i:u≠.nilIface∨v≠.nilIface)(w:World) :
  (execOp a.eval o).run P w=((binOp c t u v).run P w).andThen λr w'=>.ok (.value r) w':=by
 have j:execOp a.eval o=((eqGuard c t x y (a.eval x) (a.eval y) >>= λ_=>binOp c t (a.eval x) (a.eval y)) >>= λr=>Pure.pure (.value r)):=by
  obtain⟨k,l,m,pos,n,p⟩:=o;simp only at d;subst d;rfl
 rw[j,f,g];simp only[Sem.run_bind,eK (P:=P) (op:=c) (t:=t) (x:=x) (y:=y) w h i,Result.andThen_ok,Sem.run_pure]
theorem D.quo {t c:Nat}{x y:Operand}{b:IntKind}{p q:Int}(e:Nat.ble k 1=true)(f:o.dst=some d)(j:o.op=.binOp .quo t x y c)(l:gOf ds fr o.guard=some g)(m:ev fr g x=some (.int b p))(r:ev fr g y=some (.int b q))
  (B:0<q) (s:0<=p) (u:b.wrap (p / q)=p / q) (v:aZ n ds ((d,g,.int b (p / q))::fr) d=true) (z:wfG ds fr g=true)
  (h:D cx R its ((d,g,.int b (p / q))::fr) C L):D cx R ((i,k,o)::its) fr C L :=
 D.run _ e f l (λ_ a hs w=>by
  rw[dU j (hs _ _ m) (hs _ _ r) (λ_ _=>.inl am) (.inl am) w];have A:q≠0:=by omega
  simp[binOp,Op.intDiv,A,VA s,u]) v z h
theorem Xz {t c:Nat}{x y:Operand}{b:IntKind}{p q:Int}(e:Z6 (Nat.ble k 1) true o.dst (some d) o.op (.binOp .rem t x y c) (gOf ds fr o.guard) (some g) (ev fr g x) (some (.int b p)) (ev fr g y) (some (.int b q)))(z:0<q)(f:0<=p)(j:Z2 (aZ n ds ((d,g,.int b (p % q))::fr) d) true (wfG ds fr g) true)(h:D cx R its ((d,g,.int b (p % q))::fr) C L):D cx R ((i,k,o)::its) fr C L :=
 have ⟨l,hd,m,r,s,hy⟩:=e;have ⟨hp,u⟩:=j;D.run _ l hd r (λ_ a hs w=>by
  rw[dU m (hs _ _ s) (hs _ _ hy) (λ_ _=>.inl am) (.inl am) w];have v:q≠0:=by omega
  simp[binOp,Op.intDiv,v,Int.tmod_eq_emod_of_nonneg f]) hp u h
theorem W7 {e f:Nat}{x:Operand}{r b:IntKind}{p c:Int}{s g:TI}(t:Z8 k 2 o.dst (some d) o.op (.convert e f x) (gOn ds fr o.guard) true (ev fr [] x) (some (.int r p)) (cx.T.get e) (some s) (cx.T.get f) (some g) g.k (.int b))(u:b.wrap p=c)(y:∀v,aZ n ds ((d,[],v)::fr) d=true)(h:D cx R its ((d,[],.int b c)::fr) C L):D cx R ((i,k,o)::its) fr C L :=
 have ⟨z,hd,A,B,E,F,G,l⟩:=t;Xc (S:=λv m q=>v=.int b c/\m=C/\q=L) (by subst z;rfl) hd B y (λa hs w _ H=>by
  have I:(execOp a.eval o).run cx.P w=.ok (.value (.int b c)) w:=by
   have j:execOp a.eval o=(do Pure.pure (.value (<- convert e f (a.eval x))):Sem Next):=by unfold execOp;rw[A]
   rw[j,hs _ _ E];obtain⟨du,h1,h2⟩:=(dC cx.hT F).und;obtain⟨M,N,O,Q,V⟩:=g;simp only at l;subst l;subst u;simp[convert,run_underlying h1,run_underlying (pV cx.hT G),Conv.intToInt]
  unfold Oper.wp;rw[I];exact⟨_,C,L,U,Mem.le.refl _,λ_ _ h=>h,H,U,U,U⟩)
  (λv m q _ ⟨j,J,K⟩=>by subst j;subst J;subst K;exact h)
end
structure Fresh (w w':World)(ob:Obj):Prop where
 os:w'.os=w.os
 tape:w'.tape=w.tape
 output:w'.output=w.output
 size:w'.heap.size=w.heap.size+1
 old:∀k,k<w.heap.size->w'.heap[k]?=w.heap[k]?
 new:w'.heap[w.heap.size]?=some ob
 drawn:w.drawn<=w'.drawn
theorem St.fresh {d:World}{e:Mem}{f:List Ent}{C:Mem}{L:List Ent}{w c:World}(h:St d e f C L w){ob:Obj}(a:Fresh w c ob):St d e f C (.obj w.heap.size ob::L) c:=by
 have h1:=St.alloc h ob;have hh:c.heap=(w.alloc ob).heap:=by
  apply Array.ext_getElem?;intro k;rcases Nat.lt_trichotomy k w.heap.size with b|b|b
  .rw[a.old k b,RowKit.Below.heap_alloc w ob k b]
  .subst b;rw[a.new,heap_alloc_new]
  rw[VY (by rw[a.size];omega),VY ap]
 exact h1.same a.os a.tape a.output hh a.drawn
section
variable {cx:Cx} {n:Nat} {ds:List (Option Nat)} {R:Rg n ds} {its:List It} {fr:Fr} {C:Mem} {L:List Ent} {i k d:Nat} {o:Oper} {g:GL} {v:Value}
theorem Ya {S:Value->Nat->Obj->Prop}(g:Nat.ble k 1=false)(j:o.dst=some d)(l:gOn ds fr o.guard=true)(m:∀v,aZ n ds ((d,[],v)::fr) d=true)
  (p:∀a,MA (ev fr []) a->∀w C0 L0 w0,St w0 C0 L0 C L w->∃v ob w',(execOp a.eval o).run cx.P w=.ok (.value v) w'/\Fresh w w' ob/\S v w.heap.size ob)
  (h:∀v b ob c,C.le c->c b=some ob->S v b ob->D cx R its ((d,[],v)::fr) c L):D cx R ((i,k,o)::its) fr C L :=
 Xc (S:=λv c e=>e=L/\∃b ob,c b=some ob/\S v b ob) g j l m (λa hs w _ f=>by
  obtain⟨v,ob,w',hr,q,r⟩:=p a hs w _ _ _ f;unfold Oper.wp;rw[hr];have h1:=St.fresh f q;have h2:=h1.freeze;exact⟨v,C.set w.heap.size ob,L,U,h2.1,λ_ x s=>s,h2.2,U,w.heap.size,ob,Mem.set_self _ _ _,r⟩)
  (λv c e t ⟨u,b,ob,y,z⟩=>by subst u;exact h v b ob c t y z)
theorem gJ (s:List UInt8):(s.map λb=>[Value.int .u8 b.toNat]).flatten=s.map λb=>Value.int .u8 b.toNat:=by
 induction s with
|nil=>rfl
|cons b s a=>simp[a]
theorem YC {l m e:Nat}{x:Operand}{s:List UInt8}{B q r:TI}(t:k=2)(E:o.dst=some d)(F:o.op=.convert l m x)(G:gOn ds fr o.guard=true)(H:ev fr [] x=some (.string ⟨s.toArray⟩))
    (I:cx.T.get l=some B) (J:cx.T.get m=some q) (z:q.k=.slice e) (K:cx.T.get e=some r) (A:r.k=.int .u8) (M:s.length<=maxLen) (N:∀v,aZ n ds ((d,[],v)::fr) d=true)
    (h:∀p g,C.le g->Sl g 1 p (s.map λb=>[.int .u8 b.toNat])->D cx R its ((d,[],p)::fr) g L):D cx R ((i,k,o)::its) fr C L:=by
  refine Ya (S:=λv b ob=>∃(blk:Array Value)(fz:Nat × Nat)(c:Nat),v=.slice (some ⟨b,0,none⟩) s.length c/\ob=.cells blk e fz/\s.length<=c/\c<=maxLen/\∀(j:Nat)(u:Value),(s.map λb=>Value.int .u8 b.toNat)[j]?=some u->blk[j]?=some u)
    (by subst t;rfl) E G N (λa hs w _ _ _ _=>?_) (λv b ob g O Q ⟨blk,fz,c,y,U,V,W,X⟩=>?_)
  . obtain⟨du,h1,_⟩:=(dC cx.hT I).und;obtain⟨kk,s1,b1,z1,g1⟩:=q;simp only at z;subst z;obtain⟨aa,s2,b2,z2,g2⟩:=r;simp only at A;subst A;have hr:=Lib.run_convert_string_bytes (P:=cx.P) w l m e ⟨s.toArray⟩ h1 (bW cx.hT J) (pV cx.hT K);refine⟨.slice (some ⟨w.heap.size,0,none⟩) s.length (grownCap w s.length 0 e),_,Lib.bytesWorld w e ⟨s.toArray⟩, ?_,⟨?_, ?_, ?_,Lib.bytesWorld_size w e ⟨s.toArray⟩,λk t=>Lib.bytesWorld_at_old w e ⟨s.toArray⟩ k t,Lib.bytesWorld_at_new w e ⟨s.toArray⟩,bX _ hr⟩, ?_⟩
    . have y:execOp a.eval o=(do Pure.pure (.value (<- convert l m (a.eval x))):Sem Next):=by unfold execOp;rw[F]
      rw[y,hs _ _ H];simp only[Sem.run_bind,hr,Result.andThen_ok,Sem.run_pure];rfl
    . unfold Lib.bytesWorld World.freeze;split <;> rfl
    . unfold Lib.bytesWorld World.freeze;split <;> rfl
    . unfold Lib.bytesWorld World.freeze;split <;> rfl
    refine⟨_,_,_,rfl,rfl,by have:=grownCap_ge w s.length 0 e;simpa [ByteArray.size] using this,by have:=grownCap_le_maxLen w s.length 0 e M;simpa [ByteArray.size] using this,λj u f=>?_⟩;have Y:j<s.length:=by have:=(R0.1 f).1;simpa using this
    rw[SI]at f;simp only[Lib.bytesCells];rw[Array.getElem?_append_left (by simp;exact Y)];simp only[Array.getElem?_map,T9];exact f
  subst y;subst U;have:=Sl.ofBlock (rows:=s.map λb=>[Value.int .u8 b.toNat]) (s:=1) (c:=c) Q am (λj v f=>X j v (by
    have Z:(s.map λb=>[Value.int .u8 b.toNat]).flatten=s.map λb=>Value.int .u8 b.toNat:=by
      exact gJ s
    rw[Z]at f;exact f)) (by simpa using V) W
  simp only[ar]at this;exact h _ g O this
theorem WV (b:Nat){t e c j r l:Nat}{x y:Operand}{s:IntKind}{m:Int}{f p:TI}(u:Z10 (Nat.ble k 1) true o.dst (some d) o.op (.indexAddr t x y) (gOf ds fr o.guard) (some g) (ev fr g x) (some (.slice (some ⟨c,0,none⟩) j r)) (ev fr g y) (some (.int s m)) (cx.T.get t) (some f) f.k (.slice e) (cx.T.get e) (some p) p.size l)(v:GT ds fr g->0<=m/\m<j/\b=m.toNat*l)(z:Z2 (aZ n ds ((d,g,.pointer (some ⟨c,b,none⟩))::fr) d) true (wfG ds fr g) true)(h:D cx R its ((d,g,.pointer (some ⟨c,b,none⟩))::fr) C L):D cx R ((i,k,o)::its) fr C L:=by
 have ⟨A,hd,B,E,F,hy,ht,q,G,H⟩:=u;have ⟨hp,I⟩:=z;have J:cx.P.underlying t=some (.slice e):=by
  obtain⟨Q,S,U,V,W⟩:=f;simp only at q;subst q;exact bW cx.hT ht
 refine D.run _ A hd E (λK a hs w=>?_) hp I h;obtain⟨M,N,rfl⟩:=v K;have O:execOp a.eval o=(do Pure.pure (.value (<- Instr.indexAt t (a.eval x) (a.eval y))):Sem Next):=by unfold execOp;rw[B]
 rw[O,hs _ _ F,hs _ _ hy];have h2:=eD cx.hT G w;rw[H]at h2;simp[Instr.indexAt,asIntOf,run_underlying J,h2,M,N,Addr.add_lit]
theorem D.RS {t e b c p f:Nat}{x y:Operand}{q:IntKind}{m:Int}{j l:TI}(a:Nat)(r:GT ds fr g->0<=m/\m<c/\a=m.toNat*f)(h:D cx R its ((d,g,.pointer (some ⟨b,a,none⟩))::fr) C L)(s:Nat.ble k 1=true:=by rfl)(u:o.dst=some d:=by rfl)(v:o.op=.indexAddr t x y:=by rfl)(w:gOf ds fr o.guard=some g:=by rfl)(z:ev fr g x=some (.slice (some ⟨b,0,none⟩) c p):=by rfl)(A:ev fr g y=some (.int q m):=by rfl)(B:cx.T.get t=some j:=by rfl)(E:j.k=.slice e:=by rfl)(F:cx.T.get e=some l:=by rfl)(G:l.size=f:=by rfl)(H:aZ n ds ((d,g,.pointer (some ⟨b,a,none⟩))::fr) d=true:=by rfl)(I:wfG ds fr g=true:=by rfl):D cx R ((i,k,o)::its) fr C L:=WV a ⟨s,u,v,w,z,A,B,E,F,G⟩ r ⟨H,I⟩ h
theorem cP {w:World}{e f b i m d:Nat}{j:List Value}(h:w.ownsRow 0 e f (.slice (some ⟨i,0,none⟩) m d) b j) :
  m=b/\b<=d/\d<=maxLen/\∃a:Array Value,w.heap[i]?=some (.cells a e (0,0))/\a.size=d*f/\a.toList.take (b*f)=j:=by
 rcases h.2 with⟨h1,_⟩|⟨g,c,a,k,_,hh,h3,h4,h5,l⟩
 .cases h1
 cases k
 exact⟨U,h3,h4,a,hh,h5,l⟩
theorem Xa {t c f e q r m s:Nat}{x:Operand}{l:List Value}{p:TI}(z:Ent.arr (.slice (some ⟨c,0,none⟩) m s) e q r l∈L)(A:Z6 k 1 o.dst (some d) o.op (.load t x) (gOf ds fr o.guard) (some g) (ev fr g x) (some (.pointer (some ⟨c,f,none⟩))) (cx.T.get t) (some p))(B:GT ds fr g->cJ p ((l.drop f).take p.size)=some v)(E:Z2 (aZ n ds ((d,g,v)::fr) d) true (wfG ds fr g) true)(h:D cx R its ((d,g,v)::fr) C L):D cx R ((i,k,o)::its) fr C L :=
  have ⟨y,hd,F,G,H,ht⟩:=A;have ⟨hp,I⟩:=E;Xe (by subst y;rfl) hd G hp I (λJ a hs X K w M=>by
    have N:w.ownsRow 0 e q (.slice (some ⟨c,0,none⟩) m s) r l:=M.sep.e _ ((K y).2 _ z);obtain⟨_,_,_,Y,O,_,Q⟩:=cP N;have S:∀j u,((l.drop f).take p.size)[j]?=some u->w.cell? ((⟨c,f,none⟩:Addr).add j)=some u:=λj u b=>by
      rw[Addr.add_lit,cell_of_row w c (f+j) _ e (0,0) O];rw[TA]at b;split at b
      . rw[List.getElem?_drop,<- Q,TA]at b;split at b
        . simpa using b
        cases b
      cases b
    have V:(execOp a.eval o).run cx.P w=.ok (.value v) w:=by
      have W:execOp a.eval o=(do Pure.pure (.value (<- Instr.loadAt t (a.eval x))):Sem Next):=by unfold execOp;rw[F]
      rw[W,hs _ _ H];simp only[Instr.loadAt,Instr.sureAddr,Sem.run_bind,Sem.run_pure,Result.andThen_ok];rw[eZ cx.hT ht S (B J)];rfl
    unfold Oper.quietAt;rw[V];exact⟨U,U⟩) h
theorem gF (c b:List Value)(a n:Nat)(h:a+b.length<=n)(g:n<=c.length):(aC c b a).take n=aC (c.take n) b a:=by
 unfold aC;apply List.ext_getElem?;intro i;simp only[TA,List.getElem?_append,SP,S2,List.getElem?_drop];have d:min a c.length=a:=by omega
 have e:min a (min n c.length)=a:=by omega
 rw[d,e];by_cases h1:i<a
 .simp[h1,show i<a+b.length by omega,show i<n by omega]
 by_cases h2:i<a+b.length
 .simp[h1,h2,show i<n by omega]
 simp only[h1,h2,Ui];have f:a+b.length+(i-(a+b.length))=i:=by omega
 rw[f]
theorem WZ {t c d j e g p m n:Nat}{x y:Operand}{f b:List Value}{z:TI}(J:Z11 k 3 (gOn ds fr o.guard) true o.dst none o.op (.store t x y) (ev fr [] x) (some (.pointer (some ⟨c,d,none⟩))) (ev fr [] y) (some v) (L[j]?) (some (.arr (.slice (some ⟨c,0,none⟩) m n) e g p f)) (cx.T.get t) (some z) v.cells ⟨b⟩ (Nat.beq b.length z.size) true (b.all kS) true)(ab:d+b.length<=f.length)(h:D cx R its fr C (.arr (.slice (some ⟨c,0,none⟩) m n) e g p (aC f b d)::L.eraseIdx j)):D cx R ((i,k,o)::its) fr C L :=
  have ⟨q,K,hd,M,N,hy,hm,ht,O,Q,h1⟩:=J;XI (S:=λA B=>A=C/\B=.arr (.slice (some ⟨c,0,none⟩) m n) e g p (aC f b d)::L.eraseIdx j) (by subst q;rfl) K (λa hs w _ U=>by
    have E:=St.perm U (ax hm);have F:w.ownsRow 0 e g (.slice (some ⟨c,0,none⟩) m n) p f:=E.sep.e _ (SK ..);obtain⟨rfl,G,V,l,H,r,I⟩:=cP F;obtain⟨l⟩:=l;simp only[Uu]at r;simp only at I;have ac:f.length=m*g:=F.1;have W:m*g<=l.length:=by rw[r];exact To _ G
    have X:(execOp a.eval o).run cx.P w=.ok .skip (w.setRow c (aC l b d).toArray):=by
      have s:execOp a.eval o=(do Instr.storeAt t (a.eval x) (a.eval y);Pure.pure .skip:Sem Next):=by unfold execOp;rw[M]
      rw[s,hs _ _ N,hs _ _ hy];simp only[Instr.storeAt,Instr.sureAddr,Sem.run_bind,Sem.run_pure,Result.andThen_ok];rw[oF cx.hT ht H O (Tr Q) om_ (λu Y=>fW (S3.1 h1 u Y))];rfl
    have Z:(aC l b d).length=l.length:=by unfold aC;simp;omega
    have aa:(w.setRow c (aC l b d).toArray).ownsRow 0 e g (.slice (some ⟨c,0,none⟩) m n) m (aC f b d) :=
      ⟨by have:(aC f b d).length=f.length:=by unfold aC;simp;omega
          omega,.inr ⟨c,n,_,rfl,SM _,setRow_heap w c _ _ e _ H,G,V,by simp[Z,r],by
            rw[<- I];exact gF l b d (m*g) om_ W⟩⟩
    unfold Oper.wp;rw[X];refine⟨C,.arr (.slice (some ⟨c,0,none⟩) m n) e g m (aC f b d)::L.eraseIdx j, ?_,Mem.le.refl _,λh2=>by omega,
      St.turn E aa ⟨rfl,rfl,rfl,by simp,λk _ q=>setRow_other w c k _ (λe=>q (by simp[Value.ownBlock,e]))⟩ (SH _) (.inl rfl),rfl,rfl⟩
    rw[hd];rfl)
    (λA B _ ⟨s,e2⟩=>by subst s;subst e2;exact h)
theorem D.P9 {t b c j e f g m l:Nat}{x y:Operand}{d a:List Value}{n:TI}(p:c+a.length<=d.length)(h:D cx R its fr C (.arr (.slice (some ⟨b,0,none⟩) m l) e f g (aC d a c)::L.eraseIdx j))(q:k=3:=by rfl)(r:gOn ds fr o.guard=true:=by rfl)(s:o.dst=none:=by rfl)(u:o.op=.store t x y:=by rfl)(w:ev fr [] x=some (.pointer (some ⟨b,c,none⟩)):=by rfl)(z:ev fr [] y=some v:=by rfl)(A:L[j]?=some (.arr (.slice (some ⟨b,0,none⟩) m l) e f g d):=by rfl)(B:cx.T.get t=some n:=by rfl)(E:v.cells=⟨a⟩:=by rfl)(F:Nat.beq a.length n.size=true:=by rfl)(G:a.all kS=true:=by rfl):D cx R ((i,k,o)::its) fr C L:=WZ ⟨q,r,s,u,w,z,A,B,E,F,G⟩ p h
end
section
variable {F:Fx} {k:List KI} {fr:Fr} {C:Mem} {L:List Ent}
def Qe (v:Value)(n:Nat):Prop:=(v=.slice none 0 0/\n=0)∨∃g c,v=.slice (some ⟨g,0,none⟩) n c/\n<=c/\c<=maxLen
theorem G.form {e:Exit}{v:Value}{t d b:Nat}{f:List Value}(l:Ent.arr v t d b f∈L)(h:Qe v b->f.length=b*d->G F k e fr C L):G F k e fr C L:=λh0 a w m i=>by
 have j:w.ownsRow 0 t d v b f:=i.sep.e _ l;refine h ?_ j.1 h0 a w m i;rcases j.2 with h1|⟨g,c,o,n,_,_,h3,h4,_⟩
 .exact .inl h1
 exact .inr ⟨g,c,n,h3,h4⟩
theorem chunks {a:Nat}:∀{rows:List (List Value)},(∀r∈rows,r.length=a)->rows.flatten.length=rows.length*a:=λh=>aQ h
theorem St.freezeArr {m:World}{o:Mem}{p:List Ent}{w:World}{v:Value}{t i q:Nat}{f:List (List Value)}(h:St m o p C (.arr v t i q f.flatten::L) w)(z:∀r∈f,r.length=i)(A:f.length=q) :
  ∃s,C.le s/\Sl s i v f/\St m o p s L w:=by
 have B:w.ownsRow 0 t i v q f.flatten:=h.sep.e _ (SK ..);subst A;rcases B.2 with⟨rfl,D⟩|⟨g,c,E,rfl,_,hh,h3,h4,h5,F⟩
 .have:f=[]:=Ty D;subst this;exact⟨C,Mem.le.refl _,Sl.nil C i,h.drop⟩
 have G:St m o p C (.obj g (.cells E t (0,0))::L) w :=
  ⟨⟨h.sep.c,λx a=>by
   rcases SY.1 a with rfl|a
   .exact hh
   .exact h.sep.e x (by simp[a]),by
   have:=TW.1 h.sep.d;exact TW.2 ⟨λy hy k b=>this.1 y hy k (by simp only[Ent.own]at b⊢;simp[Value.ownBlock,b]),this.2⟩,λk ⟨x,a,b⟩=>by
   rcases SY.1 a with rfl|a
   .simp only[Ent.own]at b;exact h.sep.n k ⟨_,SK ..,by simp[Ent.own,Value.ownBlock,b]⟩
   .exact h.sep.n k ⟨x,by simp[a],b⟩⟩,h.ev,h.c0,h.cn,λk ⟨x,a,b⟩=>by
   rcases SY.1 a with rfl|a
   .simp only[Ent.own]at b;exact h.ln k ⟨_,SK ..,by simp[Ent.own,Value.ownBlock,b]⟩
   exact h.ln k ⟨x,by simp[a],b⟩⟩
 have h2:=G.freeze;refine⟨_,h2.1,Sl.ofBlock (Mem.set_self C g _) z (λj u l=>?_) h3 h4,h2.2⟩;rw[<- F,TA]at l;split at l
 .simpa using l
 cases l
theorem G.freezeArr {e:Exit}(j:Nat){v:Value}{t d f:Nat}(c:List (List Value)){g:List Value}(i:L[j]?=some (.arr v t d f g))(l:g=c.flatten)(m:∀r∈c,r.length=d)(n:c.length=f)
  (h:∀b,C.le b->Sl b d v c->G F k e fr b (L.eraseIdx j)):G F k e fr C L:=λh0 a w o p=>by
 subst l;obtain⟨b,h1,h2,h3⟩:=St.freezeArr (St.perm p (ax i)) m n;exact h b h1 h2 (h0.trans h1) a w o h3
theorem G.freeze {e:Exit}(j:Nat){b:Nat}{d:Obj}(f:L[j]?=some (.obj b d))(h:∀c,C.le c->c b=some d->G F k e fr c (L.eraseIdx j)):G F k e fr C L:=λh0 a w g i=>by
 have h1:=St.freeze (St.perm i (ax f));exact h _ h1.1 (Mem.set_self _ _ _) (h0.trans h1.1) a w g h1.2
theorem G.nilArr {e:Exit}(t b:Nat)(h:G F k e fr C (.arr (.slice none 0 0) t b 0 []::L)):G F k e fr C L:=λh0 a w c d=>h h0 a w c (St.nilArr d t b)
end
end Go.Jog
namespace Go.Jog
open Go
variable {P:Program}{b:Bool}{cs:List Value}{d:TypeDesc}{off:Nat}{t:TypeId}
def Fz (place:Nat->Option (Nat × Nat))(cs:List Value):List (Nat × Value)->Option (List Value)
|[]=>some cs
|(i,v)::r=>match place i with
 |some (off,size)=>bif Nat.beq (xG v).length size && Nat.ble (off+size) cs.length then Fz place (aC cs (xG v) off) r else none
 |none=>none
theorem er {a:List Value}(h:off+a.length<=cs.length):(aC cs a off).length=cs.length:=by unfold aC;simp;omega
theorem Ba {d:Nat->Option (Nat × Nat)}:∀{ps:List (Nat × Value)}{cs b:List Value},Fz d cs ps=some b->Instr.fill d ⟨cs⟩ ps=some ⟨b⟩
 |[],cs,b,h=>by simp[Fz]at h;subst h;simp[Instr.fill]
 |(i,v)::r,cs,b,h=>by
    simp only[Fz]at h;split at h
    . rename_i off size hp;cases a:Nat.beq (xG v).length size && Nat.ble (off+size) cs.length with
     |false=>rw[a]at h;cases h
     |true =>
        rw[a]at h;simp only[Ux]at h;rw[S1]at a;have h1:=Tr a.1;have h2:off+size<=cs.length:=by have:=a.2;rwa [UC]at this
        have e:v.cells.toList=xG v:=ld v;have hs:v.cells.size=size:=by rw[<- h1,<- e];simp
        simp only[Instr.fill,hp];have g:¬ (v.cells.size≠size || decide (off+v.cells.size > (⟨cs⟩:Array Value).size))=true:=by simp[hs];omega
        rw[aF (by simpa using g)];have f:=rG [] off v.cells.toList 0 ⟨cs⟩ (by simp[hs];omega);simp only[Um,VP]at f;have j:(v.cells.zipIdx.foldl (λ(cs:Array Value)(c,j_1)=>cs.setIfInBounds (off+j_1) c) (⟨cs⟩:Array Value))=(⟨aC cs (xG v) off⟩:Array Value):=by
          apply Uz;rw[<- Array.foldl_toList,Array.toList_zipIdx];rw[f];unfold aC;rw[<- e];simp
        rw[j];exact Ba h
    cases h
def qQ (T:Tab):List (Nat × Nat)->Option (List (Nat × Nat))
|[]=>some []
|(ty,off)::r=>match T.get ty,qQ T r with
 |some i,some ps=>some ((off,i.size)::ps)
 |_,_=>none
theorem oG {T:Tab}{P:Program}(a:oZ P T=true):∀{fs:List Field}{ps:List (Nat × Nat)},qQ T (fs.map λf=>(f.type,f.offset))=some ps->fs.mapM (λf=>(P.info? f.type).map λi=>(f.offset,i.size))=some ps
 |[],ps,h=>by simp[qQ]at h;subst h;rfl
 |f::fs,ps,h=>by
    simp only[Tq,qQ]at h;split at h
    . rename_i i d b c;cases h
      obtain⟨inf,h1,h2,_⟩:=(dC a b).info;have:=oG a c;simp[List.mapM_cons,h1,this,h2]
    cases h
def RU (T:Tab)(t:Nat)(parts:List (Nat × Value)):Option (List Value):=match T.get t with
|some ⟨.struct fs,_,_,z,_⟩=>match qQ T fs with
 |some ps=>Fz (ps[·]?) (z.map Zv.val) parts
 |none=>none
|some ⟨.arr _ e,_,_,z,_⟩=>match T.get e with
 |some i=>Fz (λj=>some (j*i.size,i.size)) (z.map Zv.val) parts
 |none=>none
|_=>none
theorem Ie {T:Tab}(a:oZ P T=true){t:Nat}{d:List (Nat × Value)}(h:RU T t d=some cs):P.built t d=some ⟨cs⟩:=by
  unfold RU at h;split at h
  . rename_i fs s b z g ht;obtain⟨o,c,f⟩:=nI a ht;obtain⟨inf,h1,h2,_,h4,h5⟩:=(dC a ht).info;split at h
    . rename_i ps j;subst f;have hp:=oG a j;unfold Program.built;simp only[h1,c,h4,hp];have:=Ba h;have e:(λx:Nat=>(ps.toArray[x]?:Option (Nat × Nat)))=(λx:Nat=>ps[x]?):=by funext x;simp
      simp only at h5;rw[e,h5];exact this
    cases h
  . rename_i m e s b z g ht;have c:=pW a ht;obtain⟨inf,h1,h2,_,h4,h5⟩:=(dC a ht).info;split at h
    . rename_i i k;obtain⟨p,l,n,_⟩:=(dC a k).info;unfold Program.built;simp only[h1,c,h4,l,n];have:=Ba h;simp only at h5;rw[h5];exact this
    cases h
  cases h
def tz (ρ:Operand->Option Value):List (Nat × Operand)->Option (List (Nat × Value))
|[]=>some []
|(j,x)::r=>match ρ x,tz ρ r with
 |some v,some vs=>some ((j,v)::vs)
 |_,_=>none
theorem qV {a:Operand->Option Value}{b:Operand->Value}(c:∀x v,a x=some v->b x=v):∀{ps:List (Nat × Operand)}{vs:List (Nat × Value)},tz a ps=some vs->ps.map (λ(i,x)=>(i,b x))=vs
 |[],vs,h=>by simp[tz]at h;subst h;rfl
 |(j,x)::r,vs,h=>by
    simp only[tz]at h;split at h
    . rename_i v d h1 h2;cases h
      simp only[Tq,c x v h1,qV c h2]
    cases h
def Oe:Value->Value->Option Bool
|.int k a,.int k' b=>bif k == k' then some (a == b) else none
|.string a,.string b=>some (a.data.toList == b.data.toList)
|.bool a,.bool b=>some (a == b)
|_,_=>none
def kK:List Value->List Value->Option Bool
|[],[]=>some true
|x::xs,y::ys=>match Oe x y,kK xs ys with
 |some a,some b=>some (a && b)
 |_,_=>none
|_,_=>none
def tx:TypeDesc->Bool
|.int _|.bool|.string=>true
|_=>false
def LP (P:Program):List Field->Nat->Bool
 |[],_=>true
 |f :: fs, i => Nat.beq f.offset i && (f.name != "_") && (match P.underlying f.type with|some d => tx d|none => false) && LP P fs (i + 1)
def tU (P:Program)(t:Nat):Bool:=match P.underlying t with
|some (.struct fs)=>LP P fs.toList 0 && !(P.stoodInHeld t) && !(P.eqGuardType P.depth t)
|_=>false
theorem fO (h:P.underlying t=some d)(a:tx d=true)(w:World):(isAgg t).run P w=.ok false w:=by
 unfold isAgg;simp only[Sem.run_bind,run_underlying h,Result.andThen_ok];cases d <;> first|rfl|cases a
theorem jt (h:P.underlying t=some d)(a:tx d=true){v:Value}(b:cs[off]?=some v)(w:World):(part t ⟨cs⟩ off).run P w=.ok v w:=by
 unfold part;simp only[Sem.run_bind,fO h a w,Result.andThen_ok];simp[b]
def tV:Option TypeDesc->Value->Bool
|some (.int _),.int _ _=>true
|some .string,.string _=>true
|some .bool,.bool _=>true
|_,_=>false
theorem CN {x y:Value}(d:Oe x y=some b)(m:Nat)(w:World)(f:tV (P.underlying t) x=true):(Op.equalIn (m+1) t x y).run P w=.ok b w:=by
  unfold tV at f;split at f
  . rename_i q k a e;unfold Oe at d;cases y <;> try (simp at d;done)
    rename_i h c;simp only at d;by_cases g:k=h
    . subst g;simp only[beq_self_eq_true,Ux,Tv]at d;subst d;exact run_equalIn_int w m t k q a c e
    rw[UB.2 g]at d;cases d
  . rename_i a e;unfold Oe at d;cases y <;> try (simp at d;done)
    rename_i c;simp only[Tv]at d;subst d;have:=run_equalIn_string (P:=P) w m t a c e;simpa [toList_eq] using this
  . rename_i a e;unfold Oe at d;cases y <;> try (simp at d;done)
    simp only[Tv]at d;subst d;exact run_equalIn_bool w m t _ _ e
  cases f
def LR (P:Program):List Field->List Value->Bool
|[],[]=>true
|f::fs,x::xs=>tV (P.underlying f.type) x && LR P fs xs
|_,_=>false
def RV (P:Program)(t:Nat)(xs:List Value):Bool:=match P.underlying t with
|some (.struct fs)=>LR P fs.toList xs
|_=>false
theorem gX {P:Program}(m:Nat)(w:World):∀{fs:List Field}{i:Nat}{xs ys X Y:List Value}{b:Bool},LP P fs i=true->LR P fs xs=true->kK xs ys=some b->X.drop i=xs->Y.drop i=ys ->
    (Op.eqFields (m+1) ⟨X⟩ ⟨Y⟩ fs).run P w=.ok b w
 |[],i,xs,ys,X,Y,b,_,c,a,_,_=>by
    cases xs with
   |nil =>
      cases ys with
     |nil=>simp[kK]at a;subst a;simp[Op.eqFields]
     |cons=>simp[kK]at a
   |cons=>simp[LR]at c
 |f::fs,i,xs,ys,X,Y,b,g,c,a,h,j=>by
    cases xs with
   |nil=>simp[LR]at c
   |cons x xs =>
      cases ys with
     |nil=>simp[kK]at a
     |cons y ys =>
        simp only[LP,S1]at g;obtain⟨⟨⟨h1,h2⟩,h3⟩,h4⟩:=g;obtain rfl:=Tr h1;simp only[LR,S1]at c;simp only[kK]at a;split at a
        . rename_i p q hp k;cases a
          have l:X[f.offset]?=some x:=by
            have:=congrArg (·[0]?) h;simpa using this
          have hy:Y[f.offset]?=some y:=by
            have:=congrArg (·[0]?) j;simpa using this
          have n:X.drop (f.offset+1)=xs:=by
            have:=congrArg (List.drop 1) h;simpa using this
          have o:Y.drop (f.offset+1)=ys:=by
            have:=congrArg (List.drop 1) j;simpa using this
          cases e:P.underlying f.type with
         |none=>rw[e]at h3;cases h3
         |some d =>
            rw[e]at h3;have r : f.name ≠ "_" := by simpa using h2
            have hr:=CN hp m w c.1;have s:=gX m w h4 c.2 k n o;simp only[Op.eqFields,r,ne_eq,not_false_eq_true,UK,Sem.run_bind,jt e h3 l w,jt e h3 hy w,hr,Result.andThen_ok];cases p
            . simp
            simpa using s
        cases a
theorem qI {t:Nat}(a:tU P t=true){xs ys:List Value}(c:RV P t xs=true)(f:kK xs ys=some b)(w:World):(Op.equalIn 10000 t (.agg ⟨xs⟩) (.agg ⟨ys⟩)).run P w=.ok b w:=by
  unfold tU at a;split at a
  . rename_i fs d;simp only[S1,Vg]at a;have e:P.fieldsOf t=fs:=by simp[Program.fieldsOf,d]
    rw[run_equalIn_struct w 9999 t _ _ (by rw[e];exact d) a.1.2,e];unfold RV at c;rw[d]at c;exact gX 9998 w a.1.1 c f U U
  cases a
section
variable {cx:Cx} {n:Nat} {ds:List (Option Nat)} {R:Rg n ds} {its:List It} {fr:Fr} {C:Mem} {L:List Ent} {i k d:Nat} {o:Oper} {g:GL} {v:Value}
theorem rK {a:Act}{o:Oper}{b:BinOp}{t d:Nat}{x y:Operand}(c:o.op=.binOp b t x y d) :
  execOp a.eval o=((eqGuard b t x y (a.eval x) (a.eval y) >>= λ_=>binOp b t (a.eval x) (a.eval y)) >>= λr=>Pure.pure (.value r)):=by
 obtain⟨e,f,g,pos,h,i⟩:=o;simp only at c;subst c;rfl
theorem yL {P:Program}{t:Nat}(a:tU P t=true):P.eqGuardType P.depth t=false:=by
 unfold tU at a;split at a
 .simp only[S1,Vg]at a;exact a.2
 cases a
theorem D.build {t:Nat}{b:Array (Nat × Operand)}{c:List (Nat × Value)}(e:List Value)(f:Nat.ble k 1=true)(j:o.dst=some d)(l:o.op=.build t b)(m:gOf ds fr o.guard=some g)
  (p:tz (ev fr g) b.toList=some c) (q:RU cx.T t c=some e)
  (r:aZ n ds ((d,g,.agg ⟨e⟩)::fr) d=true) (s:wfG ds fr g=true)
  (h:D cx R its ((d,g,.agg ⟨e⟩)::fr) C L):D cx R ((i,k,o)::its) fr C L :=
 D.run _ f j m (λ_ a hs w=>by
  have u:execOp a.eval o=(do Pure.pure (.value (<- Instr.build t (b.map λ(i,x)=>(i,a.eval x)))):Sem Next):=by unfold execOp;rw[l]
  have y:(b.map λ(i,x)=>(i,a.eval x)).toList=c:=by rw[Array.toList_map];exact qV (λx v z=>hs x v z) p
  rw[u];simp only[Sem.run_bind,run_build w t _ _ (by rw[y];exact Ie cx.hT q),Result.andThen_ok,Sem.run_pure]) r s h
theorem WL {t:Nat}{b:Array (Nat × Operand)}{c:List (Nat × Value)}(a:List Value)(e:Z8 (Nat.ble k 1) true o.dst (some d) o.op (.build t b) (gOf ds fr o.guard) (some g) (tz (ev fr g) b.toList) (some c) (RU cx.T t c) (some a) (aZ n ds ((d,g,.agg ⟨a⟩)::fr) d) true (wfG ds fr g) true)(h:D cx R its ((d,g,.agg ⟨a⟩)::fr) C L):D cx R ((i,k,o)::its) fr C L:=have ⟨f,hd,j,l,m,p,hp,q⟩:=e;D.build a f hd j l m p hp q h
theorem YO (b:Bool){t l:Nat}{x y:Operand}{c e:List Value}{f:Bool}(j:tU cx.P t=true)(m:Nat.ble k 1=true)(p:o.dst=some d)(q:o.op=.binOp .neq t x y l)(r:gOf ds fr o.guard=some g)
  (s:ev fr g x=some (.agg ⟨c⟩)) (u:ev fr g y=some (.agg ⟨e⟩)) (v:RV cx.P t c=true) (z:kK c e=some f) (A:GT ds fr g->(!f)=b)
  (B:aZ n ds ((d,g,.bool b)::fr) d=true) (E:wfG ds fr g=true)
  (h:D cx R its ((d,g,.bool b)::fr) C L):D cx R ((i,k,o)::its) fr C L :=
 D.run _ m p r (λF a hs w=>by
  rw[rK q,hs _ _ s,hs _ _ u,<- A F];simp only[Sem.run_bind,run_eqGuard_agg w .neq t x y _ _ (yL j),Result.andThen_ok,run_neq_struct,qI j v z w,Sem.run_pure]) B E h
theorem XH {t e j:Nat}{x:Operand}{A:Option Addr}{m c:Nat}{b:TI}(l:Z9 (Nat.ble k 1) true o.dst (some d) o.op (.binOp .eql t x (.const (.slice none 0 0)) j) (gOf ds fr o.guard) (some g) (ev fr g x) (some (.slice A m c)) (cx.T.get t) (some b) b.k (.slice e) (aZ n ds ((d,g,.bool A.isNone)::fr) d) true (wfG ds fr g) true)(h:D cx R its ((d,g,.bool A.isNone)::fr) C L):D cx R ((i,k,o)::its) fr C L:=by
 have ⟨p,hd,q,r,s,ht,f,hp,u⟩:=l;have v:cx.P.underlying t=some (.slice e):=by
  obtain⟨y,z,B,E,F⟩:=b;simp only at f;subst f;exact bW cx.hT ht
 refine D.run _ p hd r (λ_ a hs w=>?_) hp u h;rw[dU q (hs _ _ s) rfl (λ_ _=>.inl am) (.inl am) w];simp only[binOp];simp only[Act.eval,Sem.run_bind,run_equal_slice_nil w t e A m c v,Result.andThen_ok,Sem.run_pure]
theorem D.int {a:IntKind}(c:Int){e:Int}(b:Z4 (Nat.ble k 1) true o.dst (some d) (gOf ds fr o.guard) (some g) (po cx.T (ev fr g) o.op) (some (.int a (a.wrap e))))(f:a.wrap e=c)(j:Z2 (aZ n ds ((d,g,.int a c)::fr) d) true (wfG ds fr g) true)(h:D cx R its ((d,g,.int a c)::fr) C L):D cx R ((i,k,o)::its) fr C L:=by
 have ⟨l,hd,m,p⟩:=b;have ⟨hp,q⟩:=j;subst f;exact D.pure l hd m p hp q h
theorem HY (a b:List UInt8):(⟨a.toArray⟩:ByteArray)++⟨b.toArray⟩=⟨(a++b).toArray⟩:=by
 apply ByteArray.ext;simp[]
theorem Xn {t f:Nat}{x y:Operand}{a b:List UInt8}(j:Z6 (Nat.ble k 1) true o.dst (some d) o.op (.binOp .add t x y f) (gOf ds fr o.guard) (some g) (ev fr g x) (some (.string ⟨a.toArray⟩)) (ev fr g y) (some (.string ⟨b.toArray⟩)))(l:GT ds fr g->a.length+b.length<=9223372036854775807)(m:Z2 (aZ n ds ((d,g,.string ⟨(a++b).toArray⟩)::fr) d) true (wfG ds fr g) true)(h:D cx R its ((d,g,.string ⟨(a++b).toArray⟩)::fr) C L):D cx R ((i,k,o)::its) fr C L :=
 have ⟨p,hd,q,r,s,hy⟩:=j;have ⟨hp,u⟩:=m;D.run _ p hd r (λv c hs w=>by
  rw[dU q (hs _ _ s) (hs _ _ hy) (λ_ _=>.inl am) (.inl am) w];have h1:=l v;have h2:¬ (((⟨a.toArray⟩:ByteArray).size+(⟨b.toArray⟩:ByteArray).size:Nat):Int) > IntKind.i64.max:=by
   have e:IntKind.i64.max=9223372036854775807:=by decide
   rw[e];simp[ByteArray.size];omega
  simp only[binOp,Op.stringOp];rw[aF h2,HY];rfl) hp u h
theorem sC {P:Program}{ki:IntKind}{m:Int}{y:Nat}{code:BoundsCode}(a:0<=m)(b:m<=y)(w:World):(Instr.sliceBound (.int ki m) y code).run P w=.ok m.toNat w:=by
 simp[Instr.sliceBound,asIntOf,a,b]
structure SlB (len cap:Nat)(lo hi mx:Option Value)(l h m:Nat):Prop where
 plo:(lo=none/\l=0)∨∃k,lo=some (.int k l)
 phi:(hi=none/\h=len)∨∃k,hi=some (.int k h)
 pmx:(mx=none/\m=cap)∨(∃k,mx=some (.int k m))/\hi≠none
 lh:l<=h
 hm:h<=m
 mc:m<=cap
theorem fN {P:Program}{b:Bool}{f g:Nat}{i j n:Option Value}{l h m:Nat}(q:SlB f g i j n l h m)(w:World):(Instr.sliceBounds b f g i j n).run P w=.ok (l,h,m) w:=by
  obtain⟨d,o,p,e,c,q6⟩:=q;unfold Instr.sliceBounds;have a:∀(k:IntKind)(x y:Nat)(code:BoundsCode),x<=y->(Instr.sliceBound (.int k x) y code).run P w=.ok x w:=λk x y code s=>by
    have:=sC (P:=P) (ki:=k) (m:=(x:Int)) (y:=y) (code:=code) om_ om_ w;simpa using this
  rcases p with⟨rfl,rfl⟩|⟨⟨t,rfl⟩,r⟩
  . rcases o with⟨rfl,rfl⟩|⟨k2,rfl⟩
    . rcases d with⟨rfl,rfl⟩|⟨k1,rfl⟩
      . simp
      simp[a _ _ _ _ e]
    rcases d with⟨rfl,rfl⟩|⟨k1,rfl⟩
    . simp[a _ _ _ _ c]
    simp[a _ _ _ _ e,a _ _ _ _ c]
  rcases o with⟨rfl,rfl⟩|⟨k2,rfl⟩
  . exact absurd rfl r
  rcases d with⟨rfl,rfl⟩|⟨k1,rfl⟩
  . simp[a _ _ _ _ c,a _ _ _ _ q6]
  simp[a _ _ _ _ e,a _ _ _ _ c,a _ _ _ _ q6]
def HL (ρ:Operand->Option Value):Option Operand->Option (Option Value)
|none=>some none
|some x=>match ρ x with|some v=>some (some v)|none=>none
theorem fo {a:Operand->Option Value}{b:Operand->Value}(c:∀x v,a x=some v->b x=v):∀{x:Option Operand}{v:Option Value},HL a x=some v->x.map b=v
|none,v,h=>by simp[HL]at h;subst h;rfl
|some x,v,h=>by
  simp only[HL]at h;split at h
  .rename_i u d;cases h;simp[c x u d]
  cases h
theorem Xd (l:Nat)(h:Nat)(m:Nat){t e r s c:Nat}{x:Operand}{f j p:Option Operand}{u y z:Option Value}{A:Option Addr}{q B:TI}(F:Z12 (Nat.ble k 1) true o.dst (some d) o.op (.slice t x f j p) (gOf ds fr o.guard) (some g) (ev fr g x) (some (.slice A r s)) (HL (ev fr g) f) (some u) (HL (ev fr g) j) (some y) (HL (ev fr g) p) (some z) (cx.T.get t) (some q) q.k (.slice e) (cx.T.get e) (some B) B.size c)(G:GT ds fr g->SlB r s u y z l h m)(H:Z2 (aZ n ds ((d,g,.slice (if m=l then A else A.map (·.add (l*c))) (h-l) (m-l))::fr) d) true (wfG ds fr g) true)(I:D cx R its ((d,g,.slice (if m=l then A else A.map (·.add (l*c))) (h-l) (m-l))::fr) C L):D cx R ((i,k,o)::its) fr C L:=by
 have ⟨J,hd,K,M,b,N,O,Q,ht,E,S,U⟩:=F;have ⟨hp,V⟩:=H;have W:cx.P.underlying t=some (.slice e):=by
  obtain⟨Z,s1,b1,z1,g1⟩:=q;simp only at E;subst E;exact bW cx.hT ht
 refine D.run _ J hd M (λX a hs w=>?_) hp V I;have Y:execOp a.eval o=(do Pure.pure (.value (<- Instr.sliceAt t (a.eval x) (f.map a.eval) (j.map a.eval) (p.map a.eval))):Sem Next):=by unfold execOp;rw[K]
 rw[Y,hs _ _ b,fo (λx v b=>hs x v b) N,fo (λx v b=>hs x v b) O,fo (λx v b=>hs x v b) Q];have h2:=eD cx.hT S w;rw[U]at h2;simp[Instr.sliceAt,Instr.slice,run_underlying W,fN (G X),h2]
theorem Sl.sub {C:Mem}{k:Nat}{A:Option Addr}{n f:Nat}{d:List (List Value)}(o:Sl C k (.slice A n f) d){l h m:Nat}(u:l<=h)(w:h<=d.length)(y:h<=m)(z:m<=f) :
    Sl C k (.slice (if m=l then A else A.map (·.add (l*k))) (h-l) (m-l)) ((d.take h).drop l):=by
  obtain⟨B,c,h1,h2,h3,h4,h5⟩:=o;cases h1
  refine⟨if m=l then A else A.map (·.add (l*k)),m-l, ?_,by simp;omega,by omega,λx p=>h4 x (TP (Vb p)),λi x b=>?_⟩
  . congr 1;simp;omega
  rw[List.getElem?_drop,TA]at b;split at b
  . rename_i D;obtain⟨a,q,g,r⟩:=h5 _ _ b;subst q;by_cases s:m=l
    . omega
    rw[aF s];refine⟨a.add (l*k),U,uI a _ g,λj v t=>?_⟩;rw[wq a _ _ g];have:=r j v t;have e:l*k+(i*k+j)=(l+i)*k+j:=by rw[Ug];omega
    rw[e];exact this
  cases b
theorem Xx {t e c:Nat}{x y:Operand}{r:IntKind}{m:Int}{l:List Value}{p:TypeDesc}{f:TI}(s:Z11 (Nat.ble k 1) true o.dst (some d) o.op (.index t x y) (gOf ds fr o.guard) (some g) (ev fr g x) (some (.agg ⟨l⟩)) (ev fr g y) (some (.int r m)) (cx.T.get t) (some f) f.k (.arr c e) (cx.P.underlying e) (some p) (tx p) true ((cx.P.info? e).map (·.size)) (some 1))(u:GT ds fr g->0<=m/\m<c/\l[m.toNat]?=some v)(z:Z2 (aZ n ds ((d,g,v)::fr) d) true (wfG ds fr g) true)(h:D cx R its ((d,g,v)::fr) C L):D cx R ((i,k,o)::its) fr C L:=by
 have ⟨A,hd,B,E,F,hy,ht,q,G,H,b⟩:=s;have ⟨hp,I⟩:=z;have J:cx.P.underlying t=some (.array c e):=by
  obtain⟨O,Q,S,U,V⟩:=f;simp only at q;subst q;exact pW cx.hT ht
 refine D.run _ A hd E (λK a hs w=>?_) hp I h;obtain⟨h1,h2,h3⟩:=u K;have M:execOp a.eval o=(do Pure.pure (.value (<- Instr.index t (a.eval x) (a.eval y))):Sem Next):=by unfold execOp;rw[B]
 rw[M,hs _ _ F,hs _ _ hy];have N:(sizeOf e).run cx.P w=.ok 1 w:=by
  cases j:cx.P.info? e with
 |none=>rw[j]at b;cases b
 |some inf=>rw[j]at b;simp at b;simp[sizeOf,typeInfo,j,b]
 simp[Instr.index,asIntOf,run_underlying J,h1,h2,N,jt G H h3]
theorem W8 {t:Nat}{x y:Operand}{f:IntKind}{m:Int}{s:List UInt8}{b:UInt8}{c:TI}(j:Z8 (Nat.ble k 1) true o.dst (some d) o.op (.index t x y) (gOf ds fr o.guard) (some g) (ev fr g x) (some (.string ⟨s.toArray⟩)) (ev fr g y) (some (.int f m)) (cx.T.get t) (some c) c.k .str)(l:GT ds fr g->0<=m/\s[m.toNat]?=some b)(p:Z2 (aZ n ds ((d,g,.int .u8 b.toNat)::fr) d) true (wfG ds fr g) true)(h:D cx R its ((d,g,.int .u8 b.toNat)::fr) C L):D cx R ((i,k,o)::its) fr C L:=by
 have ⟨q,hd,r,u,v,hy,ht,e⟩:=j;have ⟨hp,z⟩:=p;have A:cx.P.underlying t=some .string:=by
  obtain⟨G,H,I,J,K⟩:=c;simp only at e;subst e;exact pU cx.hT ht
 refine D.run _ q hd u (λB a hs w=>?_) hp z h;obtain⟨h1,h2⟩:=l B;have E:execOp a.eval o=(do Pure.pure (.value (<- Instr.index t (a.eval x) (a.eval y))):Sem Next):=by unfold execOp;rw[r]
 rw[E,hs _ _ v,hs _ _ hy];have F:m.toNat<s.length:=(R0.1 h2).1;have h3:(⟨s.toArray⟩:ByteArray)[m.toNat]?=some b:=by
  rw[getElem?_pos _ _ (by simpa [ByteArray.size] using F)];have:=(R0.1 h2).2;exact congrArg some this
 simp[Instr.index,asIntOf,run_underlying A,h1,h3]
theorem Xk (l:Nat)(h:Nat){t:Nat}{x:Operand}{e f:Option Operand}{m p:Option Value}{s:List UInt8}{j:TI}(r:Z9 (Nat.ble k 1) true o.dst (some d) o.op (.slice t x e f none) (gOf ds fr o.guard) (some g) (ev fr g x) (some (.string ⟨s.toArray⟩)) (HL (ev fr g) e) (some m) (HL (ev fr g) f) (some p) (cx.T.get t) (some j) j.k .str)(u:GT ds fr g->SlB s.length s.length m p none l h s.length)(y:Z2 (aZ n ds ((d,g,.string ⟨((s.take h).drop l).toArray⟩)::fr) d) true (wfG ds fr g) true)(z:D cx R its ((d,g,.string ⟨((s.take h).drop l).toArray⟩)::fr) C L):D cx R ((i,k,o)::its) fr C L:=by
 have ⟨A,hd,B,E,c,F,G,ht,q⟩:=r;have ⟨hp,H⟩:=y;have I:cx.P.underlying t=some .string:=by
  obtain⟨Q,S,U,V,W⟩:=j;simp only at q;subst q;exact pU cx.hT ht
 refine D.run _ A hd E (λJ a hs w=>?_) hp H z;have K:execOp a.eval o=(do Pure.pure (.value (<- Instr.sliceAt t (a.eval x) (e.map a.eval) (f.map a.eval) none)):Sem Next):=by unfold execOp;rw[B];rfl
 rw[K,hs _ _ c,fo (λx v c=>hs x v c) F,fo (λx v c=>hs x v c) G];have M:=fN (P:=cx.P) (b:=false) (u J) w;have N:(⟨s.toArray⟩:ByteArray).size=s.length:=by simp[ByteArray.size]
 have O:(⟨s.toArray⟩:ByteArray).extract l h=⟨((s.take h).drop l).toArray⟩:=by
  apply ByteArray.ext;simp[ByteArray.data_extract,List.drop_take]
 simp[Instr.sliceAt,Instr.slice,run_underlying I,N,M,O]
end
end Go.Jog
namespace Go.Jog
open Go
abbrev i_ (z:Int):Value:=.int .i64 z
abbrev p_ (b:Nat):Value:=.pointer (some ⟨b,0,none⟩)
abbrev s_ (b n c:Nat):Value:=.slice (some ⟨b,0,none⟩) n c
theorem mx_:maxLen<=9223372036854775807:=by simp [maxLen]
theorem k_ {p:Prop}(h:p:=by exact λ_=>⟨by decide,by decide,rfl⟩):p:=h
theorem w_ {p:Prop}(h:p:=by exact λ_=>⟨by omega,by omega,rfl⟩):p:=h
theorem v_ {p:Prop}(h:p:=by exact λ_=>⟨by omega,by omega,(Nat.mul_one _).symm⟩):p:=h
theorem c_ {A:Type _}{a b:A}(h:a=b:=by kernel_rfl):some a=some b:=congrArg some h
theorem l_ {C:Mem}:C.le C:=Mem.le.refl C
theorem e_ {p:Prop}(h:p:=by intro r hr;obtain ⟨y,_,rfl⟩:=List.mem_map.1 hr;rfl):p:=h
theorem g_ {p:Prop}(h:p:=by rw [IntKind.wrap_u64];omega):p:=h
theorem f_ {p:Prop}(h:p:=by rw [IntKind.wrap_i64];omega):p:=h
theorem q_ {p:Prop}(h:p:=by simp only [List.length_singleton];omega):p:=h
theorem y_ {p:Prop}(h:p:=by simp only [maxLen];omega):p:=h
end Go.Jog
