/- Laws that the proofs of this seat share, part 1. -/
import Derived.Deep.Quiet
import Derived.Maps.AppendAt
import Derived.Below
import Derived.KernelRfl
import Derived.Laws.MakeOwn
import Derived.WalkKit
import Derived.Lib.Strings
import Derived.Lib.ConvBytes
import Derived.Laws.StructEq
import Derived.Laws.Tables
import Derived.Laws.BytesString
import Derived.Laws.Cover3
namespace Go.Jog
abbrev Z2 {T0 T1:Type _}(a0 b0:T0)(a1 b1:T1):Prop:=a0=b0/\a1=b1
theorem U2 {T0 T1:Type _}{a0:T0}{a1:T1}:Z2 a0 a0 a1 a1:=⟨rfl,rfl⟩
abbrev Z3 {T0 T1 T2:Type _}(a0 b0:T0)(a1 b1:T1)(a2 b2:T2):Prop:=a0=b0/\a1=b1/\a2=b2
theorem U3 {T0 T1 T2:Type _}{a0:T0}{a1:T1}{a2:T2}:Z3 a0 a0 a1 a1 a2 a2:=⟨rfl,rfl,rfl⟩
abbrev Z4 {T0 T1 T2 T3:Type _}(a0 b0:T0)(a1 b1:T1)(a2 b2:T2)(a3 b3:T3):Prop:=a0=b0/\a1=b1/\a2=b2/\a3=b3
theorem U4 {T0 T1 T2 T3:Type _}{a0:T0}{a1:T1}{a2:T2}{a3:T3}:Z4 a0 a0 a1 a1 a2 a2 a3 a3:=⟨rfl,rfl,rfl,rfl⟩
abbrev Z5 {T0 T1 T2 T3 T4:Type _}(a0 b0:T0)(a1 b1:T1)(a2 b2:T2)(a3 b3:T3)(a4 b4:T4):Prop:=a0=b0/\a1=b1/\a2=b2/\a3=b3/\a4=b4
theorem U5 {T0 T1 T2 T3 T4:Type _}{a0:T0}{a1:T1}{a2:T2}{a3:T3}{a4:T4}:Z5 a0 a0 a1 a1 a2 a2 a3 a3 a4 a4:=⟨rfl,rfl,rfl,rfl,rfl⟩
abbrev Z6 {T0 T1 T2 T3 T4 T5:Type _}(a0 b0:T0)(a1 b1:T1)(a2 b2:T2)(a3 b3:T3)(a4 b4:T4)(a5 b5:T5):Prop:=a0=b0/\a1=b1/\a2=b2/\a3=b3/\a4=b4/\a5=b5
theorem U6 {T0 T1 T2 T3 T4 T5:Type _}{a0:T0}{a1:T1}{a2:T2}{a3:T3}{a4:T4}{a5:T5}:Z6 a0 a0 a1 a1 a2 a2 a3 a3 a4 a4 a5 a5:=⟨rfl,rfl,rfl,rfl,rfl,rfl⟩
abbrev Z7 {T0 T1 T2 T3 T4 T5 T6:Type _}(a0 b0:T0)(a1 b1:T1)(a2 b2:T2)(a3 b3:T3)(a4 b4:T4)(a5 b5:T5)(a6 b6:T6):Prop:=a0=b0/\a1=b1/\a2=b2/\a3=b3/\a4=b4/\a5=b5/\a6=b6
theorem U7 {T0 T1 T2 T3 T4 T5 T6:Type _}{a0:T0}{a1:T1}{a2:T2}{a3:T3}{a4:T4}{a5:T5}{a6:T6}:Z7 a0 a0 a1 a1 a2 a2 a3 a3 a4 a4 a5 a5 a6 a6:=⟨rfl,rfl,rfl,rfl,rfl,rfl,rfl⟩
abbrev Z8 {T0 T1 T2 T3 T4 T5 T6 T7:Type _}(a0 b0:T0)(a1 b1:T1)(a2 b2:T2)(a3 b3:T3)(a4 b4:T4)(a5 b5:T5)(a6 b6:T6)(a7 b7:T7):Prop:=a0=b0/\a1=b1/\a2=b2/\a3=b3/\a4=b4/\a5=b5/\a6=b6/\a7=b7
theorem U8 {T0 T1 T2 T3 T4 T5 T6 T7:Type _}{a0:T0}{a1:T1}{a2:T2}{a3:T3}{a4:T4}{a5:T5}{a6:T6}{a7:T7}:Z8 a0 a0 a1 a1 a2 a2 a3 a3 a4 a4 a5 a5 a6 a6 a7 a7:=⟨rfl,rfl,rfl,rfl,rfl,rfl,rfl,rfl⟩
abbrev Z9 {T0 T1 T2 T3 T4 T5 T6 T7 T8:Type _}(a0 b0:T0)(a1 b1:T1)(a2 b2:T2)(a3 b3:T3)(a4 b4:T4)(a5 b5:T5)(a6 b6:T6)(a7 b7:T7)(a8 b8:T8):Prop:=a0=b0/\a1=b1/\a2=b2/\a3=b3/\a4=b4/\a5=b5/\a6=b6/\a7=b7/\a8=b8
theorem U9 {T0 T1 T2 T3 T4 T5 T6 T7 T8:Type _}{a0:T0}{a1:T1}{a2:T2}{a3:T3}{a4:T4}{a5:T5}{a6:T6}{a7:T7}{a8:T8}:Z9 a0 a0 a1 a1 a2 a2 a3 a3 a4 a4 a5 a5 a6 a6 a7 a7 a8 a8:=⟨rfl,rfl,rfl,rfl,rfl,rfl,rfl,rfl,rfl⟩
abbrev Z10 {T0 T1 T2 T3 T4 T5 T6 T7 T8 T9:Type _}(a0 b0:T0)(a1 b1:T1)(a2 b2:T2)(a3 b3:T3)(a4 b4:T4)(a5 b5:T5)(a6 b6:T6)(a7 b7:T7)(a8 b8:T8)(a9 b9:T9):Prop:=a0=b0/\a1=b1/\a2=b2/\a3=b3/\a4=b4/\a5=b5/\a6=b6/\a7=b7/\a8=b8/\a9=b9
theorem U10 {T0 T1 T2 T3 T4 T5 T6 T7 T8 T9:Type _}{a0:T0}{a1:T1}{a2:T2}{a3:T3}{a4:T4}{a5:T5}{a6:T6}{a7:T7}{a8:T8}{a9:T9}:Z10 a0 a0 a1 a1 a2 a2 a3 a3 a4 a4 a5 a5 a6 a6 a7 a7 a8 a8 a9 a9:=⟨rfl,rfl,rfl,rfl,rfl,rfl,rfl,rfl,rfl,rfl⟩
abbrev Z11 {T0 T1 T2 T3 T4 T5 T6 T7 T8 T9 T10:Type _}(a0 b0:T0)(a1 b1:T1)(a2 b2:T2)(a3 b3:T3)(a4 b4:T4)(a5 b5:T5)(a6 b6:T6)(a7 b7:T7)(a8 b8:T8)(a9 b9:T9)(a10 b10:T10):Prop:=a0=b0/\a1=b1/\a2=b2/\a3=b3/\a4=b4/\a5=b5/\a6=b6/\a7=b7/\a8=b8/\a9=b9/\a10=b10
theorem U11 {T0 T1 T2 T3 T4 T5 T6 T7 T8 T9 T10:Type _}{a0:T0}{a1:T1}{a2:T2}{a3:T3}{a4:T4}{a5:T5}{a6:T6}{a7:T7}{a8:T8}{a9:T9}{a10:T10}:Z11 a0 a0 a1 a1 a2 a2 a3 a3 a4 a4 a5 a5 a6 a6 a7 a7 a8 a8 a9 a9 a10 a10:=⟨rfl,rfl,rfl,rfl,rfl,rfl,rfl,rfl,rfl,rfl,rfl⟩
abbrev Z12 {T0 T1 T2 T3 T4 T5 T6 T7 T8 T9 T10 T11:Type _}(a0 b0:T0)(a1 b1:T1)(a2 b2:T2)(a3 b3:T3)(a4 b4:T4)(a5 b5:T5)(a6 b6:T6)(a7 b7:T7)(a8 b8:T8)(a9 b9:T9)(a10 b10:T10)(a11 b11:T11):Prop:=a0=b0/\a1=b1/\a2=b2/\a3=b3/\a4=b4/\a5=b5/\a6=b6/\a7=b7/\a8=b8/\a9=b9/\a10=b10/\a11=b11
theorem U12 {T0 T1 T2 T3 T4 T5 T6 T7 T8 T9 T10 T11:Type _}{a0:T0}{a1:T1}{a2:T2}{a3:T3}{a4:T4}{a5:T5}{a6:T6}{a7:T7}{a8:T8}{a9:T9}{a10:T10}{a11:T11}:Z12 a0 a0 a1 a1 a2 a2 a3 a3 a4 a4 a5 a5 a6 a6 a7 a7 a8 a8 a9 a9 a10 a10 a11 a11:=⟨rfl,rfl,rfl,rfl,rfl,rfl,rfl,rfl,rfl,rfl,rfl,rfl⟩
theorem dc_ {p:Prop}(h:p:=by decide):p:=h
abbrev aq:=@List.getElem?_eq_getElem
abbrev aF:=@List.getD_eq_getElem?_getD
abbrev aH:=@List.length_map
abbrev aJ:=@List.getElem?_eq_some_iff
abbrev aP:=@Nat.le_refl
abbrev a7:=@if_neg
abbrev ba:=@List.mem_of_getElem?
abbrev bi:=@of_decide_eq_true
abbrev br:=@List.mem_cons_self
abbrev bz:=@List.length_singleton
abbrev bL:=@Bool.and_eq_true
abbrev bW:=@if_pos
abbrev bX:=@List.getElem?_map
abbrev ch:=@Nat.zero_le
abbrev cH:=@decide_eq_true_eq
abbrev cI:=@List.mem_cons
abbrev cK:=@List.take_length
abbrev dj:=@of_decide_eq_false
abbrev eh:=@List.length_append
abbrev ep:=@List.all_eq_true
abbrev eB:=@List.length_take
abbrev fh:=@List.length_cons
abbrev fB:=@Nat.eq_of_beq_eq_true
abbrev gr:=@Nat.pow_le_pow_right
abbrev gG:=@List.take_of_length_le
abbrev il:=@List.Perm.refl
abbrev j5:=@List.mem_map
abbrev j9:=@decide_eq_true
abbrev xO:=@List.take_add_one
abbrev zl:=@Option.some.injEq
abbrev DS:=@Nat.lt_of_le_of_lt
abbrev FX:=@Nat.mul_add
abbrev J8:=@List.length_nil
abbrev J9:=@Int.natAbs_natCast
abbrev K2:=@List.drop_eq_getElem_cons
abbrev K3:=@decide_eq_false
abbrev K4:=@Nat.lt_of_lt_of_le
abbrev K5:=@List.mem_singleton
abbrev K6:=@List.length_pos_iff
abbrev K7:=@Nat.mul_assoc
abbrev K8:=@Nat.mul_comm
abbrev K9:=@Nat.mod_lt
abbrev La:=@Int.natCast_mul
abbrev Lb:=@Nat.pow_succ
abbrev Lc:=@decide_eq_false_iff_not
abbrev Ld:=@Nat.lt_or_ge
abbrev Le:=@Array.getD_eq_getD_getElem?
abbrev Lg:=@beq_iff_eq
abbrev Lh:=@List.mem_append
abbrev Li:=@List.map_cons
abbrev Lj:=@decide_eq_decide
abbrev Ll:=@List.mem_cons_of_mem
abbrev Lm:=@Nat.mul_le_mul_right
abbrev Ln:=@Nat.mul_le_mul_left
abbrev Ls:=@List.pairwise_cons
abbrev Lt:=@Nat.min_eq_left
abbrev Lu:=@Nat.div_le_self
abbrev Lv:=@List.perm_append_comm
abbrev Lw:=@Classical.byContradiction
abbrev Ly:=@List.getElem?_take
abbrev Lz:=@List.contains_iff_mem
abbrev LB:=@List.getElem?_toArray
abbrev LC:=@List.map_append
abbrev LD:=@List.getElem?_append_right
abbrev LE:=@Nat.le_trans
abbrev LF:=@List.getElem?_eq_none
abbrev LG:=@Bool.false_eq_true
abbrev LH:=@List.eq_of_mem_replicate
abbrev LI:=@List.drop_length
abbrev LJ:=@Option.some.inj
abbrev LK:=@List.flatten_append
abbrev LL:=@List.eq_nil_of_length_eq_zero
abbrev LM:=@List.cons_append
abbrev LN:=@List.append_assoc
abbrev LO:=@Nat.zero_add
abbrev LP:=@Option.toList_some
abbrev LQ:=@List.take_append_drop
abbrev LR:=@List.drop_zero
abbrev LS:=@List.getElem?_append_left
abbrev LT:=@List.mem_of_mem_take
abbrev LU:=@Bool.or_eq_false_iff
abbrev LV:=@Nat.eq_zero_or_pos
abbrev LW:=@List.length_replicate
abbrev LX:=@Nat.shiftRight_eq_div_pow
abbrev LY:=@List.append_nil
abbrev LZ:=@if_false
abbrev L4:=@List.not_mem_nil
abbrev L5:=@Int.toNat_natCast
abbrev L9:=@Nat.add_mul
abbrev Ma:=@List.getElem?_of_mem
abbrev Mb:=@if_true
abbrev Mc:=@Nat.add_zero
abbrev Md:=@List.mem_range
abbrev Me:=@Int.natCast_dvd_natCast
abbrev Mf:=@Nat.gcd_comm
abbrev Mg:=@Nat.ble_eq
abbrev Mh:=@List.drop_eq_nil_of_le
abbrev Mi:=@Rat.intCast_mul
abbrev Mj:=@Nat.gcd_dvd_left
abbrev Mk:=@Rat.mul_comm
abbrev Ml:=@Array.ext'
abbrev Mm:=@cond_true
abbrev Mn:=@Nat.div_lt_iff_lt_mul
abbrev Mo:=@Int.natAbs_mul
abbrev Mp:=@Bool.or_eq_true
abbrev Mq:=@Bool.eq_iff_iff
abbrev Mr:=@Nat.div_eq_of_lt
abbrev Ms:=@Nat.mul_lt_mul''
abbrev Mt:=@beq_eq_false_iff_ne
abbrev Mu:=@Bool.not_eq_true'
abbrev Mv:=@List.getElem_mem
abbrev Mw:=@Nat.mod_eq_of_lt
abbrev Mx:=@Nat.le_one_iff_eq_zero_or_eq_one
abbrev My:=@Array.getElem?_eq_some_iff
abbrev Mz:=@Nat.pow_pos
abbrev MA:=@Nat.mul_pos
abbrev MB:=@Option.map_eq_some_iff
abbrev MC:=@Int.natAbs_ediv_of_dvd
abbrev MD:=@Nat.gcd_dvd_right
abbrev ME:=@List.nodup_append
abbrev MF:=@List.getLast?_eq_getElem?
abbrev MG:=@Nat.pos_of_ne_zero
abbrev MH:=@List.isEmpty_iff
abbrev MI:=@Nat.gcd_pos_of_pos_right
abbrev MJ:=@Rat.sub_eq_add_neg
abbrev MK:=@Option.isSome_iff_exists
abbrev ML:=@Nat.lt_trans
abbrev MM:=@Rat.zero_add
abbrev MN:=@Int.natAbs_neg
abbrev MO:=@Nat.le_mul_of_pos_right
abbrev MP:=@List.flatten_cons
abbrev MQ:=@List.size_toArray
abbrev MR:=@Option.map_some
abbrev MS:=@List.nil_append
abbrev MT:=@Nat.div_add_mod
abbrev MU:=@List.cons.injEq
abbrev MV:=@List.range_succ
abbrev MW:=@List.getElem?_range
abbrev MX:=@Nat.pow_add
abbrev MY:=@Nat.add_assoc
abbrev MZ:=@List.map_toArray
abbrev M0:=@Rat.mkRat_eq_div
abbrev M1:=@Nat.add_sub_cancel
abbrev M2:=@List.mem_append_left
abbrev M3:=@List.map_nil
abbrev M4:=@Nat.add_comm
abbrev M5:=@Rat.num_eq_zero
abbrev M6:=@Int.mul_le_mul_of_nonneg_right
abbrev M7:=@Int.natAbs_tmod
abbrev M8:=@Nat.mul_left_comm
abbrev M9:=@List.all_eq_false
abbrev Na:=@Prod.mk.injEq
abbrev Nb:=@Nat.add_sub_cancel_left
abbrev Nc:=@List.length_eq_zero_iff
abbrev Nd:=@List.getElem?_cons_succ
abbrev Nf:=@List.mem_map_of_mem
abbrev Ng:=@List.length_reverse
abbrev Nh:=@List.any_eq_true
abbrev Ni:=@List.length_drop
abbrev Nj:=@Int.dvd_natAbs
abbrev Nk:=@or_false
abbrev Nl:=@Nat.mul_one
abbrev Nm:=@Rat.neg_num
abbrev Nn:=@List.getElem?_set_self
abbrev No:=@List.drop_of_length_le
abbrev Np:=@Rat.div_def
abbrev Nq:=@List.Perm.append_right
abbrev Nr:=@Int.natCast_nonneg
abbrev Ns:=@List.map_map
abbrev Nt:=@Nat.gcd_zero_right
abbrev Nu:=@Nat.sub_add_cancel
abbrev Nv:=@Classical.choose_spec
abbrev Nw:=@Nat.mod_add_div
abbrev Nx:=@List.length_set
abbrev Ny:=@Rat.intCast_add
abbrev Nz:=@Int.tdiv_eq_ediv_of_nonneg
abbrev NA:=@Nat.blt_eq
abbrev NB:=@List.mem_or_eq_of_mem_set
abbrev NC:=@Nat.add_mul_div_left
abbrev ND:=@List.getElem?_set_ne
abbrev NE:=@Nat.one_mul
abbrev NF:=@Nat.mul_le_mul
abbrev NG:=@Option.getD_some
abbrev NH:=@List.replicate_succ
abbrev NI:=@Array.getElem?_setIfInBounds_ne
abbrev NJ:=@List.getElem?_replicate
abbrev NK:=@Nat.le_of_dvd
abbrev NL:=@Bool.true_and
abbrev NM:=@Int.natCast_add
abbrev NN:=@Rat.intCast_sub
abbrev NO:=@Rat.mul_le_mul_of_nonneg_left
abbrev NP:=@List.mem_append_right
abbrev NQ:=@Nat.beq_refl
abbrev NR:=@List.take_take
abbrev NS:=@UInt8.toNat_lt
abbrev NT:=@List.length_filter_le
abbrev NU:=@Bool.and_eq_false_iff
abbrev NV:=@List.pairwise_append
abbrev NW:=@List.range_eq_range'
abbrev NX:=@List.mem_of_mem_drop
abbrev NY:=@Int.natCast_ediv
abbrev NZ:=@List.getElem?_mapIdx
abbrev N0:=@Rat.mul_assoc
abbrev N1:=@Nat.div_one
abbrev N2:=@Array.length_toList
abbrev N3:=@List.foldl_cons
abbrev N4:=@List.getElem?_eq_none_iff
abbrev N5:=@UInt8.toNat_inj
abbrev N6:=@List.mem_filter
abbrev N7:=@Nat.sub_zero
abbrev N8:=@and_true
abbrev N9:=@Nat.mul_zero
abbrev Oa:=@UInt8.toNat_ofNat'
abbrev Ob:=@List.map_replicate
abbrev Oc:=@Int.le_trans
abbrev Od:=@List.filter_append
abbrev Oe:=@List.getElem_range
abbrev Of:=@Rat.num_nonneg
abbrev Og:=@List.getLast?_singleton
abbrev Oh:=@Nat.gcd_pos_of_pos_left
abbrev Oi:=@Int.natAbs_add_le
abbrev Oj:=@List.length_range
abbrev Ok:=@Array.getElem?_eq_none
abbrev Ol:=@Nat.le_succ
abbrev Om:=@Nat.pow_mul
abbrev On:=@List.append_eq_nil_iff
abbrev Oo:=@Int.mul_add
abbrev Oq:=@Nat.gcd_rec
abbrev Ot:=@Nat.div_div_eq_div_mul
abbrev Ou:=@Prod.mk.inj
abbrev Ov:=@List.map_take
abbrev Ow:=@List.drop_append
abbrev Ox:=@List.range'_succ
abbrev Oy:=@ByteArray.data_append
abbrev Oz:=@Array.getElem?_modify
abbrev OA:=@Nat.div_lt_of_lt_mul
abbrev OB:=@List.getLast?_append
abbrev OC:=@Nat.pow_zero
abbrev OD:=@Int.emod_nonneg
abbrev OE:=@Array.size_replicate
abbrev OG:=@Array.replicate_succ
abbrev OH:=@Array.replicate_zero
abbrev OI:=@Nat.le_of_lt
abbrev OJ:=@Nat.sub_le
abbrev OK:=@Bool.and_eq_true_iff
abbrev OL:=@Nat.sub_self
abbrev OM:=@List.all_append
theorem Z {A:Sort _}{a:A}:a=a:=rfl
end Go.Jog
theorem Go.Jog.om_ {p:Prop}(h:p:=by omega):p:=h
theorem Go.Jog.kr_ {p:Prop}(h:p:=by kernel_rfl):p:=h
theorem Go.Jog.fl_ {p:Prop}(h:p:=by intro _;rfl):p:=h
namespace Go.Jog
open Go

section
variable {P:Program} {ops:Array Oper} {ι:Type} {cls:ι->World->Prop} {le:ι->ι->Prop}

def QN (N:Act->World->Prop):Exit->Act->World->Prop
  | .normal,a,w=>N a w
  | _,_,_=>False

theorem zJ {Q Q':Exit->Act->World->Prop}{i:Nat}{K:Act->World->Prop}{a:Act}{w:World}
    (hq:∀ e a w,(∀ (_:e=.normal),False)->¬ Q e a w) (h:wpOp P ops Q i K a w):wpOp P ops Q' i K a w:=by
  have hl:¬ LetsOut Q:=fun ⟨a,w,h⟩=>hq .outgrown a w (fun e=>by cases e) h;unfold wpOp at *;split
  · rename_i ho;simp only [ho] at h;exact h
  · rename_i o ho;simp only [ho] at h;split
    · rename_i hw;simp only [hw,Mb] at h;rcases h with h | ⟨_,h⟩
      · refine .inl ?_;unfold Oper.wp at *;generalize (execOp a.eval o).run P w=r at *;cases r with
        | ok n w' =>
          cases n <;> simp only [Oper.upon] at h ⊢ <;> try exact h
          case enter f args =>
            refine Calls.mono h fun e w'' he=>?_;cases e with
            | returned u=>exact he
            | panicked c=>exact absurd he (hq _ _ _ (fun e=>by cases e))
            | outgrown=>exact absurd he hl
        | halt x w' =>
          cases x <;> simp only [Oper.upon] at h ⊢
          case panic u=>exact absurd h (hq _ _ _ (fun e=>by cases e))
      · exact absurd h hl
    · rename_i hw;simp only [hw] at h;exact h

theorem zK {Q:Exit->Act->World->Prop}{N:Act->World->Prop}{md:Region.Mode}(hN:∀ a w,N a w->Q .normal a w) :
    ∀ (f:Nat)(listed:Array Bool)(a:Act)(w:World),wpAny P md ops (QN N) f listed a w->wpAny P md ops Q f listed a w
  | 0,_,_,_,h=>⟨h.1,hN _ _ h.2⟩
  | f+1,_,_,_,h=>⟨fun h0=>hN _ _ (h.1 h0),fun i hi =>
      wpOp_mono (fun a' w' h'=>zK hN f _ a' w' h') (zJ (Q:=QN N) (fun e a w he h=>by cases e <;> first | exact he rfl | exact h) (h.2 i hi))⟩

theorem zF {Q:Exit->Act->World->Prop}{N:Act->World->Prop}(hN:∀ a w,N a w->Q .normal a w) :
    ∀ (l:List Nat)(a:Act)(w:World),wpOps P ops (QN N) l a w->wpOps P ops Q l a w
  | [],_,_,h=>hN _ _ h
  | i::l,a,w,h=>by
    rw [wpOps_cons] at *;exact wpOp_mono (fun a' w' h'=>zF hN l a' w' h') (zJ (Q:=QN N) (fun e a w he h=>by cases e <;> first | exact he Z | exact h) h)

def dI (P:Program)(ops:Array Oper)(cls:ι->World->Prop)(le:ι->ι->Prop)(kd i:Nat)(K:Act->ι->Prop)(a:Act)(κ:ι):Prop :=
  match ops[i]? with
  | none=>False
  | some o =>
    if kd<=1 then ∃ v,(∀ κ',(kd=1->le κ κ')->YieldsIn P ops (cls κ') o v a)/\K (a.put o.dst v) κ
    else ∀ w,cls κ w->wpOp P ops (QN fun _ _=>False) i (fun a' w'=>∃ κ',(kd=2->le κ κ')/\cls κ' w'/\K a' κ') a w

theorem dY {kd i:Nat}{K K':Act->ι->Prop}{a:Act}{κ:ι}(hk:∀ a κ,K a κ->K' a κ)(h:dI P ops cls le kd i K a κ):dI P ops cls le kd i K' a κ:=by
  unfold dI at *;split
  · rename_i ho;simp only [ho] at h
  · rename_i o ho;simp only [ho] at h;split
    · rename_i hkd;simp only [hkd,Mb] at h;obtain ⟨v,h1,h2⟩:=h;exact ⟨v,h1,hk _ _ h2⟩
    · rename_i hkd;simp only [hkd,LZ] at h;exact fun w hw=>wpOp_mono (fun a' w' ⟨κ',h1,h2,h3⟩=>⟨κ',h1,h2,hk _ _ h3⟩) (h w hw)

theorem fV (hrefl:∀ κ,le κ κ){kd i:Nat}{K:Act->ι->Prop}{K':Act->World->Prop}{Q:Exit->Act->World->Prop}{a:Act}{κ:ι}{w:World}(hw:cls κ w)
    (hk:∀ a κ w,K a κ->cls κ w->K' a w) (h:dI P ops cls le kd i K a κ):wpOp P ops Q i K' a w:=by
  unfold dI at h;cases ho:ops[i]? with
  | none=>simp only [ho] at h
  | some o =>
    simp only [ho] at h;split at h
    · obtain ⟨v,h1,h2⟩:=h;exact wpOp_of_qOp (K:=fun a=>K a κ) hw (fun a w' hw' hK=>hk _ _ _ hK hw') (YieldsIn.qOp ho (h1 κ (fun _=>hrefl κ)) h2)
    · exact zJ (Q:=QN fun _ _=>False) (fun e a w he h=>by cases e <;> exact h) (wpOp_mono (fun a' w' ⟨κ',_,h2,h3⟩=>hk _ _ _ h3 h2) (h w hw))

variable {md:Region.Mode}

def gw (P:Program)(md:Region.Mode)(ops:Array Oper)(cls:ι->World->Prop)(le:ι->ι->Prop)(kd:Nat->Nat)(Post:Act->ι->Prop):Nat->Array Bool->Act->ι->Prop
  | 0,listed,a,κ=>Region.ready md ops listed=[]/\Post a κ
  | f+1,listed,a,κ=>(Region.ready md ops listed=[]->Post a κ) /\
      ∀ i∈Region.ready md ops listed,dI P ops cls le (kd i) i (gw P md ops cls le kd Post f (listed.setIfInBounds i true)) a κ

theorem fC (hrefl:∀ κ,le κ κ){kd:Nat->Nat}{Post:Act->ι->Prop}{N:Act->World->Prop}(hN:∀ a κ w,Post a κ->cls κ w->N a w) :
    ∀ (f:Nat)(listed:Array Bool)(a:Act)(κ:ι)(w:World),cls κ w->gw P md ops cls le kd Post f listed a κ->wpAny P md ops (QN N) f listed a w
  | 0,_,_,_,_,hw,h=>⟨h.1,hN _ _ _ h.2 hw⟩
  | f+1,_,_,_,_,hw,h=>⟨fun h0=>hN _ _ _ (h.1 h0) hw,fun i hi =>
      fV hrefl hw (fun a' κ' w' h' hw'=>fC hrefl hN f _ a' κ' w' hw' h') (h.2 i hi)⟩

def ej (md:Region.Mode)(ops:Array Oper):Nat->Nat->Nat->Bool
  | 0,_,_=>false
  | f+1,j,i=>match ops[j]? with
    | some oj=>oj.after.any fun e=>Region.binds md e && (e.on == i || ej md ops f e.on i)
    | none=>false

def Closed (md:Region.Mode)(ops:Array Oper)(listed:Array Bool):Prop :=
  ∀ j oj,ops[j]?=some oj->listed.getD j false=true->∀ e∈oj.after,Region.binds md e=true->listed.getD e.on false=true

theorem dF {listed:Array Bool}(hc:Closed md ops listed){i:Nat}:∀ (f j:Nat)(oj:Oper),ops[j]?=some oj ->
    (∀ e∈oj.after,Region.binds md e=true->listed.getD e.on false=true)->ej md ops f j i=true->listed.getD i false=true
  | 0,_,_,_,_,h=>by simp [ej] at h
  | f+1,j,oj,hj,hl,h=>by
    simp only [ej,hj] at h;obtain ⟨e,he,hb⟩:=Array.any_eq_true'.1 h;simp only [bL,Mp,Lg] at hb;have h1:=hl e he hb.1;rcases hb.2 with h2 | h2
    · rw [<- h2];exact h1
    · cases hoe:ops[e.on]? with
      | none =>
        cases f with
        | zero=>simp [ej] at h2
        | succ f=>simp [ej,hoe] at h2
      | some oe=>exact dF hc f e.on oe hoe (hc e.on oe hoe h1) h2

theorem HH {listed:Array Bool}{i:Nat}(h:listed.getD i true=false):listed.getD i false=false:=by
  rcases Ld i listed.size with h' | h'
  · simp [h'] at h ⊢;exact h
  · simp [Ok h'] at h

theorem Closed.set {listed:Array Bool}(hc:Closed md ops listed){i:Nat}(hi:i∈Region.ready md ops listed):Closed md ops (listed.setIfInBounds i true):=by
  obtain ⟨_,oi,hoi,hall⟩:=mem_ready.1 hi;intro j oj hj hl e he hb;by_cases hij:i=j
  · subst hij;obtain rfl:oj=oi:=LJ (hj.symm.trans hoi);exact getD_set_true (hall e he hb)
  · rw [getD_set_ne false hij] at hl;exact getD_set_true (hc j oj hj hl e he hb)

theorem AI {o:Oper}{C:World->Prop}{v:Value}{a a':Act}(h:YieldsIn P ops C o v a)(ht:a'.tmps=a.tmps):YieldsIn P ops C o v a':=by
  have he:a'.eval=a.eval:=by funext x;cases x <;> simp [Act.eval,ht]
  exact h.of_same (by rw [he]) (by rw [ht])

theorem zG {j:Nat}{oi oj:Oper}{v:Value}(hj:ops[j]?=some oj)(hap:oi.apart ops oj=true)
    (hsj:∀ cs b,oj.op≠.select cs b) {K:Act->World->Prop} {a:Act} {w:World}
    (h:wpOp P ops (QN fun _ _=>False) j K (a.put oi.dst v) w) :
    wpOp P ops (QN fun _ _=>False) j (fun a' w'=>(∃ u,a'.tmps=(a.put oj.dst u).tmps)/\K (a'.put oi.dst v) w') a w:=by
  obtain ⟨h1,h2,h3⟩:=Oper.apart_spec hap;unfold wpOp at *;simp only [hj] at *;rw [wanted_put oj a oi.dst v h1] at h;split
  · rename_i hw;simp only [hw,Mb] at h;rcases h with h | ⟨_,hl⟩
    · refine .inl ?_;unfold Oper.wp at *;rw [execOp_put oj hsj a oi.dst v h1] at h;generalize (execOp a.eval oj).run P w=r at *;cases r with
      | ok n w' =>
        cases n <;> simp only [Oper.upon] at h ⊢
        case value u=>exact ⟨⟨u,rfl⟩,by rw [<- Act.put_comm a v u h2];exact h⟩
        case skip=>exact ⟨⟨undef,rfl⟩,by rw [<- Act.put_comm a v undef h2];exact h⟩
        case defer d =>
          refine ⟨⟨undef,by cases oj.dst <;> rfl⟩, ?_⟩;rw [<- Act.put_comm _ v undef h2,<- Act.put_defers];exact h
        case enter f args =>
          refine Calls.mono h fun e w'' he=>?_;cases e with
          | returned u=>exact ⟨⟨u,rfl⟩,by rw [<- Act.put_comm a v u h2];exact he⟩
          | panicked c=>exact he
          | outgrown=>exact he
        case row row args=>exact Rows.mono h fun u w'' he=>⟨⟨u,rfl⟩,by rw [<- Act.put_comm a v u h2];exact he⟩
      | halt x w' =>
        cases x <;> simp only [Oper.upon] at h ⊢
        case panic u=>exact h
    · obtain ⟨_,_,h⟩:=hl;exact h.elim
  · rename_i hw;simp only [hw] at h;exact ⟨⟨undef,Z⟩,by rw [<- Act.put_comm a v undef h2];exact h⟩

theorem xW (htrans:∀ a b c,le a b->le b c->le a c){ki kj j:Nat}{oi oj:Oper}{v:Value}(hj:ops[j]?=some oj)(hap:oi.apart ops oj=true)(hk:ki=0∨kj<=2)
    (hsi:∀ cs b,oi.op≠.select cs b) (hsj:∀ cs b,oj.op≠.select cs b) {K:Act->ι->Prop} {a:Act} {κ:ι}
    (hy:∀ κ',(ki=1->le κ κ')->YieldsIn P ops (cls κ') oi v a) (h:dI P ops cls le kj j K (a.put oi.dst v) κ) :
    dI P ops cls le kj j (fun a' κ'=>(∀ κ'',(ki=1->le κ' κ'')->YieldsIn P ops (cls κ'') oi v a')/\K (a'.put oi.dst v) κ') a κ:=by
  obtain ⟨h1,h2,h3⟩:=Oper.apart_spec hap;have keep:∀ (a':Act) u,a'.tmps=(a.put oj.dst u).tmps->∀ κ',(ki=1->le κ κ')->YieldsIn P ops (cls κ') oi v a':=fun a' u ht κ' hκ =>
    AI ((hy κ' hκ).of_same (execOp_put oi hsi a oj.dst u h3) (wanted_put oi a oj.dst u h3)) ht
  unfold dI at *;simp only [hj] at h ⊢;split
  · rename_i hkd;simp only [hkd,Mb] at h;obtain ⟨u,hu,hK⟩:=h;refine ⟨u,fun κ' hκ=>?_,keep _ u Z,by rw [<- Act.put_comm a v u h2];exact hK⟩;have:=hu κ' hκ;exact this.of_same (execOp_put oj hsj a oi.dst v h1).symm (wanted_put oj a oi.dst v h1).symm
  · rename_i hkd;simp only [hkd,LZ] at h;intro w hw;refine wpOp_mono (fun a' w' ⟨⟨u,hu⟩,κ',hle,hc,hK⟩=>⟨κ',hle,hc,fun κ'' hκ=>?_,hK⟩) (zG hj hap hsj (h w hw));refine keep a' u hu κ'' (fun hki=>?_);have hj2:kj=2:=by omega
    exact htrans _ _ _ (hle hj2) (hκ hki)

theorem ld (htrans:∀ a b c,le a b->le b c->le a c){kd:Nat->Nat}{Post:Act->ι->Prop}{i F:Nat}{oi:Oper}{v:Value}(hi:ops[i]?=some oi)(hki:kd i<=1)
    (hsel:∀ (j:Nat)(o:Oper) cs b,ops[j]?=some o->o.op≠.select cs b) :
    ∀ (f:Nat)(listed:Array Bool)(a:Act)(κ:ι),Closed md ops listed ->
      (∀ j oj,ops[j]?=some oj->j≠i->listed.getD j true=false->ej md ops F j i=true∨(oi.apart ops oj=true/\(kd i=0∨kd j<=2))) ->
      i∈Region.ready md ops listed->(∀ κ',(kd i=1->le κ κ')->YieldsIn P ops (cls κ') oi v a) ->
      gw P md ops cls le kd Post f (listed.setIfInBounds i true) (a.put oi.dst v) κ->gw P md ops cls le kd Post (f+1) listed a κ:=by
  intro f;have self:∀ (K:Act->ι->Prop)(a:Act)(κ:ι),(∀ κ',(kd i=1->le κ κ')->YieldsIn P ops (cls κ') oi v a)->K (a.put oi.dst v) κ->dI P ops cls le (kd i) i K a κ:=fun K a κ hy hK=>by
    unfold dI;simp only [hi,hki,Mb];exact ⟨v,hy,hK⟩
  induction f with
  | zero =>
    intro listed a κ _ _ hr hy H;refine ⟨fun h=>(by rw [h] at hr;cases hr),fun j hj=>?_⟩;by_cases hji:j=i
    · subst hji;exact self _ _ _ hy H
    · have:=ready_mono hj hji;rw [H.1] at this;cases this
  | succ f ih =>
    intro listed a κ hcl hfree hr hy H;refine ⟨fun h=>(by rw [h] at hr;cases hr),fun j hj=>?_⟩;by_cases hji:j=i
    · subst hji;exact self _ _ _ hy H
    · have h1:=H.2 j (ready_mono hj hji);obtain ⟨hjun,oj,hoj,hall⟩:=mem_ready.1 hj;have hiun:=(mem_ready.1 hr).1;have hap:oi.apart ops oj=true/\(kd i=0∨kd j<=2):=by
        rcases hfree j oj hoj hji hjun with h | h
        · have:=dF hcl F j oj hoj hall h;rw [HH hiun] at this;cases this
        · exact h
      have h2:=xW htrans hoj hap.1 hap.2 (fun cs b=>hsel i oi cs b hi) (fun cs b=>hsel j oj cs b hoj) hy h1;refine dY (fun a' κ' h3=>ih (listed.setIfInBounds j true) a' κ' (hcl.set hj) (fun k ok hk hne hun=>?_) (ready_mono hr (Ne.symm hji)) h3.1 ?_) h2
      · refine hfree k ok hk hne ?_;by_cases hjk:j=k
        · subst hjk;exact hjun
        · rw [getD_set_ne true hjk] at hun;exact hun
      · rw [Array.setIfInBounds_comm _ _ hji];exact h3.2

def DU (P:Program)(ops:Array Oper)(cls:ι->World->Prop)(le:ι->ι->Prop)(kd:Nat->Nat)(Post:Act->ι->Prop):List Nat->Act->ι->Prop
  | [],a,κ=>Post a κ
  | i::π,a,κ=>dI P ops cls le (kd i) i (DU P ops cls le kd Post π) a κ

def E9 (md:Region.Mode)(ops:Array Oper)(kd:Nat->Nat)(listed:Array Bool)(i:Nat):Bool :=
  match ops[i]? with
  | none=>false
  | some oi=>(List.range ops.size).all fun j=>j == i || listed.getD j true || match ops[j]? with
      | some oj=>(oi.apart ops oj && (kd i == 0 || Nat.ble (kd j) 2)) || ej md ops ops.size j i
      | none=>true

def Iz (md:Region.Mode)(ops:Array Oper)(kd:Nat->Nat):List Nat->Array Bool->Bool
  | [],listed=>(Region.ready md ops listed).isEmpty
  | i::π,listed=>(bif Nat.ble (kd i) 1 then (Region.ready md ops listed).contains i && E9 md ops kd listed i else (Region.ready md ops listed == [i])) && Iz md ops kd π (listed.setIfInBounds i true)

theorem gL (htrans:∀ a b c,le a b->le b c->le a c){kd:Nat->Nat}{Post:Act->ι->Prop}(hsel:Region.noSelect ops=true) :
    ∀ (π:List Nat)(listed:Array Bool)(a:Act)(κ:ι),Closed md ops listed->Iz md ops kd π listed=true->DU P ops cls le kd Post π a κ->gw P md ops cls le kd Post π.length listed a κ
  | [],listed,a,κ,_,hB,h=>⟨by simpa [Iz] using hB,h⟩
  | i::π,listed,a,κ,hcl,hB,h=>by
    simp only [Iz,bL] at hB;obtain ⟨hB1,hB2⟩:=hB;by_cases hk:kd i<=1
    · have hb:Nat.ble (kd i) 1=true:=by rw [Mg];exact hk
      rw [hb] at hB1;simp only [Mm,bL,Lz] at hB1;obtain ⟨hr,hf⟩:=hB1;simp only [DU] at h;unfold dI at h;cases ho:ops[i]? with
      | none=>simp only [ho] at h
      | some o =>
        simp only [ho,hk,Mb] at h;obtain ⟨v,hy,hK⟩:=h;refine ld (F:=ops.size) htrans ho hk (fun j o cs b=>Region.noSelect_spec hsel j o cs b) π.length listed a κ hcl (fun j oj hj hne hun=>?_) hr hy
          (gL htrans hsel π _ _ κ (hcl.set hr) hB2 hK)
        simp only [E9,ho,ep,Md] at hf;have:=hf j (My.1 hj).1;simp only [hj,Mp,Lg,hne,false_or,hun,LG,bL,Mg] at this;rcases this with h1 | h1
        · exact .inr h1
        · exact .inl h1
    · have hb:Nat.ble (kd i) 1=false:=by
        cases hx:Nat.ble (kd i) 1 with
        | false=>rfl
        | true=>exact absurd (by rw [Mg] at hx;exact hx) hk
      rw [hb] at hB1;simp only [cond_false,Lg] at hB1;have hmem:i∈Region.ready md ops listed:=by rw [hB1];simp
      refine ⟨fun h0=>(by rw [h0] at hB1;cases hB1),fun j hj=>?_⟩;rw [hB1] at hj;obtain rfl:j=i:=by simpa using hj
      exact dY (fun a' κ' h'=>gL htrans hsel π _ a' κ' (hcl.set hmem) hB2 h') h

structure Cw (P:Program) where
  wp:Code->(Exit->Act->World->Prop)->Act->World->Prop
  nd:Array Oper->Prop
  mono:∀ {c:Code}{Q Q':Exit->Act->World->Prop}{a:Act}{w:World},(∀ e a w,Q e a w->Q' e a w)->wp c Q a w->wp c Q' a w
  skip:∀ {Q:Exit->Act->World->Prop}{a:Act}{w:World},Q .normal a w->wp .skip Q a w
  ret:∀ {Q:Exit->Act->World->Prop}{a:Act}{w:World},Q .ret a w->wp .ret Q a w
  exit:∀ {id:Nat}{Q:Exit->Act->World->Prop}{a:Act}{w:World},Q (.exit id) a w->wp (.exit id) Q a w
  seq:∀ {x y:Code}{Q:Exit->Act->World->Prop}{a:Act}{w:World},wp x (Exit.then (wp y Q) Q) a w->wp (.seq x y) Q a w
  block:∀ {id:Nat}{c:Code}{Q:Exit->Act->World->Prop}{a:Act}{w:World},wp c (Exit.inBlock id Q) a w->wp (.block id c) Q a w
  cond:∀ {c:Operand}{x y:Code}{t:Bool}{Q:Exit->Act->World->Prop}{a:Act}{w:World},a.eval c=.bool t->(t=true->wp x Q a w)->(t=false->wp y Q a w)->wp (.cond c x y) Q a w
  loop:∀ {c:Code}{Q:Exit->Act->World->Prop}{a:Act}{w:World}(I:Act->World->Prop)(μ:Act->World->Nat),I a w ->
    (∀ a w,I a w->wp c (Exit.then (fun a' w'=>I a' w'/\μ a' w'<μ a w) Q) a w)->wp (.loop c) Q a w
  region:∀ {id:Nat}{ops:Array Oper}{Q:Exit->Act->World->Prop}{a:Act}{w:World},nd ops->wpOps P ops (QN fun a w=>Q .normal a w) (List.range ops.size) a w->wp (.region id ops false) Q a w
  any:∀ {id:Nat}{ops:Array Oper}{Q:Exit->Act->World->Prop}{a:Act}{w:World},P.follows .mixedOrders=true->nd ops ->
    wpAny P .any ops (QN fun a w=>Q .normal a w) ops.size (Array.replicate ops.size false) a { w with drawn:=w.drawn+1 }->wp (.region id ops true) Q a w

def Cw.plain (P:Program):Cw P where
  wp:=fun c Q a w=>c.wp P Q a w
  nd:=fun _=>True
  mono:=fun h q=>wp_mono q h
  skip:=wp_skip
  ret:=wp_ret
  exit:=wp_exit
  seq:=wp_seq
  block:=wp_block
  cond:=wp_cond_split
  loop:=wp_loop
  region:=fun _ h=>wp_region (zF (N:=fun _a _w=>_) (fun _ _ h=>h) _ _ _ h)
  any:=fun hm _ h=>wp_region_any hm (zK (N:=fun _a _w=>_) (fun _ _ h=>h) _ _ _ _ h)

theorem pR (W:Cw P)(hnd:W.nd ops)(hrefl:∀ κ,le κ κ)(htrans:∀ a b c,le a b->le b c->le a c){kd:Nat->Nat}{Post:Act->ι->Prop}{id:Nat}{Q:Exit->Act->World->Prop}{a:Act}{w:World}{κ:ι}
    (hm:P.follows .mixedOrders=true) (hw:cls κ { w with drawn:=w.drawn+1 }) (π:List Nat)
    (hB:(Region.noSelect ops && (π.length == ops.size) && Iz .any ops kd π (Array.replicate ops.size false))=true) (h:DU P ops cls le kd Post π a κ)
    (hN:∀ a κ w,Post a κ->cls κ w->Q .normal a w):W.wp (Code.region id ops true) Q a w:=by
  simp only [bL,Lg] at hB;obtain ⟨⟨hs,hl⟩,hsim⟩:=hB;refine W.any hm hnd ?_;have h0:Closed .any ops (Array.replicate ops.size false):=fun j oj _ hl=>by
    rcases Ld j ops.size with h | h <;> simp [h] at hl
  have:=gL htrans hs π _ a κ h0 hsim h;rw [hl] at this;exact fC hrefl hN _ _ _ _ _ hw this

theorem mh (hrefl:∀ κ,le κ κ){kd:Nat->Nat}{Post:Act->ι->Prop}{N:Act->World->Prop}(hN:∀ a κ w,Post a κ->cls κ w->N a w) :
    ∀ (π:List Nat)(a:Act)(κ:ι)(w:World),cls κ w->DU P ops cls le kd Post π a κ->wpOps P ops (QN N) π a w
  | [],_,_,_,hw,h=>hN _ _ _ h hw
  | i::π,a,κ,w,hw,h=>by
    rw [wpOps_cons];exact fV hrefl hw (fun a' κ' w' h' hw'=>mh hrefl hN π a' κ' w' hw' h') h

theorem jt (W:Cw P)(hnd:W.nd ops)(hrefl:∀ κ,le κ κ){kd:Nat->Nat}{Post:Act->ι->Prop}{id:Nat}{Q:Exit->Act->World->Prop}{a:Act}{w:World}{κ:ι}
    (hw:cls κ w) (h:DU P ops cls le kd Post (List.range ops.size) a κ) (hN:∀ a κ w,Post a κ->cls κ w->Q .normal a w):W.wp (Code.region id ops false) Q a w :=
  W.region hnd (mh hrefl hN _ _ _ _ hw h)
end
end Go.Jog
namespace Go.Jog
open Go

abbrev Mem:=Nat->Option Obj
def Mem.le (C D:Mem):Prop:=∀ b o,C b=some o->D b=some o
theorem Mem.le.refl (C:Mem):C.le C:=fun _ _ h=>h
theorem Mem.le.trans {C D E:Mem}(h:C.le D)(k:D.le E):C.le E:=fun b o hb=>k b o (h b o hb)

theorem mup {C D:Mem}(h:C.le D:=by (repeat (first | exact Mem.le.refl _ | assumption | (apply Mem.le.trans;rotate_left;assumption)))):C.le D:=h
inductive Ent where
  | obj (b:Nat) (o:Obj)
  | arr (v:Value) (e:TypeId) (size n:Nat) (xs:List Value)

def Ent.own:Ent->Nat->Prop
  | .obj b _,k=>k=b
  | .arr v _ _ _ _,k=>v.ownBlock=some k

def Ent.holds (w:World):Ent->Prop
  | .obj b o=>w.heap[b]?=some o
  | .arr v e s n xs=>w.ownsRow 0 e s v n xs

def nZ (L:List Ent)(k:Nat):Prop:=∃ x∈L,x.own k

structure Sep (C:Mem)(L:List Ent)(w:World):Prop where
  c:∀ b o,C b=some o->w.heap[b]?=some o
  e:∀ x∈L,x.holds w
  d:L.Pairwise fun x y=>∀ k,x.own k->¬ y.own k
  n:∀ k,nZ L k->C k=none

structure Ev (F:Nat->Prop)(w w':World):Prop where
  os:w'.os=w.os
  tape:w'.tape=w.tape
  output:w'.output=w.output
  size:w.heap.size<=w'.heap.size
  block:∀ k,k<w.heap.size->¬ F k->w'.heap[k]?=w.heap[k]?
  drawn:w.drawn<=w'.drawn

theorem Ev.refl (F:Nat->Prop)(w:World):Ev F w w:=⟨rfl,rfl,rfl,aP _,fun _ _ _=>rfl,aP _⟩
theorem Ev.trans {F G:Nat->Prop}{a b c:World}(h:Ev F a b)(k:Ev G b c)(hg:∀ i,G i->F i∨a.heap.size<=i):Ev F a c :=
  ⟨k.os.trans h.os,k.tape.trans h.tape,k.output.trans h.output,LE h.size k.size,fun i hi hf =>
    (k.block i (K4 hi h.size) (fun hgi=>(hg i hgi).elim hf (fun h=>absurd h om_))).trans (h.block i hi hf),LE h.drawn k.drawn⟩
theorem Ev.below {a b:World}{F:Nat->Prop}(h:Ev F a b)(hF:∀ k,¬ F k):RowKit.Below a.heap.size a b:=⟨h.os,h.tape,h.output,h.size,fun k hk=>h.block k hk (hF k)⟩

structure St (w0:World)(C0:Mem)(L0:List Ent)(C:Mem)(L:List Ent)(w:World):Prop where
  sep:Sep C L w
  ev:Ev (nZ L0) w0 w
  c0:C0.le C
  cn:∀ k o,C k=some o->C0 k=some o∨w0.heap.size<=k∨nZ L0 k
  ln:∀ k,nZ L k->w0.heap.size<=k∨nZ L0 k

theorem nQ {α:Type}:∀ (q:Ask α)(w:World),w.drawn<=(w.ask q).2.drawn
  | .done a,w=>aP _
  | .ask what range k,w=>by
    unfold World.ask;simp only;split
    · exact nQ (k 0) w
    · exact LE (Ol _) (nQ (k _) { w with drawn:=w.drawn+1 })

theorem Aa (w:World)(c:Sys):w.drawn<=(w.sys c).2.drawn:=by
  unfold World.sys;have:=nQ (Kernel.perform c w.os) w;split
  · exact aP _
  · rename_i r os w1 h;rw [h] at this;exact this

theorem ml {p:Program}{w w':World}{at_:Addr}{u:TypeId}{k:Addr}{v:Value}{b:Bool}{as:List Addr}(h:w.viewStore p at_ u k v b=.ok (w',as)):w'.drawn=w.drawn:=by
  unfold World.viewStore at h;simp only [bind,Except.bind,pure,Except.pure] at h
  repeat' split at h
  all_goals first | (cases h;done) | skip
  all_goals (repeat' split at h)
  all_goals first | (cases h;rfl) | (cases h;done) | skip

theorem oq {p:Program}{w w':World}{a:Addr}{v:Value}{b:Bool}{as:List Addr}(h:w.farStore p a v b=.ok (w',as)):w'.drawn=w.drawn:=by
  unfold World.farStore at h;split at h
  · split at h
    · rename_i r hr;cases h;exact ml hr
    · cases h
  · cases h

theorem bw {p:Program}{α:Type}:∀ (s:Sem α){w w':World}{v:α},s.run p w=.ok v w'->w.drawn<=w'.drawn
  | .pure a,w,w',v,h=>by simp only [Sem.run] at h;cases h;exact aP _
  | .load m a k,w,w',v,h=>by
    simp only [Sem.run] at h;split at h
    · exact bw (k _) h
    · split at h
      · exact bw (k _) h
      · cases h
  | .store m a u k,w,w',v,h=>by
    cases u <;> simp only [Sem.run] at h <;> first
      | (cases h;done)
      | (split at h
         · split at h
           · cases h
           · have q:=bw k h;exact q
         · split at h
           · rename_i hf;exact LE (Nat.le_of_eq (oq hf).symm) (bw k h)
           · cases h)
  | .new o k,w,w',v,h=>by
    simp only [Sem.run] at h;have q:=bw (k _) h;exact q
  | .shape r k,w,w',v,h=>by simp only [Sem.run] at h;exact bw (k _) h
  | .freeze a n k,w,w',v,h=>by
    simp only [Sem.run] at h;refine LE ?_ (bw k h);unfold World.freeze;split <;> exact aP _
  | .frozen a k,w,w',v,h=>by simp only [Sem.run] at h;exact bw (k _) h
  | .getObj r k,w,w',v,h=>by
    simp only [Sem.run] at h;split at h
    · cases h
    · exact bw (k _) h
    · cases h
  | .setObj r o k,w,w',v,h=>by
    simp only [Sem.run] at h;split at h
    · cases h
    · have q:=bw k h;exact q
    · cases h
  | .choose q k,w,w',v,h=>by
    simp only [Sem.run] at h;split at h
    · exact bw (k _) h
    · have q:=bw (k _) h;exact LE (Ol _) q
  | .sys c k,w,w',v,h=>by simp only [Sem.run] at h;exact LE (Aa w c) (bw (k _) h)
  | .program k,w,w',v,h=>by simp only [Sem.run] at h;exact bw (k _) h
  | .mark m k,w,w',v,h=>by simp only [Sem.run] at h;exact bw k h
  | .halt x,w,w',v,h=>by simp only [Sem.run] at h;cases h

theorem cP {w:World}{k:Nat}{o:Obj}(h:w.heap[k]?=some o):k<w.heap.size:=(My.1 h).1

theorem Ent.lt {w:World}{x:Ent}{k:Nat}(h:x.holds w)(ho:x.own k):k<w.heap.size:=by
  cases x with
  | obj b o=>simp only [Ent.own] at ho;subst ho;exact cP h
  | arr v e s n xs=>exact (World.ownsRow.lt h k ho).2

theorem Ent.holds_of {w w':World}{x:Ent}(h:x.holds w)(hb:∀ k,x.own k->w'.heap[k]?=w.heap[k]?):x.holds w':=by
  cases x with
  | obj b o=>exact (hb b rfl).trans h
  | arr v e s n xs =>
    refine ⟨h.1, ?_⟩;rcases h.2 with h2 | ⟨g,cap,cur,hv,hg,hh,r⟩
    · exact .inl h2
    · exact .inr ⟨g,cap,cur,hv,hg,(hb g (by simp [Ent.own,hv,Value.ownBlock])).trans hh,r⟩

theorem St.start {C:Mem}{L:List Ent}{w:World}(h:Sep C L w):St w C L C L w :=
  ⟨h,Ev.refl _ _,Mem.le.refl _,fun _ _ hk=>.inl hk,fun _ hk=>.inr hk⟩

section
variable {w0:World} {C0:Mem} {L0:List Ent} {C:Mem} {L:List Ent} {w w':World}

theorem St.same (h:St w0 C0 L0 C L w)(ho:w'.os=w.os)(ht:w'.tape=w.tape)(hp:w'.output=w.output)(hh:w'.heap=w.heap)(hd:w.drawn<=w'.drawn):St w0 C0 L0 C L w' :=
  ⟨⟨fun b o hb=>by rw [hh];exact h.sep.c b o hb,fun x hx=>Ent.holds_of (h.sep.e x hx) (fun k _=>by rw [hh]),h.sep.d,h.sep.n⟩,
   ⟨ho.trans h.ev.os,ht.trans h.ev.tape,hp.trans h.ev.output,by rw [hh];exact h.ev.size,fun k hk hf=>by rw [hh];exact h.ev.block k hk hf,LE h.ev.drawn hd⟩,h.c0,h.cn,h.ln⟩

theorem St.drew (h:St w0 C0 L0 C L w):St w0 C0 L0 C L w.drew:=h.same rfl rfl rfl rfl (Ol _)

theorem St.perm {L':List Ent}(h:St w0 C0 L0 C L w)(hp:L.Perm L'):St w0 C0 L0 C L' w:=by
  have ho:∀ k,nZ L' k->nZ L k:=fun k ⟨x,hx,hk⟩=>⟨x,hp.mem_iff.2 hx,hk⟩;exact ⟨⟨h.sep.c,fun x hx=>h.sep.e x (hp.mem_iff.2 hx),(hp.pairwise_iff (fun {x y} hxy k hy hx=>hxy k hx hy)).1 h.sep.d,fun k hk=>h.sep.n k (ho k hk)⟩,h.ev,h.c0,h.cn,fun k hk=>h.ln k (ho k hk)⟩

theorem St.drop {x:Ent}(h:St w0 C0 L0 C (x::L) w):St w0 C0 L0 C L w :=
  ⟨⟨h.sep.c,fun y hy=>h.sep.e y (by simp [hy]),(Ls.1 h.sep.d).2,fun k ⟨y,hy,hk⟩=>h.sep.n k ⟨y,by simp [hy],hk⟩⟩,h.ev,h.c0,h.cn,fun k ⟨y,hy,hk⟩=>h.ln k ⟨y,by simp [hy],hk⟩⟩

theorem St.alloc (h:St w0 C0 L0 C L w)(o:Obj):St w0 C0 L0 C (.obj w.heap.size o::L) (w.alloc o):=by
  have old:∀ k,k<w.heap.size->(w.alloc o).heap[k]?=w.heap[k]?:=fun k hk=>RowKit.Below.heap_alloc w o k hk;refine ⟨⟨fun b o' hb=>?_,fun x hx=>?_,Ls.2 ⟨fun y hy k hk hyk=>?_,h.sep.d⟩,fun k ⟨x,hx,hk⟩=>?_⟩, ?_,h.c0,h.cn,fun k ⟨x,hx,hk⟩=>?_⟩
  · have:=h.sep.c b o' hb;exact (old b (cP this)).trans this
  · rcases cI.1 hx with rfl | hx
    · exact heap_alloc_new w o
    · exact Ent.holds_of (h.sep.e x hx) (fun k hk=>old k (Ent.lt (h.sep.e x hx) hk))
  · have:=Ent.lt (h.sep.e y hy) hyk;simp only [Ent.own] at hk;omega
  · rcases cI.1 hx with rfl | hx
    · simp only [Ent.own] at hk;subst hk;cases hc:C w.heap.size with
      | none=>rfl
      | some o'=>exact absurd (cP (h.sep.c _ _ hc)) om_
    · exact h.sep.n k ⟨x,hx,hk⟩
  · exact ⟨h.ev.os,h.ev.tape,h.ev.output,by have:=h.ev.size;simp;omega,fun k hk hf=>(old k (K4 hk h.ev.size)).trans (h.ev.block k hk hf),h.ev.drawn⟩
  · rcases cI.1 hx with rfl | hx
    · simp only [Ent.own] at hk;subst hk;exact .inl h.ev.size
    · exact h.ln k ⟨x,hx,hk⟩

def Mem.set (C:Mem)(b:Nat)(o:Obj):Mem:=fun k=>if k=b then some o else C k
theorem Mem.set_self (C:Mem)(b:Nat)(o:Obj):(C.set b o) b=some o:=by simp [Mem.set]
theorem Mem.le_set {C:Mem}{b:Nat}{o:Obj}(h:C b=none):C.le (C.set b o):=fun k o' hk=>by
  unfold Mem.set;split
  · rename_i e;subst e;rw [h] at hk;cases hk
  · exact hk

theorem St.freeze {b:Nat}{o:Obj}(h:St w0 C0 L0 C (.obj b o::L) w):C.le (C.set b o)/\St w0 C0 L0 (C.set b o) L w:=by
  have hb:C b=none:=h.sep.n b ⟨_,br ..,rfl⟩;have hd:=Ls.1 h.sep.d;have hl:=Mem.le_set (o:=o) hb;refine ⟨hl,⟨fun k o' hk=>?_,fun x hx=>h.sep.e x (by simp [hx]),hd.2,fun k hk=>?_⟩,h.ev,h.c0.trans hl,fun k o' hk=>?_,fun k ⟨x,hx,hk⟩=>h.ln k ⟨x,by simp [hx],hk⟩⟩
  · unfold Mem.set at hk;split at hk
    · rename_i e;subst e;cases hk;exact h.sep.e _ (br ..)
    · exact h.sep.c k o' hk
  · obtain ⟨x,hx,hk⟩:=hk;have h1:=h.sep.n k ⟨x,by simp [hx],hk⟩;unfold Mem.set;split
    · rename_i e;exact absurd hk (hd.1 x hx k e)
    · exact h1
  · unfold Mem.set at hk;split at hk
    · rename_i e;subst e;rcases h.ln k ⟨_,br ..,rfl⟩ with h1 | h1
      · exact .inr (.inl h1)
      · exact .inr (.inr h1)
    · exact h.cn k o' hk

theorem St.put {b:Nat}{o o':Obj}(h:St w0 C0 L0 C (.obj b o::L) w)(hw:w'.heap[b]?=some o')(hk:∀ k,k≠b->w'.heap[k]?=w.heap[k]?)(hs:w'.heap.size=w.heap.size)
    (h1:w'.os=w.os) (h2:w'.tape=w.tape) (h3:w'.output=w.output) (h4:w.drawn<=w'.drawn):St w0 C0 L0 C (.obj b o'::L) w':=by
  have hd:=Ls.1 h.sep.d;have hb:C b=none:=h.sep.n b ⟨_,br ..,rfl⟩;refine ⟨⟨fun k o'' hc=>?_,fun x hx=>?_,Ls.2 ⟨hd.1,hd.2⟩,fun k ⟨x,hx,hkx⟩=>?_⟩, ?_,h.c0,h.cn,fun k ⟨x,hx,hkx⟩=>?_⟩
  · rw [hk k (fun e=>by subst e;rw [hb] at hc;cases hc)];exact h.sep.c k o'' hc
  · rcases cI.1 hx with rfl | hx
    · exact hw
    · exact Ent.holds_of (h.sep.e x (by simp [hx])) (fun k hkx=>hk k (fun e=>hd.1 x hx k e hkx))
  · rcases cI.1 hx with rfl | hx
    · exact h.sep.n k ⟨_,br ..,hkx⟩
    · exact h.sep.n k ⟨x,by simp [hx],hkx⟩
  · refine ⟨h1.trans h.ev.os,h2.trans h.ev.tape,h3.trans h.ev.output,by rw [hs];exact h.ev.size,fun k hk0 hf=>?_,LE h.ev.drawn h4⟩;rw [hk k (fun e=>?_)]
    · exact h.ev.block k hk0 hf
    · subst e;rcases h.ln k ⟨_,br ..,rfl⟩ with h' | h'
      · omega
      · exact hf h'
  · rcases cI.1 hx with rfl | hx
    · exact h.ln k ⟨_,br ..,hkx⟩
    · exact h.ln k ⟨x,by simp [hx],hkx⟩

theorem St.turn {v v':Value}{e e':TypeId}{s n s' n':Nat}{xs xs':List Value}(h:St w0 C0 L0 C (.arr v e s n xs::L) w)(hown:w'.ownsRow 0 e' s' v' n' xs')(hg:w.grownBy w' v.ownBlock)(hdr:w.drawn<=w'.drawn)
    (hv:v'.ownBlock=v.ownBlock∨v'.ownBlock=some w.heap.size∨v'.ownBlock=none):St w0 C0 L0 C (.arr v' e' s' n' xs'::L) w':=by
  have hd:=Ls.1 h.sep.d;have hcold:∀ k,nZ L k->¬ v.ownBlock=some k:=fun k ⟨x,hx,hk⟩ hv=>hd.1 x hx k hv hk;have hnew:∀ k,v'.ownBlock=some k->v.ownBlock=some k∨k=w.heap.size:=fun k hk=>by
    rcases hv with h1 | h1 | h1
    · exact .inl (h1 ▸ hk)
    · rw [h1] at hk;cases hk;exact .inr rfl
    · rw [h1] at hk;cases hk
  refine ⟨⟨fun k o'' hc=>?_,fun x hx=>?_,Ls.2 ⟨fun x hx k hk hkx=>?_,hd.2⟩,fun k ⟨x,hx,hkx⟩=>?_⟩, ?_,h.c0,h.cn,fun k ⟨x,hx,hkx⟩=>?_⟩
  · have:=h.sep.c k o'' hc;rw [hg.block k (cP this) (fun e=>?_)]
    · exact this
    · have:=h.sep.n k ⟨_,br ..,e.symm⟩;rw [this] at hc;cases hc
  · rcases cI.1 hx with rfl | hx
    · exact hown
    · have hxh:=h.sep.e x (by simp [hx]);exact Ent.holds_of hxh (fun k hk=>hg.block k (Ent.lt hxh hk) (fun e=>hcold k ⟨x,hx,hk⟩ e.symm))
  · rcases hnew k hk with h1 | h1
    · exact hd.1 x hx k h1 hkx
    · have:=Ent.lt (h.sep.e x (by simp [hx])) hkx;omega
  · rcases cI.1 hx with rfl | hx
    · rcases hnew k hkx with h1 | h1
      · exact h.sep.n k ⟨_,br ..,h1⟩
      · cases hc:C k with
        | none=>rfl
        | some o'=>exact absurd (cP (h.sep.c _ _ hc)) om_
    · exact h.sep.n k ⟨x,by simp [hx],hkx⟩
  · refine ⟨hg.os.trans h.ev.os,hg.tape.trans h.ev.tape,hg.output.trans h.ev.output,LE h.ev.size hg.size,fun k hk hf=>?_,LE h.ev.drawn hdr⟩;rw [hg.block k (K4 hk h.ev.size) (fun e=>?_)]
    · exact h.ev.block k hk hf
    · rcases h.ln k ⟨_,br ..,e.symm⟩ with h' | h'
      · omega
      · exact hf h'
  · rcases cI.1 hx with rfl | hx
    · rcases hnew k hkx with h1 | h1
      · exact h.ln k ⟨_,br ..,h1⟩
      · subst h1;exact .inl h.ev.size
    · exact h.ln k ⟨x,by simp [hx],hkx⟩

theorem St.nilArr (h:St w0 C0 L0 C L w)(e:TypeId)(s:Nat):St w0 C0 L0 C (.arr (.slice none 0 0) e s 0 []::L) w:=by
  have hno:∀ k,¬ (Ent.arr (.slice none 0 0) e s 0 []).own k:=fun k hk=>by cases hk
  refine ⟨⟨h.sep.c,fun x hx=>?_,Ls.2 ⟨fun x _ k hk=>absurd hk (hno k),h.sep.d⟩,fun k ⟨x,hx,hk⟩=>?_⟩,h.ev,h.c0,h.cn,fun k ⟨x,hx,hk⟩=>?_⟩
  · rcases cI.1 hx with rfl | hx
    · exact World.ownsRow_nil w 0 e s
    · exact h.sep.e x hx
  · rcases cI.1 hx with rfl | hx
    · exact absurd hk (hno k)
    · exact h.sep.n k ⟨x,hx,hk⟩
  · rcases cI.1 hx with rfl | hx
    · exact absurd hk (hno k)
    · exact h.ln k ⟨x,hx,hk⟩

theorem St.call {Lp Lr:List Ent}{C':Mem}{L':List Ent}(h:St w0 C0 L0 C (Lp++Lr) w)(k:St w C Lp C' L' w'):St w0 C0 L0 C' (L'++Lr) w':=by
  have hd:=NV.1 h.sep.d;have hLr:∀ i,nZ Lr i->¬ nZ Lp i:=fun i ⟨x,hx,hi⟩ ⟨y,hy,hi'⟩=>hd.2.2 y hy x hx i hi' hi;have hLrlt:∀ i,nZ Lr i->i<w.heap.size:=fun i ⟨x,hx,hi⟩=>Ent.lt (h.sep.e x (by simp [hx])) hi;have hkr:∀ i,nZ Lr i->¬ nZ L' i:=fun i hi hi'=>by
    rcases k.ln i hi' with h1 | h1
    · have:=hLrlt i hi;omega
    · exact hLr i hi h1
  have oapp:∀ {A B:List Ent}{i:Nat},nZ (A++B) i->nZ A i∨nZ B i:=fun {A B i} ⟨x,hx,hi⟩=>by
    rcases Lh.1 hx with h1 | h1
    · exact .inl ⟨x,h1,hi⟩
    · exact .inr ⟨x,h1,hi⟩
  have oin1:∀ {i:Nat},nZ Lp i->nZ (Lp++Lr) i:=fun ⟨x,hx,hi⟩=>⟨x,M2 _ hx,hi⟩;have oin2:∀ {i:Nat},nZ Lr i->nZ (Lp++Lr) i:=fun ⟨x,hx,hi⟩=>⟨x,NP _ hx,hi⟩;refine ⟨⟨k.sep.c,fun x hx=>?_,NV.2 ⟨k.sep.d,hd.2.1,fun x hx y hy i hi hi'=>hkr i ⟨y,hy,hi'⟩ ⟨x,hx,hi⟩⟩,fun i hi=>?_⟩, ?_,h.c0.trans k.c0,fun i o hi=>?_,fun i hi=>?_⟩
  · rcases Lh.1 hx with h1 | h1
    · exact k.sep.e x h1
    · have hx':=h.sep.e x (by simp [h1]);exact Ent.holds_of hx' (fun i hi=>k.ev.block i (Ent.lt hx' hi) (hLr i ⟨x,h1,hi⟩))
  · rcases oapp hi with h1 | h1
    · exact k.sep.n i h1
    · cases hc:C' i with
      | none=>rfl
      | some o =>
        rcases k.cn i o hc with h2 | h2 | h2
        · rw [h.sep.n i (oin2 h1)] at h2;cases h2
        · have:=hLrlt i h1;omega
        · exact absurd h2 (hLr i h1)
  · refine h.ev.trans k.ev (fun i hi=>?_);rcases h.ln i (oin1 hi) with h1 | h1
    · exact .inr h1
    · exact .inl h1
  · rcases k.cn i o hi with h1 | h1 | h1
    · exact h.cn i o h1
    · exact .inr (.inl (LE h.ev.size h1))
    · rcases h.ln i (oin1 h1) with h2 | h2
      · exact .inr (.inl h2)
      · exact .inr (.inr h2)
  · rcases oapp hi with h1 | h1
    · rcases k.ln i h1 with h2 | h2
      · exact .inl (LE h.ev.size h2)
      · exact h.ln i (oin1 h2)
    · exact h.ln i (oin2 h1)
end

def Enters (P:Program)(f:FuncId):Bool:=match P.funcs[f]? with
  | some fn => !(fn.name == "runtime.NumGoroutine") && fn.body.isSome
  | none=>false

def Fn (P:Program)(f:FuncId)(args:List Value)(C:Mem)(L:List Ent)(post:Value->Mem->List Ent->Prop):Prop :=
  Enters P f=true/\∀ w,Sep C L w->Calls P f args.toArray w fun e w'=>∃ v C' L',e=.returned v/\St w C L C' L' w'/\post v C' L'

theorem Fn.mono {P:Program}{f:FuncId}{args:List Value}{C:Mem}{L:List Ent}{post post':Value->Mem->List Ent->Prop}(h:Fn P f args C L post)
    (hp:∀ v C' L',C.le C'->post v C' L'->post' v C' L'):Fn P f args C L post' :=
  ⟨h.1,fun w hw=>(h.2 w hw).mono fun _ _ ⟨v,C',L',e,hs,hq⟩=>⟨v,C',L',e,hs,hp v C' L' hs.c0 hq⟩⟩

def Gives (P:Program)(f:FuncId)(args:List Value)(C:Mem)(v:Value):Prop:=Fn P f args C [] fun u _ L'=>u=v/\L'=[]

theorem Fn.callAt {P:Program}{f:FuncId}{args:List Value}{C:Mem}{Lp Lr:List Ent}{post:Value->Mem->List Ent->Prop}(h:Fn P f args C Lp post)
    {w0:World} {C0:Mem} {L0:List Ent} {w:World} (hs:St w0 C0 L0 C (Lp++Lr) w) :
    Calls P f args.toArray w fun e w'=>∃ v C' L',e=.returned v/\C.le C'/\St w0 C0 L0 C' (L'++Lr) w'/\post v C' L':=by
  have hsep:Sep C Lp w:=⟨hs.sep.c,fun x hx=>hs.sep.e x (by simp [hx]),(NV.1 hs.sep.d).1,fun k ⟨x,hx,hk⟩=>hs.sep.n k ⟨x,by simp [hx],hk⟩⟩;exact (h.2 w hsep).mono fun _ _ ⟨v,C',L',e,hst,hq⟩=>⟨v,C',L',e,hst.c0,hs.call hst,hq⟩

theorem St.less {w0:World}{C0:Mem}{L0:List Ent}{C D:Mem}{L:List Ent}{w:World}(h:St w0 C0 L0 D L w)(h0:C0.le C)(hl:C.le D):St w0 C0 L0 C L w :=
  ⟨⟨fun b o hb=>h.sep.c b o (hl b o hb),h.sep.e,h.sep.d,fun k hk=>by
    cases hc:C k with
    | none=>rfl
    | some o=>have:=h.sep.n k hk;rw [hl k o hc] at this;cases this⟩,h.ev,h0,fun k o hk=>h.cn k o (hl k o hk),h.ln⟩

def cls (w0:World)(C0:Mem)(L0:List Ent)(κ:Mem × List Ent)(w:World):Prop:=St w0 C0 L0 κ.1 κ.2 w
def kle (κ κ':Mem × List Ent):Prop:=κ.1.le κ'.1/\∀ x∈κ.2,x∈κ'.2
theorem kle.refl (κ:Mem × List Ent):kle κ κ:=⟨Mem.le.refl _,fun _ h=>h⟩
theorem kle.trans (a b c:Mem × List Ent)(h:kle a b)(k:kle b c):kle a c:=⟨h.1.trans k.1,fun x hx=>k.2 x (h.2 x hx)⟩

theorem Gives.quiet {P:Program}{f:FuncId}{args:List Value}{C:Mem}{v:Value}(h:Gives P f args C v){w0:World}{C0:Mem}{L0:List Ent}{κ:Mem × List Ent}{w:World}
    (hC:C.le κ.1) (hC0:C0.le C) (hw:cls w0 C0 L0 κ w):Calls P f args.toArray w fun e w'=>e=.returned v/\cls w0 C0 L0 κ w':=by
  have hsep:Sep C [] w:=(hw.less hC0 hC).sep |> fun s=>⟨s.c,fun x hx=>(by cases hx),List.Pairwise.nil,fun k ⟨x,hx,_⟩=>(by cases hx)⟩;refine (h.2 w hsep).mono fun e w' ⟨u,C',L',he,hst,hu,hl⟩=>?_;subst hu;subst hl;have h2:Sep κ.1 [] w:=⟨hw.sep.c,fun x hx=>(by cases hx),List.Pairwise.nil,fun k ⟨x,hx,_⟩=>(by cases hx)⟩;have hno:∀ k,¬ nZ [] k:=fun k ⟨x,hx,_⟩=>by cases hx
  have hst':St w κ.1 [] κ.1 [] w':=⟨⟨fun b o hb=>by
      have:=hw.sep.c b o hb;rw [hst.ev.block b (cP this) (hno b)];exact this,fun x hx=>(by cases hx),List.Pairwise.nil,fun k hk=>absurd hk (hno k)⟩,hst.ev,Mem.le.refl _,fun _ _ hk=>.inl hk,fun k hk=>absurd hk (hno k)⟩
  exact ⟨he,St.call (Lp:=[]) hw hst'⟩
end Go.Jog
namespace Go.Jog
open Go

/-! ### Types -/
inductive TK where
  | int (k:IntKind) | bool | str | ptr (e:Nat) | slice (e:Nat) | arr (n e:Nat) | struct (fs:List (Nat × Nat)) | map (k e:Nat) | func | iface | other
  deriving DecidableEq

inductive Zv where
  | int (k:IntKind) | bool | str | ptr | slice | map | func | iface
  deriving DecidableEq

def Zv.val:Zv->Value
  | .int k=>.int k 0 | .bool=>.bool false | .str=>.string ⟨#[]⟩ | .ptr=>.pointer none | .slice=>.slice none 0 0 | .map=>.map none | .func=>.nilFunc | .iface=>.nilIface

def zvB:Value->Zv->Bool
  | .int k n,.int k'=>k == k' && n == 0
  | .bool b,.bool=>!b
  | .string s,.str=>s.data.toList == []
  | .pointer none,.ptr | .slice none 0 0,.slice | .map none,.map | .nilFunc,.func | .nilIface,.iface=>true
  | _,_=>false

theorem D2 {v:Value}{z:Zv}(h:zvB v z=true):v=z.val:=by
  unfold zvB at h;split at h <;> simp_all [Zv.val];rename_i s;obtain ⟨⟨l⟩⟩:=s;simp at h;subst h;rfl

structure TI where
  k:TK
  size:Nat
  bytes:Nat
  zero:List Zv
  agg:Bool
  deriving DecidableEq

def tkB (d:TypeDesc):TK->Bool
  | .int k=>match d with | .int k'=>k == k' | _=>false
  | .bool=>match d with | .bool=>true | _=>false
  | .str=>match d with | .string=>true | _=>false
  | .ptr e=>match d with | .pointer e'=>e == e' | _=>false
  | .slice e=>match d with | .slice e'=>e == e' | _=>false
  | .arr n e=>match d with | .array n' e'=>n == n' && e == e' | _=>false
  | .struct fs=>match d with | .struct fields=>fields.toList.map (fun f=>(f.type,f.offset)) == fs | _=>false
  | .map k e=>match d with | .map k' e'=>k == k' && e == e' | _=>false
  | .func=>match d with | .func ..=>true | _=>false
  | .iface=>match d with | .interface _=>true | _=>false
  | .other=>true

def oy:List Value->List Zv->Bool
  | [],[]=>true
  | v::vs,z::zs=>zvB v z && oy vs zs
  | _,_=>false

def TI.zv (i:TI):Value:=bif i.agg then .agg (i.zero.map Zv.val).toArray else (i.zero.map Zv.val).headD undef

def aggD:TypeDesc->Bool
  | .struct _ | .array _ _=>true
  | _=>false

def tiB (P:Program)(t:Nat)(i:TI):Bool :=
  match P.underlying t,P.info? t with
  | some d,some f=>tkB d i.k && (aggD d == i.agg) && f.size == i.size && f.bytes == i.bytes && (i.zero.length == i.size) && (match f.zero with
    | some z=>oy z.cells.toList i.zero && (match z with | .agg _=>i.agg | .tuple _=>false | _=>!i.agg)
    | none=>false)
  | _,_=>false

abbrev Tab:=List (Nat × TI)
def Tab.get:Tab->Nat->Option TI
  | [],_=>none
  | (t,i)::r,s=>bif Nat.beq t s then some i else Tab.get r s

def mr (P:Program)(T:Tab):Bool:=T.all fun (t,i)=>tiB P t i

theorem mg:∀ {vs:List Value}{zs:List Zv},oy vs zs=true->vs=zs.map Zv.val
  | [],[],_=>rfl
  | v::vs,z::zs,h=>by
    simp only [oy,bL] at h;rw [D2 h.1,mg h.2];rfl
  | [],_::_,h=>by simp [oy] at h
  | _::_,[],h=>by simp [oy] at h

theorem Tab.get_mem:∀ {T:Tab}{t:Nat}{i:TI},T.get t=some i->(t,i)∈T
  | (s,j)::r,t,i,h=>by
    simp only [Tab.get] at h;cases hb:Nat.beq s t with
    | true =>
      rw [hb] at h;simp only [Mm,zl] at h;rw [fB hb,h];exact br ..
    | false =>
      rw [hb] at h;exact Ll _ (Tab.get_mem h)

structure TIok (P:Program)(t:Nat)(i:TI):Prop where
  und:∃ d,P.underlying t=some d/\tkB d i.k=true/\aggD d=i.agg
  info:∃ f,P.info? t=some f/\f.size=i.size/\f.bytes=i.bytes/\f.zero=some i.zv/\i.zv.cells=(i.zero.map Zv.val).toArray
  zsize:i.zv.cells.size=i.size

theorem dW {P:Program}{T:Tab}(hT:mr P T=true){t:Nat}{i:TI}(h:T.get t=some i):TIok P t i:=by
  have:=ep.1 hT _ (Tab.get_mem h);simp only [tiB] at this;split at this
  · rename_i d f hd hf;simp only [bL,Lg] at this;obtain ⟨⟨⟨⟨⟨h1,h2⟩,h3⟩,h4⟩,h45⟩,h5⟩:=this
    suffices hh:f.zero=some i.zv/\i.zv.cells=(i.zero.map Zv.val).toArray from ⟨⟨d,hd,h1,h2⟩,⟨f,hf,h3,h4,hh.1,hh.2⟩,by rw [hh.2];simpa using h45⟩
    split at h5
    · rename_i z hz;simp only [bL] at h5;obtain ⟨h6,h7⟩:=h5;have h8:=mg h6;have h9:z=i.zv/\z.cells=(i.zero.map Zv.val).toArray:=by
        have hc:z.cells=(i.zero.map Zv.val).toArray:=by rw [<- h8]
        refine ⟨?_,hc⟩;unfold TI.zv;cases z <;> simp_all [Value.cells] <;> (try (cases h:i.zero <;> simp_all))
      exact ⟨by rw [hz,h9.1],by rw [<- h9.1];exact h9.2⟩
    · cases h5
  · cases this

/-! ### Frames -/
abbrev GL:=List (Nat × Bool)
abbrev Fr:=List (Nat × GL × Value)
def Fr.get:Fr->Nat->Option (GL × Value)
  | [],_=>none
  | (t,x)::r,s=>bif Nat.beq t s then some x else Fr.get r s

def yld (ds:List (Option Nat))(tmps:Array Value)(j:Nat):Option Bool :=
  match ((ds[j]?).bind id).bind (tmps[·]?) with
  | some (.bool b)=>some b
  | _=>none

theorem cj (l:List Oper)(tmps:Array Value):yielded l.toArray tmps=yld (l.map (·.dst)) tmps:=by
  funext j;unfold yielded yld;have h:((l.toArray)[j]?).bind (·.dst)=((l.map (·.dst))[j]?).bind id:=by
    simp only [LB,bX];cases l[j]? <;> rfl
  rw [h];rfl

def GH (ds:List (Option Nat))(tmps:Array Value)(g:GL):Prop:=∀ p∈g,yld ds tmps p.1=some p.2

structure FrOk (n:Nat)(ds:List (Option Nat))(dd:List Deferred)(fr:Fr)(a:Act):Prop where
  size:a.tmps.size=n
  defers:a.defers=dd
  ent:∀ s g v,fr.get s=some (g,v)->(GH ds a.tmps g->a.tmps[s]?=some v)/\(¬ GH ds a.tmps g->a.tmps[s]?=some undef)

def Ks (ge g:GL):Bool:=ge.all fun p=>g.any fun q=>Nat.beq p.1 q.1 && (p.2 == q.2)

theorem GH.sub {ds:List (Option Nat)}{tmps:Array Value}{ge g:GL}(h:GH ds tmps g)(hs:Ks ge g=true):GH ds tmps ge:=by
  intro p hp;have:=ep.1 hs p hp;obtain ⟨q,hq,hb⟩:=Nh.1 this;simp only [bL,Lg] at hb;have e1:=fB hb.1;have:=h q hq;rw [<- e1,<- hb.2] at this;exact this

def ev (fr:Fr)(g:GL):Operand->Option Value
  | .tmp t=>match fr.get t with
    | some (ge,v)=>bif Ks ge g then some v else none
    | none=>none
  | .const v=>some v
  | .global b=>some (.pointer (some ⟨b,0,none⟩))
  | .func f=>some (.func (.func f) #[] #[])

theorem bd {n:Nat}{ds:List (Option Nat)}{fr:Fr}{a:Act}{dd:List Deferred}{g:GL}(h:FrOk n ds dd fr a)(hg:GH ds a.tmps g){x:Operand}{v:Value}(hx:ev fr g x=some v):a.eval x=v:=by
  cases x with
  | tmp t =>
    simp only [ev] at hx;split at hx
    · rename_i ge u hget;cases hs:Ks ge g with
      | false=>rw [hs] at hx;cases hx
      | true =>
        rw [hs] at hx;simp only [Mm,zl] at hx;have:=(h.ent t ge u hget).1 (hg.sub hs);simp only [Act.eval,Le,this,NG];exact hx
    · cases hx
  | const u=>simpa [ev,Act.eval] using hx
  | global b=>simpa [ev,Act.eval] using hx
  | func f=>simpa [ev,Act.eval] using hx

def gOf (ds:List (Option Nat))(fr:Fr):Option (Nat × Bool)->Option GL
  | none=>some []
  | some (j,w)=>match ((ds[j]?).bind id).bind fr.get with
    | some (g,.bool _)=>some ((j,w)::g)
    | _=>none

def GT (ds:List (Option Nat))(fr:Fr):GL->Prop
  | []=>True
  | (j,w)::r=>(match ((ds[j]?).bind id).bind fr.get with
    | some (_,.bool b)=>b=w
    | _=>False)/\GT ds fr r

theorem vB {ds:List (Option Nat)}{tmps:Array Value}{j:Nat}{b:Bool}(h:yld ds tmps j=some b):∃ d,(ds[j]?).bind id=some d/\tmps[d]?=some (.bool b):=by
  unfold yld at h;cases hd:(ds[j]?).bind id with
  | none=>rw [hd] at h;cases h
  | some d =>
    refine ⟨d,Z, ?_⟩;rw [hd] at h;simp only [Option.bind_some] at h;split at h
    · rename_i b' hb;cases h;exact hb
    · cases h

theorem FK {n:Nat}{ds:List (Option Nat)}{fr:Fr}{a:Act}{dd:List Deferred}(h:FrOk n ds dd fr a):∀ {g:GL},GH ds a.tmps g->(∀ p∈g,∃ g' b,((ds[p.1]?).bind id).bind fr.get=some (g',.bool b))->GT ds fr g
  | [],_,_=>trivial
  | (j,w)::r,hg,hw=>by
    refine ⟨?_,FK h (fun p hp=>hg p (by simp [hp])) (fun p hp=>hw p (by simp [hp]))⟩;obtain ⟨g',b,hb⟩:=hw (j,w) (by simp);simp only [hb];have hy:=hg (j,w) (by simp);obtain ⟨d,hd,ht⟩:=vB hy;rw [hd] at hb;have he:=h.ent d g' (.bool b) hb;by_cases hG:GH ds a.tmps g'
    · have:=he.1 hG;rw [ht] at this;simp only [zl,Value.bool.injEq] at this;exact this.symm
    · have:=he.2 hG;rw [ht] at this;simp [undef] at this

def aO (n:Nat)(ds:List (Option Nat))(fr:Fr)(d:Nat):Bool :=
  Nat.blt d n && fr.all fun (_,g,_)=>g.all fun p=>match (ds[p.1]?).bind id with
    | some e=>!(Nat.beq e d)
    | none=>true

theorem GP {ds:List (Option Nat)}{a:Act}{d:Nat}{v:Value}{j:Nat}(h:∀ e,(ds[j]?).bind id=some e->e≠d):yld ds (a.put (some d) v).tmps j=yld ds a.tmps j:=by
  unfold yld;cases hd:(ds[j]?).bind id with
  | none=>rfl
  | some e =>
    have:=h e hd;simp [Act.put,NI (Ne.symm this)]

theorem Fr.get_mem:∀ {fr:Fr}{s:Nat}{x:GL × Value},fr.get s=some x->(s,x)∈fr
  | (t,y)::r,s,x,h=>by
    simp only [Fr.get] at h;cases hb:Nat.beq t s with
    | true =>
      rw [hb] at h;simp only [Mm,zl] at h;rw [fB hb,h];exact br ..
    | false =>
      rw [hb] at h;exact Ll _ (Fr.get_mem h)

theorem FrOk.put {n:Nat}{ds:List (Option Nat)}{fr:Fr}{a:Act}{d:Nat}{g:GL}{v u:Value}{dd:List Deferred}(h:FrOk n ds dd fr a)(hp:aO n ds ((d,g,v)::fr) d=true)
    (hu:(GH ds a.tmps g->u=v)/\(¬ GH ds a.tmps g->u=undef)):FrOk n ds dd ((d,g,v)::fr) (a.put (some d) u):=by
  simp only [aO,bL,ep] at hp;obtain ⟨hlt,hall⟩:=hp;have hlt:d<n:=by simpa [NA] using hlt
  have gh:∀ s g' v',(s,g',v')∈(d,g,v)::fr->(GH ds (a.put (some d) u).tmps g' ↔ GH ds a.tmps g'):=fun s g' v' hm=>by
    have hq:=hall (s,g',v') hm;have e:∀ p∈g',yld ds (a.put (some d) u).tmps p.1=yld ds a.tmps p.1:=fun p hp'=>by
      refine GP (fun e he=>?_);have:=hq p hp';simp only [he,Mu] at this;intro hed;subst hed;simp [NQ] at this
    exact ⟨fun hh p hp'=>by rw [<- e p hp'];exact hh p hp',fun hh p hp'=>by rw [e p hp'];exact hh p hp'⟩
  refine ⟨by simp [Act.put,h.size],h.defers,fun s g' v' hget=>?_⟩;have hmem:=Fr.get_mem hget;rw [gh s g' v' hmem];simp only [Fr.get] at hget;cases hb:Nat.beq d s with
  | true =>
    rw [hb] at hget;simp only [Mm,zl,Na] at hget;obtain ⟨rfl,rfl⟩:=hget;have hds:=fB hb;subst hds;have hget':(a.put (some d) u).tmps[d]?=some u:=by simp [Act.put,h.size,hlt]
    exact ⟨fun hG=>by rw [hget',hu.1 hG],fun hG=>by rw [hget',hu.2 hG]⟩
  | false =>
    rw [hb] at hget;have hne:d≠s:=fun e=>by subst e;simp [NQ] at hb
    have:=h.ent s g' v' hget;simpa [Act.put,NI hne] using this

/-! ### Operations that look at no memory -/
def JA (op:BinOp)(k:IntKind)(a b:Int):Option Value :=
  match op with
  | .add=>some (.int k (k.wrap (a+b)))
  | .sub=>some (.int k (k.wrap (a-b)))
  | .mul=>some (.int k (k.wrap (a*b)))
  | .eql=>some (.bool (a == b))
  | .neq=>some (.bool (a != b))
  | .lss=>some (.bool (decide (a<b)))
  | .leq=>some (.bool (decide (a<=b)))
  | .gtr=>some (.bool (decide (b<a)))
  | .geq=>some (.bool (decide (b<=a)))
  | _=>none

def Ef (op:BinOp)(a b:ByteArray):Option Value :=
  match op with
  | .eql=>some (.bool (a.data.toList == b.data.toList))
  | .neq=>some (.bool (!(a.data.toList == b.data.toList)))
  | .lss=>some (.bool (Op.bytesLess a.data.toList b.data.toList))
  | .leq=>some (.bool (Op.bytesLess a.data.toList b.data.toList || a.data.toList == b.data.toList))
  | .gtr=>some (.bool (!(Op.bytesLess a.data.toList b.data.toList || a.data.toList == b.data.toList)))
  | .geq=>some (.bool (!(Op.bytesLess a.data.toList b.data.toList)))
  | _=>none

def Do (T:Tab)(op:BinOp)(t:Nat):Value->Value->Option Value
  | .int k a,.int k' b=>bif k == k' then JA op k a b else none
  | .string a,.string b=>Ef op a b
  | .bool a,.bool b=>match T.get t with
    | some ⟨.bool,_,_,_,_⟩=>match op with
      | .eql=>some (.bool (a == b))
      | .neq=>some (.bool (!(a == b)))
      | _=>none
    | _=>none
  | _,_=>none

def ji {α β:Type}(f:α->Option β):List α->Option (List β)
  | []=>some []
  | x::xs=>match f x,ji f xs with
    | some y,some ys=>some (y::ys)
    | _,_=>none

theorem dN {α β:Type}{f:α->Option β}{f':α->β}(h:∀ x y,f x=some y->f' x=y):∀ {xs:List α}{ys:List β},ji f xs=some ys->xs.map f'=ys
  | [],ys,e=>by simp [ji] at e;simp [e]
  | x::xs,ys,e=>by
    simp only [ji] at e;split at e
    · rename_i y ys' h1 h2;cases e
      rw [Li,h x y h1,dN h h2]
    · cases e

def Jv (T:Tab)(t:Nat):Value->Option Value
  | .slice _ n _=>match T.get t with
    | some ⟨.slice _,_,_,_,_⟩=>some (.int .i64 n)
    | _=>none
  | .string s=>match T.get t with
    | some ⟨.str,_,_,_,_⟩=>some (.int .i64 s.data.toList.length)
    | _=>none
  | _=>none

def po (T:Tab)(ρ:Operand->Option Value):Op->Option Value
  | .move x | .assign x=>ρ x
  | .unOp .not _ x=>match ρ x with
    | some (.bool b)=>some (.bool (!b))
    | _=>none
  | .unOp .neg _ x=>match ρ x with
    | some (.int k n)=>some (.int k (k.wrap (0-n)))
    | _=>none
  | .binOp op t x y _=>match ρ x,ρ y with
    | some u,some v=>Do T op t u v
    | _,_=>none
  | .extract x i=>match ρ x with
    | some (.tuple vs)=>vs.toList[i]?
    | _=>none
  | .fieldAddr t x f=>match ρ x with
    | some (.pointer (some a))=>match T.get t with
      | some ⟨.struct fs,_,_,_,_⟩=>match fs[f]? with
        | some (ty,off)=>match T.get ty with
          | some ⟨_,s,_,_,_⟩=>bif Nat.beq s 0 then none else some (.pointer (some (a.add off)))
          | none=>none
        | none=>none
      | _=>none
    | _=>none
  | .nilCheck x=>match ρ x with
    | some (.pointer (some a))=>some (.pointer (some a))
    | _=>none
  | .makeFunc fn first captured=>match ji ρ first.toList,ji ρ captured.toList with
    | some vs,some us=>some (.func fn vs.toArray us.toArray)
    | _,_=>none
  | .makeInterface t x=>match ρ x,T.get t with
    | some v,some ⟨k,_,_,_,_⟩=>match k with
      | .iface=>none
      | .other=>none
      | _=>some (.iface t v)
    | _,_=>none
  | .call ⟨.builtin .len,args,ts⟩=>match args.toList,ts.toList with
    | [x],[t]=>match ρ x with
      | some v=>Jv T t v
      | none=>none
    | _,_=>none
  | _=>none

def D1 (ρ:Operand->Option Value)(a:Act):Prop:=∀ x v,ρ x=some v->a.eval x=v

theorem toList_eq (s:ByteArray):s.toList=s.data.toList:=ByteArray.toList_eq s

theorem sq {P:Program}{op:BinOp}{a b:ByteArray}{v:Value}(h:Ef op a b=some v)(w:World):(Op.stringOp op a b).run P w=.ok v w:=by
  unfold Ef at h;split at h <;> cases h <;> simp [Op.stringOp,toList_eq]

theorem dQ {P:Program}{op:BinOp}{t:Nat}{x y:Operand}{u v:Value}(w:World)(h:∀ a b,u≠.agg a∨v≠.agg b)(h':u≠.nilIface∨v≠.nilIface) :
    (eqGuard op t x y u v).run P w=.ok () w:=by
  have key:(match u,v with
      | .nilIface,.nilIface=>(if (x matches .const _) || (y matches .const _) then pure () else do
          if <- Op.eqGuardIn Op.maxDepth t u v then unsupported (.noEntry "binop/eql: two nil values of an interface type with methods, neither of them the literal nil") : Sem Unit)
      | .agg _,.agg _=>do
        if !(<- program).eqGuardType (<- program).depth t then pure () else
        if <- Op.eqGuardIn Op.maxDepth t u v then unsupported (.noEntry "binop/eql: two nil values of an interface type with methods, in a part of a struct or an array")
      | _,_=>pure ())=pure ():=by
    split
    · rcases h' with h' | h' <;> exact absurd rfl h'
    · rename_i a b;rcases h a b with h | h <;> exact absurd rfl h
    · rfl
  cases op <;> first | rfl | (unfold eqGuard;simp only [Bool.not_true,LG,LZ];exact congrArg (fun s:Sem Unit=>s.run P w) key)

theorem Gl {T:Tab}{P:Program}(hT:mr P T=true){t:Nat}{k:TK}{s b:Nat}{z:List Zv}{g:Bool}(h:T.get t=some ⟨k,s,b,z,g⟩):∃ d,P.underlying t=some d/\tkB d k=true :=
  let ⟨d,h1,h2,_⟩:=(dW hT h).und
  ⟨d,h1,h2⟩

theorem ck {T:Tab}{P:Program}(hT:mr P T=true){t e:Nat}{s b:Nat}{z:List Zv}{g:Bool}(h:T.get t=some ⟨.slice e,s,b,z,g⟩):P.underlying t=some (.slice e):=by
  obtain ⟨d,h1,h2⟩:=Gl hT h;cases d <;> simp [tkB] at h2
  rw [h1,h2]
theorem mo {T:Tab}{P:Program}(hT:mr P T=true){t:Nat}{s b:Nat}{z:List Zv}{g:Bool}(h:T.get t=some ⟨.str,s,b,z,g⟩):P.underlying t=some .string:=by
  obtain ⟨d,h1,h2⟩:=Gl hT h;cases d <;> simp [tkB] at h2
  exact h1
theorem D9 {T:Tab}{P:Program}(hT:mr P T=true){t:Nat}{s b:Nat}{z:List Zv}{g:Bool}(h:T.get t=some ⟨.bool,s,b,z,g⟩):P.underlying t=some .bool:=by
  obtain ⟨d,h1,h2⟩:=Gl hT h;cases d <;> simp [tkB] at h2
  exact h1
theorem pX {T:Tab}{P:Program}(hT:mr P T=true){t:Nat}{k:IntKind}{s b:Nat}{z:List Zv}{g:Bool}(h:T.get t=some ⟨.int k,s,b,z,g⟩):P.underlying t=some (.int k):=by
  obtain ⟨d,h1,h2⟩:=Gl hT h;cases d <;> simp [tkB] at h2
  rw [h1,h2]
theorem ko {T:Tab}{P:Program}(hT:mr P T=true){t n e:Nat}{s b:Nat}{z:List Zv}{g:Bool}(h:T.get t=some ⟨.arr n e,s,b,z,g⟩):P.underlying t=some (.array n e):=by
  obtain ⟨d,h1,h2⟩:=Gl hT h;cases d <;> simp [tkB] at h2
  rw [h1,h2.1,h2.2]
theorem km {T:Tab}{P:Program}(hT:mr P T=true){t:Nat}{fs:List (Nat × Nat)}{s b:Nat}{z:List Zv}{g:Bool}(h:T.get t=some ⟨.struct fs,s,b,z,g⟩) :
    ∃ fields:Array Field,P.underlying t=some (.struct fields)/\fields.toList.map (fun f=>(f.type,f.offset))=fs:=by
  obtain ⟨d,h1,h2⟩:=Gl hT h;cases d <;> simp [tkB] at h2
  rename_i fields;exact ⟨fields,h1,by simpa using h2⟩
theorem dJ {T:Tab}{P:Program}(hT:mr P T=true){t:Nat}{i:TI}(h:T.get t=some i)(w:World):(sizeOf t).run P w=.ok i.size w:=by
  obtain ⟨f,h1,h2,_⟩:=(dW hT h).info;simp [sizeOf,typeInfo,h1,h2]
theorem BS {T:Tab}{P:Program}(hT:mr P T=true){t:Nat}{i:TI}(h:T.get t=some i)(w:World):(isAgg t).run P w=.ok i.agg w:=by
  obtain ⟨d,h1,_,h3⟩:=(dW hT h).und;unfold isAgg;simp only [Sem.run_bind,run_underlying h1,Result.andThen_ok];rw [<- h3];cases d <;> rfl
theorem pQ {T:Tab}{P:Program}(hT:mr P T=true){t:Nat}{i:TI}(h:T.get t=some i)(w:World):(zeroValue t).run P w=.ok i.zv w:=by
  obtain ⟨f,h1,_,_,h4,_⟩:=(dW hT h).info;simp [zeroValue,typeInfo,h1,h4]

theorem AK {T:Tab}{P:Program}(hT:mr P T=true){op:BinOp}{t:Nat}{u v r:Value}(h:Do T op t u v=some r)(w:World):(binOp op t u v).run P w=.ok r w:=by
  unfold Do at h;split at h
  · rename_i k a k' b;by_cases hk:k=k'
    · subst hk;simp only [beq_self_eq_true,Mm] at h;cases op <;> simp only [JA] at h <;> (try cases h) <;> simp [binOp,Op.intArith,Op.intCmp]
    · rw [Mt.2 hk] at h;cases h
  · rename_i a b;have:=sq (P:=P) h w;cases op <;> first | exact this | (simp [Ef] at h)
  · rename_i a b;split at h
    · rename_i hg;have hb:=D9 hT hg;split at h
      · cases h;exact run_eql_bool w t a b hb
      · cases h;exact run_neq_bool w t a b hb
      · cases h
    · cases h
  · cases h

theorem tG {T:Tab}{op:BinOp}{t:Nat}{u v r:Value}(h:Do T op t u v=some r):(∀ a b,u≠.agg a∨v≠.agg b)/\(u≠.nilIface∨v≠.nilIface):=by
  unfold Do at h;split at h <;> first | (cases h;done) | exact ⟨fun _ _=>.inl (by simp),.inl (by simp)⟩

theorem Bd {T:Tab}{P:Program}(hT:mr P T=true){ρ:Operand->Option Value}{a:Act}(hs:D1 ρ a){o:Oper}{v:Value}(h:po T ρ o.op=some v)(w:World) :
    (execOp a.eval o).run P w=.ok (.value v) w:=by
  obtain ⟨dst,op,ty,pos,after,guard⟩:=o;simp only at h;unfold po at h;split at h
  case h_1 x=>simp [execOp,hs _ _ h]
  case h_2 x=>simp [execOp,hs _ _ h]
  case h_3 t x =>
    split at h
    · rename_i b hb;cases h;simp [execOp,hs _ _ hb,Op.unary]
    · cases h
  case h_4 t x =>
    split at h
    · rename_i k n hb;cases h;simp [execOp,hs _ _ hb,Op.unary,Op.intArith]
    · cases h
  case h_5 op t x y _ =>
    split at h
    · rename_i u r hu hr;have hsc:=tG h;simp [execOp,hs _ _ hu,hs _ _ hr,dQ (P:=P) (op:=op) (t:=t) (x:=x) (y:=y) w hsc.1 hsc.2,AK hT h w]
    · cases h
  case h_6 x i =>
    split at h
    · rename_i vs hv;simp only [Array.getElem?_toList] at h;simp [execOp,hs _ _ hv,Instr.extract,h]
    · cases h
  case h_7 t x f =>
    split at h
    · rename_i ad hv;split at h
      · rename_i fs _ _ _ _ hg;split at h
        · rename_i fty off hf;split at h
          · rename_i k' s b z g hg2;cases hsz:Nat.beq s 0 with
            | true=>rw [hsz] at h;cases h
            | false =>
              rw [hsz] at h;simp only [cond_false,zl] at h;subst h;obtain ⟨fields,hu,hm⟩:=km hT hg;have hfd:∃ fd,fields[f]?=some fd/\fd.type=fty/\fd.offset=off:=by
                rw [<- hm,bX] at hf;cases hx:fields.toList[f]? with
                | none=>rw [hx] at hf;cases hf
                | some fd =>
                  rw [hx] at hf;simp only [MR,zl,Na] at hf;exact ⟨fd,by simpa using hx,hf.1,hf.2⟩
              obtain ⟨fd,h1,rfl,rfl⟩:=hfd;have hs0:s≠0:=fun e=>by subst e;cases hsz
              have h2:=dJ hT hg2 w;simp only at h2;simp [execOp,hs _ _ hv,Instr.fieldAt,run_underlying hu,h1,Instr.sureAddr,fieldPlace,h2,hs0]
          · cases h
        · cases h
      · cases h
    · cases h
  case h_8 x =>
    split at h
    · rename_i ad hv;cases h;simp [execOp,hs _ _ hv]
    · cases h
  case h_9 fn first captured =>
    split at h
    · rename_i vs us h1 h2;cases h
      have e1:=dN (fun x y=>hs x y) h1;have e2:=dN (fun x y=>hs x y) h2;have e1':first.map a.eval=vs.toArray:=by apply Ml;rw [<- e1];simp
      have e2':captured.map a.eval=us.toArray:=by apply Ml;rw [<- e2];simp
      simp [execOp,Instr.makeFunc,e1',e2']
    · cases h
  case h_10 t x =>
    split at h
    · rename_i v' k _ _ _ _ hx hg;obtain ⟨d,hu,hk⟩:=Gl hT hg;split at h
      · cases h
      · cases h
      · cases h
        rename_i h1 h2;cases d <;> first | (simp [execOp,Instr.makeInterface,run_underlying hu,hs _ _ hx];done) | (cases k <;> simp_all [tkB])
    · cases h
  case h_11 args ts =>
    split at h
    · rename_i x t hx ht;split at h
      · rename_i u hu;obtain ⟨args⟩:=args;obtain ⟨ts⟩:=ts;simp only at hx ht;subst hx;subst ht;unfold Jv at h;split at h
        · rename_i A n c;split at h
          · rename_i hg;cases h
            simp [execOp,resolve,invoke,builtin,hs _ _ hu,Builtin.len_,run_underlying (ck hT hg),goInt]
          · cases h
        · rename_i s;split at h
          · rename_i hg;cases h
            simp [execOp,resolve,invoke,builtin,hs _ _ hu,Builtin.len_,run_underlying (mo hT hg),goInt]
          · cases h
        · cases h
      · cases h
    · cases h
  case h_12=>cases h
end Go.Jog
namespace Go.Jog
open Go

structure Cx where
  P:Program
  T:Tab
  mixed:P.follows .mixedOrders=true
  hT:mr P T=true

structure Bs where
  w0:World
  C0:Mem
  L0:List Ent

def Bs.cls (b:Bs):Mem × List Ent->World->Prop:=Jog.cls b.w0 b.C0 b.L0

abbrev It:=Nat × Nat × Oper

structure Rg (n:Nat)(ds:List (Option Nat)) where
  b:Bs
  ops:Array Oper
  kd:Nat->Nat
  Post:Act->Mem × List Ent->Prop
  hy:∀ tmps,yielded ops tmps=yld ds tmps
  dd:List Deferred

def D (cx:Cx){n:Nat}{ds:List (Option Nat)}(R:Rg n ds)(its:List It)(fr:Fr)(C:Mem)(L:List Ent):Prop :=
  R.b.C0.le C->(∀ x∈its,R.kd x.1=x.2.1/\R.ops[x.1]?=some x.2.2)->∀ a,FrOk n ds R.dd fr a->DU cx.P R.ops R.b.cls kle R.kd R.Post (its.map (·.1)) a (C,L)

def wfG (ds:List (Option Nat))(fr:Fr)(g:GL):Bool:=g.all fun p=>match ((ds[p.1]?).bind id).bind fr.get with
  | some (_,.bool _)=>true
  | _=>false

theorem pT {ds:List (Option Nat)}{fr:Fr}{g:GL}(h:wfG ds fr g=true):∀ p∈g,∃ g' b,((ds[p.1]?).bind id).bind fr.get=some (g',.bool b):=by
  intro p hp;have:=ep.1 h p hp;split at this
  · rename_i g' b hb;exact ⟨g',b,hb⟩
  · cases this

theorem fD {n:Nat}{ds:List (Option Nat)}{ops:Array Oper}(hy:∀ tmps,yielded ops tmps=yld ds tmps){fr:Fr}{a:Act}{dd:List Deferred}(h:FrOk n ds dd fr a){o:Oper}{g:GL}(hg:gOf ds fr o.guard=some g) :
    Region.wanted o (yielded ops a.tmps)=true ↔ GH ds a.tmps g:=by
  unfold Region.wanted;rw [hy];cases hgd:o.guard with
  | none =>
    rw [hgd] at hg;simp only [gOf,zl] at hg;subst hg;simp [GH]
  | some jw =>
    obtain ⟨j,w⟩:=jw;rw [hgd] at hg;simp only [gOf] at hg;split at hg
    · rename_i g' b hb;cases hg
      simp only [Lg];constructor
      · intro hyl p hp;rcases cI.1 hp with rfl | hp
        · exact hyl
        · obtain ⟨d,hd,ht⟩:=vB hyl;rw [hd] at hb;have he:=h.ent d g' (.bool b) hb;by_cases hG:GH ds a.tmps g'
          · exact hG p hp
          · have:=he.2 hG;rw [ht] at this;simp [undef] at this
      · intro hG;exact hG (j,w) (by simp)
    · cases hg

def gOn (ds:List (Option Nat))(fr:Fr):Option (Nat × Bool)->Bool
  | none=>true
  | some (j,w)=>match ((ds[j]?).bind id).bind fr.get with
    | some ([],.bool b)=>b == w
    | _=>false
theorem mj {n:Nat}{ds:List (Option Nat)}{ops:Array Oper}(hy:∀ tmps,yielded ops tmps=yld ds tmps){fr:Fr}{a:Act}{dd:List Deferred}(h:FrOk n ds dd fr a){o:Oper}(hg:gOn ds fr o.guard=true):Region.wanted o (yielded ops a.tmps)=true:=by
  unfold Region.wanted;rw [hy];cases hgd:o.guard with
  | none=>rfl
  | some jw =>
    obtain ⟨j,w⟩:=jw;rw [hgd] at hg;simp only [gOn] at hg;split at hg
    · rename_i b hb;simp only [Lg] at hg;subst hg;simp only [Lg];unfold yld;cases hd:(ds[j]?).bind id with
      | none=>rw [hd] at hb;cases hb
      | some d =>
        rw [hd] at hb;have:=(h.ent d [] _ hb).1 (fun p hp=>by cases hp);simp [this]
    · cases hg

section
variable {cx:Cx} {n:Nat} {ds:List (Option Nat)} {R:Rg n ds} {its:List It} {fr:Fr} {C:Mem} {L:List Ent} {i k d:Nat} {o:Oper} {g:GL} {v:Value}

theorem D.gH (hk:Nat.ble k 1=true)(hd:o.dst=some d)(hg:gOf ds fr o.guard=some g)(hp:aO n ds ((d,g,v)::fr) d=true)(hwf:wfG ds fr g=true)
    (hrun:GT ds fr g->∀ a,D1 (ev fr g) a->∀ κ',(k=1->kle (C,L) κ')->∀ w,R.b.cls κ' w->o.quietAt cx.P a (R.b.cls κ') w v)
    (h:D cx R its ((d,g,v)::fr) C L):D cx R ((i,k,o)::its) fr C L:=by
  intro hC0 hits a ha;obtain ⟨hkd,ho⟩:=hits (i,k,o) (by simp);simp only at hkd ho;have hk1:k<=1:=by rw [Mg] at hk;exact hk
  simp only [Li,DU];unfold dI;simp only [ho,hkd,hk1,Mb,hd];have hw:=fD R.hy ha hg;by_cases hG:GH ds a.tmps g
  · refine ⟨v,fun κ' hκ=>.inl ⟨hw.2 hG,fun w hcw=>hrun (FK ha hG (pT hwf)) a (fun x u hx=>bd ha hG hx) κ' hκ w hcw⟩, ?_⟩;exact h hC0 (fun x hx=>hits x (by simp [hx])) _ (ha.put hp ⟨fun _=>rfl,fun hn=>absurd hG hn⟩)
  · refine ⟨undef,fun κ' hκ=>.inr ⟨by cases hx:Region.wanted o (yielded R.ops a.tmps) with | false=>rfl | true=>exact absurd (hw.1 hx) hG,rfl⟩, ?_⟩;exact h hC0 (fun x hx=>hits x (by simp [hx])) _ (ha.put hp ⟨fun hn=>absurd hn hG,fun _=>rfl⟩)

theorem D.pure (hk:Nat.ble k 1=true)(hd:o.dst=some d)(hg:gOf ds fr o.guard=some g)(hv:po cx.T (ev fr g) o.op=some v)(hp:aO n ds ((d,g,v)::fr) d=true)(hwf:wfG ds fr g=true)
    (h:D cx R its ((d,g,v)::fr) C L):D cx R ((i,k,o)::its) fr C L :=
  D.gH hk hd hg hp hwf (fun _ a hs κ' _ w _=>by
    unfold Oper.quietAt;rw [Bd cx.hT (fun x u hx=>hs x u hx) hv w];exact ⟨Z,Z⟩) h

theorem D.ac  (h:D cx R its ((d,g,v)::fr) C L) (hk:Nat.ble k 1=true:=by rfl) (hd:o.dst=some d:=by rfl) (hg:gOf ds fr o.guard=some g:=by rfl) (hv:po cx.T (ev fr g) o.op=some v:=by rfl) (hp:aO n ds ((d,g,v)::fr) d=true:=by rfl) (hwf:wfG ds fr g=true:=by rfl):D cx R ((i,k,o)::its) fr C L:=D.pure hk hd hg hv hp hwf h
def nb (ds:List (Option Nat))(t:Nat):Nat->Option Nat
  | j=>match ds with
    | []=>none
    | some d::r=>bif Nat.beq d t then some j else nb r t (j+1)
    | none::r=>nb r t (j+1)

theorem kM:∀ {ds:List (Option Nat)}{t j m:Nat},nb ds t j=some m->j<=m/\(ds[m-j]?).bind id=some t
  | [],t,j,m,h=>by simp [nb] at h
  | some d::r,t,j,m,h=>by
    simp only [nb] at h;cases hb:Nat.beq d t with
    | true =>
      rw [hb] at h;simp only [Mm,zl] at h;subst h;exact ⟨aP _,by simp [fB hb]⟩
    | false =>
      rw [hb] at h;obtain ⟨h1,h2⟩:=kM h;refine ⟨by omega, ?_⟩;rw [show m-j=(m-(j+1))+1 by omega];simpa using h2
  | none::r,t,j,m,h=>by
    simp only [nb] at h;obtain ⟨h1,h2⟩:=kM h;refine ⟨by omega, ?_⟩;rw [show m-j=(m-(j+1))+1 by omega];simpa using h2

theorem D.pK {tc jc:Nat}{x y:Operand}{cb xb yb:Bool}(hk:Nat.ble k 1=true)(hd:o.dst=some d)(hop:o.op=.pick (.tmp tc) x y)(hg:gOf ds fr o.guard=some g)
    (hc:ev fr g (.tmp tc)=some (.bool cb)) (hj:nb ds tc 0=some jc)
    (hx:ev fr ((jc,true)::g) x=some (.bool xb)) (hy:ev fr ((jc,false)::g) y=some (.bool yb)) (hr:v=.bool (bif cb then xb else yb))
    (hp:aO n ds ((d,g,v)::fr) d=true)
    (h:D cx R its ((d,g,v)::fr) C L):D cx R ((i,k,o)::its) fr C L:=by
  intro hC0 hits a ha;obtain ⟨hkd,ho⟩:=hits (i,k,o) (by simp);simp only at hkd ho;have hk1:k<=1:=by rw [Mg] at hk;exact hk
  simp only [Li,DU];unfold dI;simp only [ho,hkd,hk1,Mb,hd];have hw:=fD R.hy ha hg;by_cases hG:GH ds a.tmps g
  · have hcv:a.eval (.tmp tc)=.bool cb:=bd ha hG hc;have hslot:a.tmps[tc]?=some (.bool cb):=by
      simp only [Act.eval,Le] at hcv;cases ht:a.tmps[tc]? with
      | none=>rw [ht] at hcv;simp [undef] at hcv
      | some u=>rw [ht] at hcv;simp at hcv;rw [hcv]
    have hyl:yld ds a.tmps jc=some cb:=by
      unfold yld;have:=(kM hj).2;simp only [N7] at this;rw [this];simp [hslot]
    have hval:(execOp a.eval o)=Pure.pure (.value v):=by
      have e1:execOp a.eval o=(do Pure.pure (.value (if <- asBool (a.eval (.tmp tc)) then a.eval x else a.eval y)):Sem Next):=by unfold execOp;rw [hop]
      rw [e1,hcv,hr];cases cb with
      | true =>
        have hG':GH ds a.tmps ((jc,true)::g):=fun p hp'=>by
          rcases cI.1 hp' with rfl | hp'
          · exact hyl
          · exact hG p hp'
        rw [bd ha hG' hx];rfl
      | false =>
        have hG':GH ds a.tmps ((jc,false)::g):=fun p hp'=>by
          rcases cI.1 hp' with rfl | hp'
          · exact hyl
          · exact hG p hp'
        rw [bd ha hG' hy];rfl
    refine ⟨v,fun κ' hκ=>.inl ⟨hw.2 hG,fun w hcw=>?_⟩, ?_⟩
    · unfold Oper.quietAt;rw [hval];exact ⟨Z,Z⟩
    · exact h hC0 (fun x hx=>hits x (by simp [hx])) _ (ha.put hp ⟨fun _=>rfl,fun hn=>absurd hG hn⟩)
  · refine ⟨undef,fun κ' hκ=>.inr ⟨by cases hx:Region.wanted o (yielded R.ops a.tmps) with | false=>rfl | true=>exact absurd (hw.1 hx) hG,rfl⟩, ?_⟩;exact h hC0 (fun x hx=>hits x (by simp [hx])) _ (ha.put hp ⟨fun hn=>absurd hn hG,fun _=>rfl⟩)

theorem D.DV {tc jc:Nat}{x:Operand}{cb xb:Bool}(hk:Nat.ble k 1=true)(hd:o.dst=some d)(hop:o.op=.pick (.tmp tc) x (.const (.bool false)))(hg:gOf ds fr o.guard=some g)
    (hc:ev fr g (.tmp tc)=some (.bool cb)) (hj:nb ds tc 0=some jc)
    (hx:ev fr ((jc,true)::g) x=some (.bool xb))
    (hp:aO n ds ((d,g,.bool (cb && xb))::fr) d=true)
    (h:D cx R its ((d,g,.bool (cb && xb))::fr) C L):D cx R ((i,k,o)::its) fr C L :=
  D.pK hk hd hop hg hc hj hx (yb:=false) rfl (by cases cb <;> rfl) hp h

theorem D.aw {tc jc:Nat}{x:Operand}{cb xb:Bool}(h:D cx R its ((d,g,.bool (cb && xb))::fr) C L)(hk:Nat.ble k 1=true:=by rfl)(hd:o.dst=some d:=by rfl)(hop:o.op=.pick (.tmp tc) x (.const (.bool false)):=by rfl)(hg:gOf ds fr o.guard=some g:=by rfl)(hc:ev fr g (.tmp tc)=some (.bool cb):=by rfl)(hj:nb ds tc 0=some jc:=by rfl)(hx:ev fr ((jc,true)::g) x=some (.bool xb):=by rfl)(hp:aO n ds ((d,g,.bool (cb && xb))::fr) d=true:=by rfl):D cx R ((i,k,o)::its) fr C L:=D.DV hk hd hop hg hc hj hx hp h
theorem D.FU {tc jc:Nat}{y:Operand}{cb yb:Bool}(hk:Nat.ble k 1=true)(hd:o.dst=some d)(hop:o.op=.pick (.tmp tc) (.const (.bool true)) y)(hg:gOf ds fr o.guard=some g)
    (hc:ev fr g (.tmp tc)=some (.bool cb)) (hj:nb ds tc 0=some jc)
    (hy:ev fr ((jc,false)::g) y=some (.bool yb))
    (hp:aO n ds ((d,g,.bool (cb || yb))::fr) d=true)
    (h:D cx R its ((d,g,.bool (cb || yb))::fr) C L):D cx R ((i,k,o)::its) fr C L :=
  D.pK hk hd hop hg hc hj (xb:=true) rfl hy (by cases cb <;> rfl) hp h

theorem D.aI {tc jc:Nat}{y:Operand}{cb yb:Bool}(h:D cx R its ((d,g,.bool (cb || yb))::fr) C L)(hk:Nat.ble k 1=true:=by rfl)(hd:o.dst=some d:=by rfl)(hop:o.op=.pick (.tmp tc) (.const (.bool true)) y:=by rfl)(hg:gOf ds fr o.guard=some g:=by rfl)(hc:ev fr g (.tmp tc)=some (.bool cb):=by rfl)(hj:nb ds tc 0=some jc:=by rfl)(hy:ev fr ((jc,false)::g) y=some (.bool yb):=by rfl)(hp:aO n ds ((d,g,.bool (cb || yb))::fr) d=true:=by rfl):D cx R ((i,k,o)::its) fr C L:=D.FU hk hd hop hg hc hj hy hp h
theorem D.gF {S:Value->Mem->List Ent->Prop}(hk:Nat.ble k 1=false)(hd:o.dst=some d)(hg:gOn ds fr o.guard=true)(hp:∀ v,aO n ds ((d,[],v)::fr) d=true)
    (hrun:∀ a,D1 (ev fr []) a->∀ w,R.b.C0.le C->R.b.cls (C,L) w->o.wp cx.P a w (fun a' w'=>∃ v C' L',a'=a.put o.dst v/\C.le C'/\(k=2->∀ x∈L,x∈L')/\R.b.cls (C',L') w'/\S v C' L') (QN fun _ _=>False))
    (h:∀ v C' L',C.le C'->S v C' L'->D cx R its ((d,[],v)::fr) C' L'):D cx R ((i,k,o)::its) fr C L:=by
  intro hC0 hits a ha;obtain ⟨hkd,ho⟩:=hits (i,k,o) (by simp);simp only at hkd ho;have hk1:¬ k<=1:=fun hle=>by rw [<- Mg] at hle;rw [hle] at hk;cases hk
  simp only [Li,DU];unfold dI;simp only [ho,hkd,hk1,LZ];intro w hw;unfold wpOp;simp only [ho];have hwt:Region.wanted o (yielded R.ops a.tmps)=true:=mj R.hy ha hg;simp only [hwt,Mb];refine .inl (Oper.wp_mono (fun a' w' ⟨v,C',L',e,hle,hL,hc,hS⟩=>⟨(C',L'),fun h2=>⟨hle,hL h2⟩,hc, ?_⟩) (hrun a (fun x u hx=>bd ha (fun p hp=>by cases hp) hx) w hC0 hw));rw [e,hd];refine h v C' L' hle hS (hC0.trans hle) (fun x hx=>hits x (by simp [hx])) _ (ha.put (hp v) ⟨fun _=>rfl,fun hn=>absurd (fun p hp=>by cases hp) hn⟩)

theorem D.tS {S:Mem->List Ent->Prop}(hk:Nat.ble k 1=false)(hg:gOn ds fr o.guard=true)
    (hrun:∀ a,D1 (ev fr []) a->∀ w,R.b.C0.le C->R.b.cls (C,L) w->o.wp cx.P a w (fun a' w'=>∃ C' L',a'=a/\C.le C'/\(k=2->∀ x∈L,x∈L')/\R.b.cls (C',L') w'/\S C' L') (QN fun _ _=>False))
    (h:∀ C' L',C.le C'->S C' L'->D cx R its fr C' L'):D cx R ((i,k,o)::its) fr C L:=by
  intro hC0 hits a ha;obtain ⟨hkd,ho⟩:=hits (i,k,o) (by simp);simp only at hkd ho;have hk1:¬ k<=1:=fun hle=>by rw [<- Mg] at hle;rw [hle] at hk;cases hk
  simp only [Li,DU];unfold dI;simp only [ho,hkd,hk1,LZ];intro w hw;unfold wpOp;simp only [ho];have hwt:Region.wanted o (yielded R.ops a.tmps)=true:=mj R.hy ha hg;simp only [hwt,Mb];refine .inl (Oper.wp_mono (fun a' w' ⟨C',L',e,hle,hL,hc,hS⟩=>⟨(C',L'),fun h2=>⟨hle,hL h2⟩,hc, ?_⟩) (hrun a (fun x u hx=>bd ha (fun p hp=>by cases hp) hx) w hC0 hw));rw [e];exact h C' L' hle hS (hC0.trans hle) (fun x hx=>hits x (by simp [hx])) _ ha
end

section
variable {cx:Cx} {n:Nat} {ds:List (Option Nat)} {R:Rg n ds} {its:List It} {fr:Fr} {C:Mem} {L:List Ent} {i k d:Nat} {o:Oper} {g:GL} {v:Value}

end
/-! ### Reading memory that nobody writes -/
def CCell (C:Mem)(a:Addr)(v:Value):Prop:=a.spot=none/\∃ blk t fz,C a.block=some (.cells blk t fz)/\blk[a.off]?=some v

theorem CCell.mono {C D:Mem}{a:Addr}{v:Value}(h:CCell C a v)(hl:C.le D):CCell D a v :=
  let ⟨h0,blk,t,fz,h1,h2⟩:=h
  ⟨h0,blk,t,fz,hl _ _ h1,h2⟩

theorem CCell.m_ {C D:Mem}{a:Addr}{v:Value}(h:CCell C a v)(hl:C.le D:=by exact mup):CCell D a v:=CCell.mono h hl
theorem CCell.cell {C:Mem}{L:List Ent}{w:World}{a:Addr}{v:Value}(h:CCell C a v)(hs:Sep C L w):w.cell? a=some v:=by
  obtain ⟨h0,blk,t,fz,h1,h2⟩:=h;simp [World.cell?,hs.c _ _ h1,h0,h2]

def PtrTo (C:Mem)(p:Value)(cs:List Value):Prop:=∃ a:Addr,p=.pointer (some a)/\a.spot=none/\∀ j v,cs[j]?=some v->CCell C (a.add j) v

theorem PtrTo.mono {C D:Mem}{p:Value}{cs:List Value}(h:PtrTo C p cs)(hl:C.le D):PtrTo D p cs :=
  let ⟨a,h1,h2,h3⟩:=h
  ⟨a,h1,h2,fun j v hj=>(h3 j v hj).mono hl⟩

theorem PtrTo.m_ {C D:Mem}{p:Value}{cs:List Value}(h:PtrTo C p cs)(hl:C.le D:=by exact mup):PtrTo D p cs:=PtrTo.mono h hl
theorem rC (a:Addr)(i j:Nat)(h:a.spot=none):(a.add i).add j=a.add (i+j):=by
  obtain ⟨b,o,s⟩:=a;simp only at h;subst h;unfold Addr.add;by_cases hi:i=0 <;> by_cases hj:j=0 <;> simp [hi,hj,MY]
theorem p4 (a:Addr)(i:Nat)(h:a.spot=none):(a.add i).spot=none:=by
  unfold Addr.add;split <;> simp [h]

theorem PtrTo.part {C:Mem}{p:Value}{cs:List Value}(h:PtrTo C p cs)(o s:Nat):∃ a:Addr,p=.pointer (some a)/\PtrTo C (.pointer (some (a.add o))) ((cs.drop o).take s):=by
  obtain ⟨a,h1,h2,h3⟩:=h;refine ⟨a,h1,a.add o,Z,p4 a o h2,fun j v hj=>?_⟩;rw [rC a o j h2];refine h3 _ v ?_;rw [Ly] at hj;split at hj
  · simpa using hj
  · cases hj

def Sl (C:Mem)(k:Nat)(v:Value)(xs:List (List Value)):Prop :=
  ∃ A c,v=.slice A xs.length c/\xs.length<=c/\c<=maxLen/\(∀ x∈xs,x.length=k)/\∀ i x,xs[i]?=some x->∃ a:Addr,A=some a/\a.spot=none/\∀ j v,x[j]?=some v->CCell C (a.add (i*k+j)) v

theorem Sl.mono {C D:Mem}{k:Nat}{v:Value}{xs:List (List Value)}(h:Sl C k v xs)(hl:C.le D):Sl D k v xs :=
  let ⟨A,c,h1,h2,h3,h4,h5⟩:=h
  ⟨A,c,h1,h2,h3,h4,fun i x hx=>let ⟨a,e1,e2,e3⟩:=h5 i x hx;⟨a,e1,e2,fun j v hj=>(e3 j v hj).mono hl⟩⟩

theorem Sl.m_ {C D:Mem}{k:Nat}{v:Value}{xs:List (List Value)}(h:Sl C k v xs)(hl:C.le D:=by exact mup):Sl D k v xs:=Sl.mono h hl
theorem Sl.nil (C:Mem)(k:Nat):Sl C k (.slice none 0 0) []:=⟨none,0,rfl,aP _,ch _,fun x hx=>(by cases hx),fun i x hx=>(by simp at hx)⟩

theorem Sl.ptr {C:Mem}{k:Nat}{v:Value}{xs:List (List Value)}(h:Sl C k v xs){i:Nat}{x:List Value}(hi:xs[i]?=some x) :
    ∃ (a:Addr)(c:Nat),v=.slice (some a) xs.length c/\i<xs.length/\PtrTo C (.pointer (some (a.add (i*k)))) x:=by
  obtain ⟨A,c,h1,h2,h3,h4,h5⟩:=h;obtain ⟨a,rfl,e2,e3⟩:=h5 i x hi;exact ⟨a,c,h1,(aJ.1 hi).1,a.add (i*k),Z,p4 a _ e2,fun j v hj=>by rw [rC a _ j e2];exact e3 j v hj⟩

theorem iR {P:Program}{w:World}{a:Addr}{cs:List Value}(h:∀ j v,cs[j]?=some v->w.cell? (a.add j)=some v):(loadCells a cs.length).run P w=.ok cs.toArray w:=run_loadCells_list (P:=P) (w:=w) a cs h

theorem eT {T:Tab}{P:Program}(hT:mr P T=true){t:Nat}{ti:TI}(ht:T.get t=some ti){w:World}{a:Addr}{cs:List Value}(h:∀ j v,cs[j]?=some v->w.cell? (a.add j)=some v)
    {v:Value} (hv:(bif ti.agg then (bif Nat.beq cs.length ti.size then some (.agg cs.toArray) else none) else cs[0]?)=some v):(loadVar t a).run P w=.ok v w:=by
  unfold loadVar;simp only [Sem.run_bind,BS hT ht w,Result.andThen_ok];cases hag:ti.agg with
  | true =>
    rw [hag] at hv;simp only [Mm] at hv;cases hl:Nat.beq cs.length ti.size with
    | false=>rw [hl] at hv;cases hv
    | true =>
      rw [hl] at hv;simp only [Mm,zl] at hv;subst hv;have hlen:=fB hl;simp only [Mb,Sem.run_bind,dJ hT ht w,Result.andThen_ok,<- hlen,iR h];rfl
  | false =>
    rw [hag] at hv;simp only [cond_false] at hv;have:=h 0 v hv;simp only [Addr.add,Mb] at this;simp [this]

section
variable {cx:Cx} {n:Nat} {ds:List (Option Nat)} {R:Rg n ds} {its:List It} {fr:Fr} {C:Mem} {L:List Ent} {i k d:Nat} {o:Oper} {g:GL} {v:Value}

def bR (ti:TI)(cs:List Value):Option Value:=bif ti.agg then (bif Nat.beq cs.length ti.size then some (.agg cs.toArray) else none) else cs[0]?

theorem D.aN {t:Nat}{x:Operand}{p:Value}{cs:List Value}{ti:TI}(e_0:Z6 k 1 o.dst (some d) o.op (.load t x) (gOf ds fr o.guard) (some g) (ev fr g x) (some p) (cx.T.get t) (some ti))(hc:GT ds fr g->PtrTo C p cs)(e_1:Z3 (bR ti cs) (some v) (aO n ds ((d,g,v)::fr) d) true (wfG ds fr g) true)(h:D cx R its ((d,g,v)::fr) C L):D cx R ((i,k,o)::its) fr C L :=
  have ⟨hk,hd,hop,hg,hx,ht⟩:=e_0;have ⟨hv,hp,hwf⟩:=e_1;D.gH (by subst hk;rfl) hd hg hp hwf (fun hGT a hs κ' hκ w hw=>by
    obtain ⟨ad,rfl,_,hcell⟩:=hc hGT;have hex:(execOp a.eval o).run cx.P w=.ok (.value v) w:=by
      have e1:execOp a.eval o=(do Pure.pure (.value (<- Instr.loadAt t (a.eval x))):Sem Next):=by unfold execOp;rw [hop]
      rw [e1,hs _ _ hx];simp only [Instr.loadAt,Instr.sureAddr,Sem.run_bind,Sem.run_pure,Result.andThen_ok];rw [eT cx.hT ht (fun j u hj=>((hcell j u hj).mono (hκ hk).1).cell hw.sep) hv];rfl
    unfold Oper.quietAt;rw [hex];exact ⟨Z,Z⟩) h

theorem D.nW {t b off:Nat}{x:Operand}{cs:List Value}{tb:TypeId}{fz:Nat × Nat}{ti:TI}(hm:Ent.obj b (.cells ⟨cs⟩ tb fz)∈L)(e_0:Z9 k 1 o.dst (some d) o.op (.load t x) (gOf ds fr o.guard) (some g) (ev fr g x) (some (.pointer (some ⟨b,off,none⟩))) (cx.T.get t) (some ti) (bR ti ((cs.drop off).take ti.size)) (some v) (aO n ds ((d,g,v)::fr) d) true (wfG ds fr g) true)(h:D cx R its ((d,g,v)::fr) C L):D cx R ((i,k,o)::its) fr C L :=
  have ⟨hk,hd,hop,hg,hx,ht,hv,hp,hwf⟩:=e_0;D.gH (by subst hk;rfl) hd hg hp hwf (fun _ a hs κ' hκ w hw=>by
    have hb:w.heap[b]?=some (.cells ⟨cs⟩ tb fz):=hw.sep.e _ ((hκ hk).2 _ hm);have hcell:∀ j u,((cs.drop off).take ti.size)[j]?=some u->w.cell? ((⟨b,off,none⟩:Addr).add j)=some u:=fun j u hj=>by
      rw [Addr.add_lit,cell_of_row w b (off+j) _ tb fz hb];rw [Ly] at hj;split at hj
      · simpa using hj
      · cases hj
    have hex:(execOp a.eval o).run cx.P w=.ok (.value v) w:=by
      have e1:execOp a.eval o=(do Pure.pure (.value (<- Instr.loadAt t (a.eval x))):Sem Next):=by unfold execOp;rw [hop]
      rw [e1,hs _ _ hx];simp only [Instr.loadAt,Instr.sureAddr,Sem.run_bind,Sem.run_pure,Result.andThen_ok];rw [eT cx.hT ht hcell hv];rfl
    unfold Oper.quietAt;rw [hex];exact ⟨Z,Z⟩) h

theorem D.af {t b off:Nat}{x:Operand}{cs:List Value}{tb:TypeId}{fz:Nat × Nat}{ti:TI}(hm:Ent.obj b (.cells ⟨cs⟩ tb fz)∈L)(h:D cx R its ((d,g,v)::fr) C L)(hk:k=1:=by rfl)(hd:o.dst=some d:=by rfl)(hop:o.op=.load t x:=by rfl)(hg:gOf ds fr o.guard=some g:=by rfl)(hx:ev fr g x=some (.pointer (some ⟨b,off,none⟩)):=by rfl)(ht:cx.T.get t=some ti:=by rfl)(hv:bR ti ((cs.drop off).take ti.size)=some v:=by rfl)(hp:aO n ds ((d,g,v)::fr) d=true:=by rfl)(hwf:wfG ds fr g=true:=by rfl):D cx R ((i,k,o)::its) fr C L:=D.nW hm ⟨hk,hd,hop,hg,hx,ht,hv,hp,hwf⟩ h
theorem D.index {t e:Nat}{x y:Operand}{ki:IntKind}{m:Int}{s:Value}{ke:Nat}{xs:List (List Value)}{row:List Value}{ti te:TI}(e_0:Z10 (Nat.ble k 1) true o.dst (some d) o.op (.indexAddr t x y) (gOf ds fr o.guard) (some g) (ev fr g x) (some s) (ev fr g y) (some (.int ki m)) (cx.T.get t) (some ti) ti.k (.slice e) (cx.T.get e) (some te) te.size ke)(hs:GT ds fr g->Sl C ke s xs/\0<=m/\xs[m.toNat]?=some row)(hp:∀ v,aO n ds ((d,g,v)::fr) d=true)(hwf:wfG ds fr g=true)(h:∀ p,(GT ds fr g->PtrTo C p row)->D cx R its ((d,g,p)::fr) C L):D cx R ((i,k,o)::its) fr C L:=by
  have ⟨hk,hd,hop,hg,hx,hy,ht,hte,he,hsz⟩:=e_0;have hu:cx.P.underlying t=some (.slice e):=by
    obtain ⟨kk,s1,b1,z1,g1⟩:=ti;simp only at hte;subst hte;exact ck cx.hT ht
  by_cases hG:GT ds fr g
  · obtain ⟨hsl,hm,hrow⟩:=hs hG;obtain ⟨a0,c0,hv0,hlt,hpt⟩:=hsl.ptr hrow;refine D.gH hk hd hg (hp (.pointer (some (a0.add (m.toNat*ke))))) hwf (fun _ a hsee κ' hκ w hw=>?_) (h _ (fun _=>hpt));have hex:(execOp a.eval o).run cx.P w=.ok (.value (.pointer (some (a0.add (m.toNat*ke))))) w:=by
      have e1:execOp a.eval o=(do Pure.pure (.value (<- Instr.indexAt t (a.eval x) (a.eval y))):Sem Next):=by unfold execOp;rw [hop]
      rw [e1,hsee _ _ hx,hsee _ _ hy,hv0];have h2:=dJ cx.hT he w;rw [hsz] at h2;have hmlt:m<(xs.length:Int):=by omega
      simp [Instr.indexAt,asIntOf,run_underlying hu,h2,hm,hmlt]
    unfold Oper.quietAt;rw [hex];exact ⟨Z,Z⟩
  · exact D.gH hk hd hg (hp undef) hwf (fun hGT=>absurd hGT hG) (h _ (fun hGT=>absurd hGT hG))

theorem D.gu {t f ty off:Nat}{x:Operand}{p:Value}{cs:List Value}{ti te:TI}{fs:List (Nat × Nat)}(e_0:Z10 (Nat.ble k 1) true o.dst (some d) o.op (.fieldAddr t x f) (gOf ds fr o.guard) (some g) (ev fr g x) (some p) (cx.T.get t) (some ti) ti.k (.struct fs) (fs[f]?) (some (ty,off)) (cx.T.get ty) (some te) (Nat.beq te.size 0) false)(hc:GT ds fr g->PtrTo C p cs)(hp:∀ v,aO n ds ((d,g,v)::fr) d=true)(hwf:wfG ds fr g=true)(h:∀ p',(GT ds fr g->PtrTo C p' ((cs.drop off).take te.size))->D cx R its ((d,g,p')::fr) C L):D cx R ((i,k,o)::its) fr C L:=by
  have ⟨hk,hd,hop,hg,hx,ht,hfs,hf,hte,hs0⟩:=e_0;by_cases hG:GT ds fr g
  · obtain ⟨ad,hpe,hpt⟩:=(hc hG).part off te.size;refine D.gH hk hd hg (hp (.pointer (some (ad.add off)))) hwf (fun _ a hsee κ' hκ w hw=>?_) (h _ (fun _=>hpt));have hpo:po cx.T (ev fr g) o.op=some (.pointer (some (ad.add off))):=by
      rw [hop];obtain ⟨kk,s1,b1,z1,g1⟩:=ti;simp only at hfs;subst hfs;obtain ⟨k2,s2,b2,z2,g2⟩:=te;simp only [po,hx,hpe,ht,hf,hte];simp only at hs0;rw [hs0];rfl
    unfold Oper.quietAt;rw [Bd cx.hT (fun x u hx=>hsee x u hx) hpo w];exact ⟨Z,Z⟩
  · exact D.gH hk hd hg (hp undef) hwf (fun hGT=>absurd hGT hG) (h _ (fun hGT=>absurd hGT hG))
end
end Go.Jog
namespace Go.Jog
open Go

section
variable {cx:Cx} {n:Nat} {ds:List (Option Nat)} {R:Rg n ds} {its:List It} {fr:Fr} {C:Mem} {L:List Ent} {i k d:Nat} {o:Oper} {g:GL} {v:Value}

theorem D.me {f:Nat->Value}{ob:Obj}(hk:Nat.ble k 1=false)(hd:o.dst=some d)(hg:gOn ds fr o.guard=true)(hp:∀ v,aO n ds ((d,[],v)::fr) d=true)
    (hrun:∀ a,D1 (ev fr []) a->∀ w,(execOp a.eval o).run cx.P w=.ok (.value (f w.heap.size)) (w.alloc ob))
    (h:∀ b,D cx R its ((d,[],f b)::fr) C (.obj b ob::L)):D cx R ((i,k,o)::its) fr C L :=
  D.gF (S:=fun v C' L'=>C'=C/\∃ b,v=f b/\L'=.obj b ob::L) hk hd hg hp (fun a hs w _ hw=>by
    unfold Oper.wp;rw [hrun a hs w];exact ⟨_,C,.obj w.heap.size ob::L,Z,Mem.le.refl _,fun _ x hx=>by simp [hx],St.alloc hw ob,Z,_,Z,Z⟩)
    (fun v C' L' _ ⟨e1,b,e2,e3⟩=>by subst e1;subst e2;subst e3;exact h b)

theorem D.pL {f:Nat->Value}{ob:Obj}(hk:Nat.ble k 1=false)(hd:o.dst=some d)(hg:gOn ds fr o.guard=true)(hp:∀ v,aO n ds ((d,[],v)::fr) d=true)
    (hrun:∀ a,D1 (ev fr []) a->∀ w,(execOp a.eval o).run cx.P w=.ok (.value (f w.heap.size)) (w.alloc ob))
    (h:∀ b C',C.le C'->C' b=some ob->D cx R its ((d,[],f b)::fr) C' L):D cx R ((i,k,o)::its) fr C L :=
  D.gF (S:=fun v C' L'=>L'=L/\∃ b,v=f b/\C' b=some ob) hk hd hg hp (fun a hs w hC0 hw=>by
    unfold Oper.wp;rw [hrun a hs w];have h1:=St.alloc hw ob;have h2:=h1.freeze;exact ⟨_,C.set w.heap.size ob,L,Z,h2.1,fun _ x hx=>hx,h2.2,Z,_,Z,Mem.set_self _ _ _⟩)
    (fun v C' L' hle ⟨e1,b,e2,e3⟩=>by subst e1;subst e2;exact h b C' hle e3)

theorem oJ {P:Program}(t:TypeId)(v:Value)(w:World):(newVar t v).run P w=.ok ⟨w.heap.size,0,none⟩ (w.alloc (.cells v.cells t)):=rfl

theorem D.alloc {t:Nat}{ti:TI}(hk:Nat.ble k 1=false)(hd:o.dst=some d)(hg:gOn ds fr o.guard=true)(hop:o.op=.alloc t)(ht:cx.T.get t=some ti)(hp:∀ v,aO n ds ((d,[],v)::fr) d=true)
    (h:∀ b,D cx R its ((d,[],.pointer (some ⟨b,0,none⟩))::fr) C (.obj b (.cells ⟨ti.zero.map Zv.val⟩ t (0,0))::L)):D cx R ((i,k,o)::its) fr C L :=
  D.me (f:=fun b=>.pointer (some ⟨b,0,none⟩)) hk hd hg hp (fun a _ w=>by
    have e1:execOp a.eval o=(do Pure.pure (.value (<- Instr.alloc t true (.tuple #[]))):Sem Next):=by unfold execOp;rw [hop]
    obtain ⟨f,_,_,_,_,hz⟩:=(dW cx.hT ht).info;rw [e1];simp only [Instr.alloc,Sem.run_bind,pQ cx.hT ht w,Result.andThen_ok,oJ,Sem.run_pure,hz]) h

theorem D.ai {t:Nat}{ti:TI}(h:∀ b,D cx R its ((d,[],.pointer (some ⟨b,0,none⟩))::fr) C (.obj b (.cells ⟨ti.zero.map Zv.val⟩ t (0,0))::L))(hk:Nat.ble k 1=false:=by rfl)(hd:o.dst=some d:=by rfl)(hg:gOn ds fr o.guard=true:=by rfl)(hop:o.op=.alloc t:=by rfl)(ht:cx.T.get t=some ti:=by rfl)(hp:∀ v,aO n ds ((d,[],v)::fr) d=true:=by intro _;rfl):D cx R ((i,k,o)::its) fr C L:=D.alloc hk hd hg hop ht hp h
theorem D.box {t:Nat}{x:Operand}{cs:List Value}(hk:Nat.ble k 1=false)(hd:o.dst=some d)(hg:gOn ds fr o.guard=true)(hop:o.op=.box t x)(hx:ev fr [] x=some v)(hv:v.cells=⟨cs⟩)(hp:∀ v,aO n ds ((d,[],v)::fr) d=true)
    (h:∀ b,D cx R its ((d,[],.pointer (some ⟨b,0,none⟩))::fr) C (.obj b (.cells ⟨cs⟩ t (0,0))::L)):D cx R ((i,k,o)::its) fr C L :=
  D.me (f:=fun b=>.pointer (some ⟨b,0,none⟩)) hk hd hg hp (fun a hs w=>by
    have e1:execOp a.eval o=(do Pure.pure (.value (<- Instr.box t (a.eval x))):Sem Next):=by unfold execOp;rw [hop]
    rw [e1,hs _ _ hx];simp only [Instr.box,Sem.run_bind,oJ,Result.andThen_ok,Sem.run_pure,hv]) h

theorem D.aD {t:Nat}{x:Operand}{cs:List Value}(h:∀ b,D cx R its ((d,[],.pointer (some ⟨b,0,none⟩))::fr) C (.obj b (.cells ⟨cs⟩ t (0,0))::L))(hk:Nat.ble k 1=false:=by rfl)(hd:o.dst=some d:=by rfl)(hg:gOn ds fr o.guard=true:=by rfl)(hop:o.op=.box t x:=by rfl)(hx:ev fr [] x=some v:=by rfl)(hv:v.cells=⟨cs⟩:=by rfl)(hp:∀ v,aO n ds ((d,[],v)::fr) d=true:=by intro _;rfl):D cx R ((i,k,o)::its) fr C L:=D.box hk hd hg hop hx hv hp h
/-! ### Stores -/
def uo:Value->Bool
  | .agg _ | .tuple _=>false
  | _=>true
theorem jK {v:Value}(h:uo v=true):v.oneCell'=true:=by cases v <;> simp_all [uo,Value.oneCell']

def aM (cs vs:List Value)(off:Nat):List Value:=cs.take off++vs++cs.drop (off+vs.length)

theorem aC:∀ {L:List Ent}{j:Nat}{x:Ent},L[j]?=some x->L.Perm (x::L.eraseIdx j)
  | y::L,0,x,h=>by simp at h;subst h;simp
  | y::L,j+1,x,h=>by
    have h':L[j]?=some x:=by simpa using h
    have:=aC h';exact (this.cons y).trans (List.Perm.swap x y _)
  | [],_,_,h=>by simp at h

def pkF:List Nat->List Ent->Option (List Ent)
  | [],L=>some L
  | j::js,L=>match L[j]? with
    | none=>none
    | some x=>match pkF js (L.eraseIdx j) with
      | none=>none
      | some M=>some (x::M)
theorem pkL:∀ {L L':List Ent}(js:List Nat),pkF js L=some L'->L.Perm L'
  | _,_,[],h=>by cases h;exact il _
  | L,L',j::js,h=>by
    simp only [pkF] at h;split at h
    · cases h
    · rename_i x hx;split at h
      · cases h
      · rename_i M hM;cases h
        exact (aC hx).trans (List.Perm.cons _ (pkL js hM))
theorem St.setRow {w0:World}{C0:Mem}{L0:List Ent}{C:Mem}{L:List Ent}{w:World}{b:Nat}{cs:List Value}{tb:TypeId}(h:St w0 C0 L0 C (.obj b (.cells ⟨cs⟩ tb (0,0))::L) w)(cs':List Value) :
    St w0 C0 L0 C (.obj b (.cells ⟨cs'⟩ tb (0,0))::L) (w.setRow b cs'.toArray):=by
  have hb:w.heap[b]?=some (.cells ⟨cs⟩ tb (0,0)):=h.sep.e _ (br ..);refine St.put h (setRow_heap w b _ _ tb _ hb) (fun k hk=>setRow_other w b k _ hk) (by simp) Z Z Z (aP _)

theorem li {T:Tab}{P:Program}(hT:mr P T=true){t:Nat}{ti:TI}(ht:T.get t=some ti){w:World}{b off:Nat}{cs:List Value}{tb:TypeId}{v:Value}{vs:List Value}
    (hb:w.heap[b]?=some (.cells ⟨cs⟩ tb (0,0))) (hv:v.cells=⟨vs⟩) (hl:vs.length=ti.size) (hfit:off+vs.length<=cs.length) (h1:∀ u∈vs,u.oneCell'=true) :
    (storeVar t ⟨b,off,none⟩ v).run P w=.ok () (w.setRow b (aM cs vs off).toArray):=by
  unfold storeVar;have hsz:v.cells.size=ti.size:=by rw [hv];simpa using hl
  simp only [Sem.run_bind,dJ hT ht w,Result.andThen_ok,hsz,ne_eq,not_true,LZ];have:=run_storeCells_at P b off tb vs 0 ⟨cs⟩ w hb (by simpa using hfit) h1;simp only [Mc] at this;rw [hv];exact this

theorem D.Io {t b off j:Nat}{x y:Operand}{cs vs:List Value}{tb:TypeId}{ti:TI}(hk:k=3)(hg:gOn ds fr o.guard=true)(hd:o.dst=none)(hop:o.op=.store t x y)
    (hx:ev fr [] x=some (.pointer (some ⟨b,off,none⟩))) (hy:ev fr [] y=some v) (hm:L[j]?=some (.obj b (.cells ⟨cs⟩ tb (0,0))))
    (ht:cx.T.get t=some ti) (hv:v.cells=⟨vs⟩) (hl:Nat.beq vs.length ti.size=true) (hfit:Nat.ble (off+vs.length) cs.length=true) (h1:vs.all uo=true)
    (h:D cx R its fr C (.obj b (.cells ⟨aM cs vs off⟩ tb (0,0))::L.eraseIdx j)):D cx R ((i,k,o)::its) fr C L :=
  D.tS (S:=fun C' L'=>C'=C/\L'=.obj b (.cells ⟨aM cs vs off⟩ tb (0,0))::L.eraseIdx j) (by subst hk;rfl) hg (fun a hs w _ hw=>by
    have hw':=St.perm hw (aC hm);have hb:w.heap[b]?=some (.cells ⟨cs⟩ tb (0,0)):=hw'.sep.e _ (br ..);have hex:(execOp a.eval o).run cx.P w=.ok .skip (w.setRow b (aM cs vs off).toArray):=by
      have e1:execOp a.eval o=(do Instr.storeAt t (a.eval x) (a.eval y);Pure.pure .skip:Sem Next):=by unfold execOp;rw [hop]
      rw [e1,hs _ _ hx,hs _ _ hy];simp only [Instr.storeAt,Instr.sureAddr,Sem.run_bind,Sem.run_pure,Result.andThen_ok];rw [li cx.hT ht hb hv (fB hl) (by rw [Mg] at hfit;exact hfit) (fun u hu=>jK (ep.1 h1 u hu))];rfl
    unfold Oper.wp;rw [hex];refine ⟨C,.obj b (.cells ⟨aM cs vs off⟩ tb (0,0))::L.eraseIdx j, ?_,Mem.le.refl _,fun h2=>by omega,St.setRow hw' _,Z,Z⟩;rw [hd];rfl)
    (fun C' L' _ ⟨e1,e2⟩=>by subst e1;subst e2;exact h)

theorem D.ae {t b off j:Nat}{x y:Operand}{cs vs:List Value}{tb:TypeId}{ti:TI}(h:D cx R its fr C (.obj b (.cells ⟨aM cs vs off⟩ tb (0,0))::L.eraseIdx j))(hk:k=3:=by rfl)(hg:gOn ds fr o.guard=true:=by rfl)(hd:o.dst=none:=by rfl)(hop:o.op=.store t x y:=by rfl)(hx:ev fr [] x=some (.pointer (some ⟨b,off,none⟩)):=by rfl)(hy:ev fr [] y=some v:=by rfl)(hm:L[j]?=some (.obj b (.cells ⟨cs⟩ tb (0,0))):=by rfl)(ht:cx.T.get t=some ti:=by rfl)(hv:v.cells=⟨vs⟩:=by rfl)(hl:Nat.beq vs.length ti.size=true:=by rfl)(hfit:Nat.ble (off+vs.length) cs.length=true:=by rfl)(h1:vs.all uo=true:=by rfl):D cx R ((i,k,o)::its) fr C L:=D.Io hk hg hd hop hx hy hm ht hv hl hfit h1 h
/-! ### Slices that are written out -/
def oS (ρ:Operand->Option Value)(s:Nat):List (Nat × Operand)->Nat->Option (List Value)
  | [],_=>some []
  | (j,x)::r,m=>bif Nat.beq j m then (match ρ x with
    | some v=>bif Nat.beq v.cells.toList.length s then (match oS ρ s r (m+1) with
      | some vs=>some (v.cells.toList++vs)
      | none=>none) else none
    | none=>none) else none

theorem nk (cs:List Value)(off:Nat):∀ (vs:List Value)(j:Nat)(acc:Array Value),off+j+vs.length<=acc.size ->
    ((vs.zipIdx j).foldl (fun cs (c,j)=>cs.setIfInBounds (off+j) c) acc).toList=acc.toList.take (off+j)++vs++acc.toList.drop (off+j+vs.length)
  | [],j,acc,h=>by simp
  | v::vs,j,acc,h=>by
    simp only [List.zipIdx_cons,N3];simp only [fh] at h;rw [nk cs off vs (j+1) _ (by simp;omega)];have hl:off+j<acc.toList.length:=by simp;omega
    simp only [Array.toList_setIfInBounds,fh];rw [show off+(j+1)=(off+j)+1 by omega,List.take_succ_eq_append_getElem (by simpa using hl),List.take_set_of_le (aP _)];rw [List.drop_set_of_lt om_];simp only [List.getElem_set_self,LN,List.singleton_append];rw [show off+j+1+vs.length=off+j+(vs.length+1) by omega]

theorem pf {ρ:Operand->Option Value}{ρ':Operand->Value}(hρ:∀ x v,ρ x=some v->ρ' x=v){s:Nat}:∀ {ps:List (Nat × Operand)}{m:Nat}{vs:List Value}(acc:Array Value),oS ρ s ps m=some vs->m*s+vs.length<=acc.size ->
    Instr.fill (fun i=>some (i*s,s)) acc (ps.map fun (i,x)=>(i,ρ' x))=some (acc.toList.take (m*s)++vs++acc.toList.drop (m*s+vs.length)).toArray
  | [],m,vs,acc,h,hl=>by
    simp only [oS,zl] at h;subst h;simp [Instr.fill]
  | (j,x)::r,m,vs,acc,h,hl=>by
    simp only [oS] at h;cases hb:Nat.beq j m with
    | false=>rw [hb] at h;cases h
    | true =>
      rw [hb] at h;obtain rfl:=fB hb;simp only [Mm] at h;split at h
      · rename_i v hv;cases hb2:Nat.beq v.cells.toList.length s with
        | false=>rw [hb2] at h;cases h
        | true =>
          rw [hb2] at h;simp only [Mm] at h;split at h
          · rename_i vs' hvs;cases h
            have hs:=fB hb2;simp only [N2] at hs;simp only [eh,N2,hs] at hl;simp only [Li,Instr.fill,hρ x v hv,hs];have hno:¬ (v.cells.size≠s || decide (j*s+v.cells.size > acc.size))=true:=by simp [hs];omega
            rw [hs] at hno;rw [a7 (by simpa using hno)];have hf:=nk [] (j*s) v.cells.toList 0 acc (by simp [hs];omega);simp only [Mc,N2,hs] at hf;have hz:(v.cells.zipIdx.foldl (fun cs (c,j_1)=>cs.setIfInBounds (j*s+j_1) c) acc)=(acc.toList.take (j*s)++v.cells.toList++acc.toList.drop (j*s+s)).toArray:=by
              apply Ml;rw [<- Array.foldl_toList,Array.toList_zipIdx];exact hf
            rw [hz,pf hρ _ hvs (by simp [hs];rw [L9];omega)];congr 1;have hlen:(acc.toList.take (j*s)++v.cells.toList).length=(j+1)*s:=by simp [hs,L9];omega
            rw [<- hlen,List.take_left];have e2:((acc.toList.take (j*s)++v.cells.toList)++acc.toList.drop (j*s+s)).drop ((acc.toList.take (j*s)++v.cells.toList).length+vs'.length)=acc.toList.drop (j*s+s+vs'.length):=by
              rw [Ow,Mh om_,MS,Nb,List.drop_drop]
            rw [e2];have e3:j*s+(v.cells.toList++vs').length=j*s+s+vs'.length:=by simp [hs];omega
            rw [e3];simp only [LN]
          · cases h
      · cases h
end
end Go.Jog
namespace Go.Jog
open Go

def sx:Value->List Value
  | .agg ⟨cs⟩=>cs
  | v=>[v]
theorem jb (v:Value):v.cells.toList=sx v:=by cases v <;> rfl

def oh (ρ:Operand->Option Value):List (Nat × Operand)->Nat->Option (List (List Value))
  | [],_=>some []
  | (j,x)::r,m=>bif Nat.beq j m then (match ρ x with
    | some v=>(match oh ρ r (m+1) with
      | some vs=>some (sx v::vs)
      | none=>none)
    | none=>none) else none

theorem cO {ρ:Operand->Option Value}{s:Nat}:∀ {ps:List (Nat × Operand)}{m:Nat}{rows:List (List Value)},oh ρ ps m=some rows->(∀ r∈rows,r.length=s)->oS ρ s ps m=some rows.flatten/\rows.length=ps.length
  | [],m,rows,h,_=>by simp [oh] at h;subst h;exact ⟨rfl,rfl⟩
  | (j,x)::r,m,rows,h,hl=>by
    simp only [oh] at h;cases hb:Nat.beq j m with
    | false=>rw [hb] at h;cases h
    | true =>
      rw [hb] at h;simp only [Mm] at h;split at h
      · rename_i v hv;split at h
        · rename_i vs hvs;cases h
          have h1:=cO hvs (fun r hr=>hl r (by simp [hr]));have h2:Nat.beq v.cells.toList.length s=true:=by rw [jb,hl (sx v) (by simp)];exact NQ s
          refine ⟨?_,by simp [h1.2]⟩;simp only [oS,hb,Mm,hv,h2,h1.1,MP];rw [jb]
        · cases h
      · cases h

theorem aU {s:Nat}:∀ {rows:List (List Value)},(∀ r∈rows,r.length=s)->rows.flatten.length=rows.length*s
  | [],_=>by simp
  | r::rows,h=>by
    rw [MP,eh,h r (by simp),aU (fun x hx=>h x (by simp [hx])),fh,L9];omega

theorem getElem?_flatten_rows {s:Nat}:∀ {rows:List (List Value)},(∀ r∈rows,r.length=s)->∀ {i:Nat}{x:List Value},rows[i]?=some x->∀ {j:Nat}{v:Value},x[j]?=some v->rows.flatten[i*s+j]?=some v
  | r::rows,h,0,x,hi,j,v,hj=>by
    simp at hi;subst hi;have hlt:j<r.length:=(aJ.1 hj).1;rw [MP,Nat.zero_mul,LO,LS hlt];exact hj
  | r::rows,h,i+1,x,hi,j,v,hj=>by
    have hr:=h r (by simp);rw [MP,LD (by rw [hr,L9];omega),hr];rw [show (i+1)*s+j-s=i*s+j by rw [L9];omega];exact getElem?_flatten_rows (fun x hx=>h x (by simp [hx])) (by simpa using hi) hj
  | [],_,i,x,hi,_,_,_=>by simp at hi

theorem Sl.ofBlock {C:Mem}{b s c:Nat}{blk:Array Value}{t:TypeId}{fz:Nat × Nat}{rows:List (List Value)}(hb:C b=some (.cells blk t fz))(hr:∀ r∈rows,r.length=s)
    (hblk:∀ (j:Nat)(v:Value),rows.flatten[j]?=some v->blk[j]?=some v) (hc:rows.length<=c) (hm:c<=maxLen):Sl C s (.slice (some ⟨b,0,none⟩) rows.length c) rows :=
  ⟨some ⟨b,0,none⟩,c,rfl,hc,hm,hr,fun i x hi=>⟨⟨b,0,none⟩,rfl,rfl,fun j v hj=>by
    rw [Addr.add_lit];exact ⟨Z,blk,t,fz,hb,by simpa using hblk _ _ (getElem?_flatten_rows hr hi hj)⟩⟩⟩

section
variable {cx:Cx} {n:Nat} {ds:List (Option Nat)} {R:Rg n ds} {its:List It} {fr:Fr} {C:Mem} {L:List Ent} {i k d:Nat} {o:Oper} {g:GL} {v:Value}

theorem ee {T:Tab}{P:Program}(hT:mr P T=true){t e len:Nat}{ti te:TI}(ht:T.get t=some ti)(hte:ti.k=.slice e)(he:T.get e=some te){ρ:Operand->Option Value}{ρ':Operand->Value}(hρ:∀ x v,ρ x=some v->ρ' x=v)
    {ps:List (Nat × Operand)} {rows:List (List Value)} (hrows:oh ρ ps 0=some rows) (hl:∀ r∈rows,r.length=te.size) (hlen:ps.length=len) (hbig:len*te.size<=16777216) (w:World) :
    (Instr.buildSlice t len (ps.map fun (i,x)=>(i,ρ' x)).toArray).run P w=.ok (.slice (some ⟨w.heap.size,0,none⟩) rows.length rows.length) (w.alloc (.cells ⟨rows.flatten⟩ e)):=by
  have hu:P.underlying t=some (.slice e):=by
    obtain ⟨kk,s1,b1,z1,g1⟩:=ti;simp only at hte;subst hte;exact ck hT ht
  obtain ⟨h1,h2⟩:=cO hrows hl;have hfl:=aU hl;have hln:len=rows.length:=by rw [h2];exact hlen.symm
  subst hln;have fillit:∀ acc:Array Value,acc.size=rows.length*te.size->Instr.fill (fun i=>some (i*te.size,te.size)) acc (ps.map fun (i,x)=>(i,ρ' x))=some ⟨rows.flatten⟩:=fun acc hacc=>by
    rw [pf hρ acc h1 (by rw [hfl];omega)];congr 1;apply Ml;have:acc.toList.drop (rows.length*te.size)=[]:=Mh (by simp [hacc]);simp [hfl,this]
  have hbig':¬ (16777216<rows.length*te.size):=by omega
  unfold Instr.buildSlice;by_cases hz:rows.length*te.size=0
  · have hf:=fillit #[] (by simp [hz]);simp [run_underlying hu,dJ hT he w,hz,Array.range_zero',hf,newRow]
  · have hf:=fillit ((Array.range (rows.length*te.size)).map (te.zv.cells[· % te.zv.cells.size]!)) (by simp);simp [run_underlying hu,dJ hT he w,hz,hbig',pQ hT he w,hf,newRow]

theorem D.buildSlice {t e len:Nat}{parts:Array (Nat × Operand)}{ti te:TI}(rows:List (List Value))(hk:Nat.ble k 1=false)(hd:o.dst=some d)(hg:gOn ds fr o.guard=true)(hop:o.op=.buildSlice t len parts)
    (ht:cx.T.get t=some ti) (hte:ti.k=.slice e) (he:cx.T.get e=some te) (hrows:oh (ev fr []) parts.toList 0=some rows) (hl:(rows.all fun r=>Nat.beq r.length te.size)=true) (hlen:Nat.beq parts.toList.length len=true)
    (hbig:Nat.ble (len*te.size) 16777216=true) (hs0:Nat.beq te.size 0=false) (hp:∀ v,aO n ds ((d,[],v)::fr) d=true)
    (h:∀ p C',C.le C'->Sl C' te.size p rows->D cx R its ((d,[],p)::fr) C' L):D cx R ((i,k,o)::its) fr C L:=by
  have hl':∀ r∈rows,r.length=te.size:=fun r hr=>fB (ep.1 hl r hr);have hlen':=fB hlen;rw [Mg] at hbig;have hpl:=(cO hrows hl').2;refine D.pL (f:=fun b=>.slice (some ⟨b,0,none⟩) rows.length rows.length) (ob:=.cells ⟨rows.flatten⟩ e) hk hd hg hp (fun a hs w=>?_) (fun b C' hle hb=>?_)
  · have e1:execOp a.eval o=(do Pure.pure (.value (<- Instr.buildSlice t len (parts.map fun (i,x)=>(i,a.eval x)))):Sem Next):=by unfold execOp;rw [hop]
    rw [e1];have e2:(parts.map fun (i,x)=>(i,a.eval x))=(parts.toList.map fun (i,x)=>(i,a.eval x)).toArray:=by apply Ml;simp
    rw [e2];simp only [Sem.run_bind,ee cx.hT ht hte he (fun x v hx=>hs x v hx) hrows hl' hlen' hbig w,Result.andThen_ok,Sem.run_pure]
  · refine h _ C' hle (Sl.ofBlock hb hl' (fun j v hj=>by simpa using hj) (aP _) ?_);rw [hpl,hlen'];have h0:0<te.size:=MG (fun e=>by rw [e] at hs0;cases hs0);have:len<=len*te.size:=MO _ h0;simp only [maxLen];omega

theorem D.ah {t e len:Nat}{parts:Array (Nat × Operand)}{ti te:TI}(rows:List (List Value))(h:∀ p C',C.le C'->Sl C' te.size p rows->D cx R its ((d,[],p)::fr) C' L)(hk:Nat.ble k 1=false:=by rfl)(hd:o.dst=some d:=by rfl)(hg:gOn ds fr o.guard=true:=by rfl)(hop:o.op=.buildSlice t len parts:=by rfl)(ht:cx.T.get t=some ti:=by rfl)(hte:ti.k=.slice e:=by rfl)(he:cx.T.get e=some te:=by rfl)(hrows:oh (ev fr []) parts.toList 0=some rows:=by rfl)(hl:(rows.all fun r=>Nat.beq r.length te.size)=true:=by rfl)(hlen:Nat.beq parts.toList.length len=true:=by rfl)(hbig:Nat.ble (len*te.size) 16777216=true:=by rfl)(hs0:Nat.beq te.size 0=false:=by rfl)(hp:∀ v,aO n ds ((d,[],v)::fr) d=true:=by intro _;rfl):D cx R ((i,k,o)::its) fr C L:=D.buildSlice rows hk hd hg hop ht hte he hrows hl hlen hbig hs0 hp h
theorem D.aQ {t e j m:Nat}{x y:Operand}{ti te:TI}{p v0:Value}{xs:List Value}{rows:List (List Value)}(e_0:Z11 k 3 o.dst (some d) (gOn ds fr o.guard) true o.op (.call ⟨.builtin .append,#[x,y],#[t,t]⟩) (cx.T.get t) (some ti) ti.k (.slice e) (cx.T.get e) (some te) (Nat.beq te.size 0) false (ev fr [] x) (some v0) (ev fr [] y) (some p) (L[j]?) (some (.arr v0 e te.size m xs)))(hsl:Sl C te.size p rows)(h1:rows.all (fun r=>r.all uo)=true)(h63:m+rows.length<=maxLen)(hbytes:(m+rows.length)*te.bytes<=140737488355328)(hp:∀ v,aO n ds ((d,[],v)::fr) d=true)(h:∀ A n c,D cx R its ((d,[],.slice A n c)::fr) C (.arr (.slice A n c) e te.size (m+rows.length) (xs++rows.flatten)::L.eraseIdx j)):D cx R ((i,k,o)::its) fr C L:=by
  have ⟨hk,hd,hg,hop,ht,hte,he,hs0,hx,hy,hm⟩:=e_0;have hu:cx.P.underlying t=some (.slice e):=by
    obtain ⟨kk,s1,b1,z1,g1⟩:=ti;simp only at hte;subst hte;exact ck cx.hT ht
  obtain ⟨inf,hi,hsize,hby,hz,hzc⟩:=(dW cx.hT he).info;have hpos:0<te.size:=MG (fun e=>by rw [e] at hs0;cases hs0);obtain ⟨A,c,hpv,hlc,hcm,hrl,hcells⟩:=hsl
  -- the zero's size is the type's
  refine D.gF (S:=fun v' C' L'=>(∃ A n c,v'=.slice A n c)/\C'=C/\L'=.arr v' e te.size (m+rows.length) (xs++rows.flatten)::L.eraseIdx j) (by subst hk;rfl) hd hg hp (fun a hs w _ hw=>?_) (fun v' C' L' _ ⟨⟨A,n',c,e0⟩,e1,e2⟩=>by subst e0;subst e1;subst e2;exact h A n' c);have hw':=St.perm hw (aC hm);have hown:w.ownsRow 0 e te.size v0 m xs:=hw'.sep.e _ (br ..);have hone:∀ u∈rows.flatten,u.oneCell'=true:=fun u hu=>by
    obtain ⟨r,hr,hur⟩:=List.mem_flatten.1 hu;exact jK (ep.1 (ep.1 h1 r hr) u hur)
  have hex:∃ v' w',(Builtin.append_ #[t,t] o.type #[v0,p]).run cx.P w=.ok v' w'/\w'.ownsRow 0 e te.size v' (m+rows.length) (xs++rows.flatten)/\w.grownBy w' v0.ownBlock/\(v'.ownBlock=v0.ownBlock∨v'.ownBlock=some w.heap.size):=by
    cases rows with
    | nil =>
      refine ⟨v0,w, ?_,by simpa using hown,⟨Z,Z,Z,aP _,fun _ _ _=>rfl⟩,.inl Z⟩;have hlen0:p=.slice A 0 c:=hpv;rw [hlen0];have hfc:∀ (W:World),(Builtin.firstCells te.size 0 (.slice A 0 c)).run cx.P W=.ok #[] W:=fun W=>by
        cases A <;> simp [Builtin.firstCells,loadCells,loadCellsFrom]
      rcases hown.2 with ⟨rfl,rfl⟩ | ⟨g0,cap,cur,rfl,_,_,hnc,_⟩
      · simp [Builtin.append_,run_underlying hu,sizeOf,typeInfo,hi,hsize,Builtin.lenOf,hfc]
      · simp [Builtin.append_,run_underlying hu,sizeOf,typeInfo,hi,hsize,Builtin.lenOf,hfc,hnc,storeCells]
    | cons r rs =>
      obtain ⟨ad,hA,hsp,_⟩:=hcells 0 r (by simp);subst hA;have hnews:∀ (q:Nat)(u:Value),(r::rs).flatten[q]?=some u->w.cell? (ad.add q)=some u:=fun q u hq=>by
        have hqlt:q<(r::rs).length*te.size:=by rw [<- aU hrl];exact (aJ.1 hq).1
        have hdiv:q / te.size<(r::rs).length:=OA (by rw [K8];exact hqlt);have hgi:(r::rs)[q / te.size]?=some (r::rs)[q / te.size]:=aq hdiv;have hmod:q % te.size<((r::rs)[q / te.size]).length:=by rw [hrl _ (Mv hdiv)];exact K9 _ hpos
        have hgj:=aq hmod;have heq:=getElem?_flatten_rows hrl hgi hgj;have hq':q / te.size*te.size+q % te.size=q:=by rw [K8];exact MT q te.size
        rw [hq',hq] at heq;obtain ⟨ad',h3,h4,h5⟩:=hcells _ _ hgi;cases h3
        have:=h5 _ _ hgj;rw [hq'] at this;rw [heq];exact this.cell hw.sep
      have hzs:te.zv.cells.size=te.size:=(dW cx.hT he).zsize;obtain ⟨v',w',hr1,hr2,hr3,_,hr5⟩:=run_append_own_at (P:=cx.P) w 0 t o.type e inf te.zv te.size te.bytes hu hi hz hsize hby hzs hpos v0 m xs hown ad (r::rs).length c (r::rs).flatten (aU hrl) hnews hone h63 hbytes (ch _);exact ⟨v',w',by rw [hpv];exact hr1,hr2,hr3,hr5⟩
  obtain ⟨v',w',hr1,hr2,hr3,hr5⟩:=hex;have hrun:(execOp a.eval o).run cx.P w=.ok (.value v') w':=by
    have e1:execOp a.eval o=(do let dd <- resolve a.eval ⟨.builtin .append,#[x,y],#[t,t]⟩ o.type;invoke dd.target dd.args:Sem Next):=by unfold execOp;rw [hop]
    rw [e1];simp only [resolve,invoke,builtin,Sem.run_bind,Sem.run_pure,Result.andThen_ok,MZ,Li,M3,hs _ _ hx,hs _ _ hy,hr1]
  unfold Oper.wp;rw [hrun];have hform:∃ A n c,v'=.slice A n c:=by
    rcases hr2.2 with ⟨h1,_⟩ | ⟨g0,cap,cur,h1,_⟩
    · exact ⟨_,_,_,h1⟩
    · exact ⟨_,_,_,h1⟩
  exact ⟨v',C,_,Z,Mem.le.refl _,fun h2=>by omega,St.turn hw' hr2 hr3 (bw _ hr1) (hr5.elim .inl (fun h=>.inr (.inl h))),hform,Z,Z⟩

theorem D.IK {t e j m:Nat}{x y:Operand}{ti te:TI}{p v0:Value}{xs:List Value}{rows:List (List Value)}(hsl:Sl C te.size p rows)(h63:m+rows.length<=maxLen)(hbytes:(m+rows.length)*te.bytes<=140737488355328)(h:∀ A n c,D cx R its ((d,[],.slice A n c)::fr) C (.arr (.slice A n c) e te.size (m+rows.length) (xs++rows.flatten)::L.eraseIdx j))(hk:k=3:=by rfl)(hd:o.dst=some d:=by rfl)(hg:gOn ds fr o.guard=true:=by rfl)(hop:o.op=.call ⟨.builtin .append,#[x,y],#[t,t]⟩:=by rfl)(ht:cx.T.get t=some ti:=by rfl)(hte:ti.k=.slice e:=by rfl)(he:cx.T.get e=some te:=by rfl)(hs0:Nat.beq te.size 0=false:=by rfl)(hx:ev fr [] x=some v0:=by rfl)(hy:ev fr [] y=some p:=by rfl)(hm:L[j]?=some (.arr v0 e te.size m xs):=by rfl)(h1:rows.all (fun r=>r.all uo)=true:=by rfl)(hp:∀ v,aO n ds ((d,[],v)::fr) d=true:=by intro _;rfl):D cx R ((i,k,o)::its) fr C L:=D.aQ ⟨hk,hd,hg,hop,ht,hte,he,hs0,hx,hy,hm⟩ hsl h1 h63 hbytes hp h
theorem D.append {t e j m:Nat}{x y:Operand}{ti te:TI}{p v0:Value}{xs:List Value}{rows:List (List Value)}(e_0:Z11 k 3 o.dst (some d) (gOn ds fr o.guard) true o.op (.call ⟨.builtin .append,#[x,y],#[t,t]⟩) (cx.T.get t) (some ti) ti.k (.slice e) (cx.T.get e) (some te) (Nat.beq te.size 0) false (ev fr [] x) (some v0) (ev fr [] y) (some p) (L[j]?) (some (.arr v0 e te.size m xs)))(hsl:Sl C te.size p rows)(h1:rows.all (fun r=>r.all uo)=true)(h63:m+rows.length<=maxLen)(hbytes:(m+rows.length)*te.bytes<=140737488355328)(hp:∀ v,aO n ds ((d,[],v)::fr) d=true)(h:∀ v',D cx R its ((d,[],v')::fr) C (.arr v' e te.size (m+rows.length) (xs++rows.flatten)::L.eraseIdx j)):D cx R ((i,k,o)::its) fr C L :=
  have ⟨hk,hd,hg,hop,ht,hte,he,hs0,hx,hy,hm⟩:=e_0;D.aQ ⟨hk,hd,hg,hop,ht,hte,he,hs0,hx,hy,hm⟩ hsl h1 h63 hbytes hp (fun _A _n _c=>h _)
end
end Go.Jog
namespace Go.Jog
open Go

def Pur (P:Program)(f:FuncId)(args:List Value)(C:Mem)(post:Value->Mem->Prop):Prop:=Fn P f args C [] fun v C' L'=>L'=[]/\post v C'

theorem fl {P:Program}{f:FuncId}(h:Enters P f=true)(args:Array Value)(w:World):(callFunc f args).run P w=.ok (.enter f args) w:=by
  unfold Enters at h;split at h
  · rename_i fn hf;simp only [bL,Mu] at h;have h1 : ¬ (fn.name == "runtime.NumGoroutine") = true := by rw [h.1]; simp
    have h2:¬ fn.body.isNone=true:=by
      cases hb:fn.body with
      | none=>rw [hb] at h;simp at h
      | some c=>simp
    simp only [callFunc,Sem.run_bind,run_program,Result.andThen_ok,hf];rw [a7 h1,a7 h2];rfl
  · cases h

section
variable {cx:Cx} {n:Nat} {ds:List (Option Nat)} {R:Rg n ds} {its:List It} {fr:Fr} {C:Mem} {L:List Ent} {i k d:Nat} {o:Oper} {g:GL} {v:Value}

theorem lM {P:Program}{a:Act}{o:Oper}{f:Operand}{args:Array Operand}{ts:Array TypeId}{fid:FuncId}{fi ca:Array Value}{vs args':List Value}
    (hop:o.op=.call ⟨.value f,args,ts⟩) (hf:a.eval f=.func (.func fid) fi ca) (hargs:args.toList.map a.eval=vs) (he:fi.toList++vs++ca.toList=args') (hen:Enters P fid=true) (w:World) :
    (execOp a.eval o).run P w=.ok (.enter fid args'.toArray) w:=by
  have e1:execOp a.eval o=(do let dd <- resolve a.eval ⟨.value f,args,ts⟩ o.type;invoke dd.target dd.args:Sem Next):=by unfold execOp;rw [hop]
  have e2:args.map a.eval=vs.toArray:=by apply Ml;rw [<- hargs];simp
  have e3:fi++vs.toArray++ca=args'.toArray:=by apply Ml;rw [<- he];simp
  rw [e1];simp only [resolve,hf,Deferred.ofValue,e2,Sem.run_bind,Sem.run_pure,Result.andThen_ok,invoke,e3];exact fl hen _ w

theorem D.call {f:Operand}{args:Array Operand}{ts:Array TypeId}{fid:FuncId}{fi ca:Array Value}{vs args':List Value}{Lp Lr:List Ent}{post:Value->Mem->List Ent->Prop}(c:Fn cx.P fid args' C Lp post)(hk:Nat.ble k 1=false)(hk2:Lp=[]∨k≠2)(e_0:Z6 o.dst (some d) (gOn ds fr o.guard) true o.op (.call ⟨.value f,args,ts⟩) (ev fr [] f) (some (.func (.func fid) fi ca)) (ji (ev fr []) args.toList) (some vs) (fi.toList++vs++ca.toList) args')(hL:L.Perm (Lp++Lr))(hp:∀ v,aO n ds ((d,[],v)::fr) d=true)(h:∀ v C' L',C.le C'->post v C' L'->D cx R its ((d,[],v)::fr) C' (L'++Lr)):D cx R ((i,k,o)::its) fr C L :=
  have ⟨hd,hg,hop,hf,hargs,he⟩:=e_0;D.gF (S:=fun v C' L'=>∃ L1,L'=L1++Lr/\post v C' L1) hk hd hg hp (fun a hs w _ hw=>by
    unfold Oper.wp;rw [lM hop (hs _ _ hf) (dN (fun x y=>hs x y) hargs) he c.1 w];simp only [Oper.upon];refine (c.callAt (St.perm hw hL)).mono fun e w' ⟨v,C',L',e1,h1,h2,h3⟩=>?_;subst e1;refine ⟨v,C',L'++Lr,Z,h1,fun hk' x hx=>?_,h2,L',Z,h3⟩;rcases hk2 with hk2 | hk2
    · subst hk2;have:=hL.mem_iff.1 hx;simp only [MS] at this;exact NP _ this
    · exact absurd hk' hk2)
    (fun v C' L' hle ⟨L1,e1,e2⟩=>by subst e1;exact h v C' L1 hle e2)

theorem D.au {f:Operand}{args:Array Operand}{ts:Array TypeId}{fid:FuncId}{fi ca:Array Value}{vs args':List Value}{post:Value->Mem->Prop}(c:Pur cx.P fid args' C post)(e_0:Z7 (Nat.ble k 1) false o.dst (some d) (gOn ds fr o.guard) true o.op (.call ⟨.value f,args,ts⟩) (ev fr [] f) (some (.func (.func fid) fi ca)) (ji (ev fr []) args.toList) (some vs) (fi.toList++vs++ca.toList) args')(hp:∀ v,aO n ds ((d,[],v)::fr) d=true)(h:∀ v C',C.le C'->post v C'->D cx R its ((d,[],v)::fr) C' L):D cx R ((i,k,o)::its) fr C L :=
  have ⟨hk,hd,hg,hop,hf,hargs,he⟩:=e_0;D.call c hk (.inl rfl) ⟨hd,hg,hop,hf,hargs,he⟩ (il L) hp (fun v C' L' hle ⟨e1,e2⟩=>by subst e1;exact h v C' hle e2)

theorem D.az {f:Operand}{args:Array Operand}{ts:Array TypeId}{fid:FuncId}{fi ca:Array Value}{vs args':List Value}{post:Value->Mem->Prop}(c:Pur cx.P fid args' C post)(h:∀ v C',C.le C'->post v C'->D cx R its ((d,[],v)::fr) C' L)(hk:Nat.ble k 1=false:=by rfl)(hd:o.dst=some d:=by rfl)(hg:gOn ds fr o.guard=true:=by rfl)(hop:o.op=.call ⟨.value f,args,ts⟩:=by rfl)(hf:ev fr [] f=some (.func (.func fid) fi ca):=by rfl)(hargs:ji (ev fr []) args.toList=some vs:=by rfl)(he:fi.toList++vs++ca.toList=args':=by rfl)(hp:∀ v,aO n ds ((d,[],v)::fr) d=true:=by intro _;rfl):D cx R ((i,k,o)::its) fr C L:=D.au c ⟨hk,hd,hg,hop,hf,hargs,he⟩ hp h
theorem D.ay {f:Operand}{args:Array Operand}{ts:Array TypeId}{fid:FuncId}{fi ca:Array Value}{vs args':List Value}(c:GT ds fr g->Gives cx.P fid args' C v)(e_0:Z9 k 1 o.dst (some d) (gOf ds fr o.guard) (some g) o.op (.call ⟨.value f,args,ts⟩) (ev fr g f) (some (.func (.func fid) fi ca)) (ji (ev fr g) args.toList) (some vs) (fi.toList++vs++ca.toList) args' (aO n ds ((d,g,v)::fr) d) true (wfG ds fr g) true)(h:D cx R its ((d,g,v)::fr) C L):D cx R ((i,k,o)::its) fr C L:=by
  have ⟨hk,hd,hg,hop,hf,hargs,he,hp,hwf⟩:=e_0;intro hC0;exact D.gH (by subst hk;rfl) hd hg hp hwf (fun hGT a hs κ' hκ w hw=>by
    unfold Oper.quietAt;rw [lM hop (hs _ _ hf) (dN (fun x y=>hs x y) hargs) he (c hGT).1 w];exact ⟨Z,(c hGT).quiet (hκ hk).1 hC0 hw⟩) h hC0

theorem D.aL {f:Operand}{args:Array Operand}{ts:Array TypeId}{fid:FuncId}{fi ca:Array Value}{vs args':List Value}(c:GT ds fr g->Gives cx.P fid args' C v)(h:D cx R its ((d,g,v)::fr) C L)(hk:k=1:=by rfl)(hd:o.dst=some d:=by rfl)(hg:gOf ds fr o.guard=some g:=by rfl)(hop:o.op=.call ⟨.value f,args,ts⟩:=by rfl)(hf:ev fr g f=some (.func (.func fid) fi ca):=by rfl)(hargs:ji (ev fr g) args.toList=some vs:=by rfl)(he:fi.toList++vs++ca.toList=args':=by rfl)(hp:aO n ds ((d,g,v)::fr) d=true:=by rfl)(hwf:wfG ds fr g=true:=by rfl):D cx R ((i,k,o)::its) fr C L:=D.ay c ⟨hk,hd,hg,hop,hf,hargs,he,hp,hwf⟩ h
theorem D.aj {f:Operand}{args:Array Operand}{ts:Array TypeId}{fid:FuncId}{fi ca:Array Value}{vs args':List Value}(c:Gives cx.P fid args' C v)(e_0:Z7 (Nat.ble k 1) false o.dst (some d) (gOn ds fr o.guard) true o.op (.call ⟨.value f,args,ts⟩) (ev fr [] f) (some (.func (.func fid) fi ca)) (ji (ev fr []) args.toList) (some vs) (fi.toList++vs++ca.toList) args')(hp:∀ v,aO n ds ((d,[],v)::fr) d=true)(h:D cx R its ((d,[],v)::fr) C L):D cx R ((i,k,o)::its) fr C L :=
  have ⟨hk,hd,hg,hop,hf,hargs,he⟩:=e_0;D.gF (S:=fun u C' L'=>u=v/\C'=C/\L'=L) hk hd hg hp (fun a hs w hC0 hw=>by
    unfold Oper.wp;rw [lM hop (hs _ _ hf) (dN (fun x y=>hs x y) hargs) he c.1 w];simp only [Oper.upon];refine (c.quiet (κ:=(C,L)) (Mem.le.refl _) hC0 hw).mono fun e w' ⟨e1,h1⟩=>?_;subst e1;exact ⟨v,C,L,Z,Mem.le.refl _,fun _ x hx=>hx,h1,Z,Z,Z⟩)
    (fun u C' L' _ ⟨e1,e2,e3⟩=>by subst e1;subst e2;subst e3;exact h)
theorem D.ag {f:Operand}{args:Array Operand}{ts:Array TypeId}{fid:FuncId}{fi ca:Array Value}{vs args':List Value}(c:Gives cx.P fid args' C v)(h:D cx R its ((d,[],v)::fr) C L)(hk:Nat.ble k 1=false:=by rfl)(hd:o.dst=some d:=by rfl)(hg:gOn ds fr o.guard=true:=by rfl)(hop:o.op=.call ⟨.value f,args,ts⟩:=by rfl)(hf:ev fr [] f=some (.func (.func fid) fi ca):=by rfl)(hargs:ji (ev fr []) args.toList=some vs:=by rfl)(he:fi.toList++vs++ca.toList=args':=by rfl)(hp:∀ v,aO n ds ((d,[],v)::fr) d=true:=by intro _;rfl):D cx R ((i,k,o)::its) fr C L:=D.aj c ⟨hk,hd,hg,hop,hf,hargs,he⟩ hp h
end

/-! ### Reading what was known at the region's start: in whatever class -/
section
variable {cx:Cx} {n:Nat} {ds:List (Option Nat)} {R:Rg n ds} {its:List It} {fr:Fr} {C:Mem} {L:List Ent} {i k d:Nat} {o:Oper} {g:GL} {v:Value}
theorem PtrTo.block {C:Mem}{b:Nat}{cs:List Value}{t:TypeId}{fz:Nat × Nat}(h:C b=some (.cells ⟨cs⟩ t fz))(off:Nat):PtrTo C (.pointer (some ⟨b,off,none⟩)) (cs.drop off) :=
  ⟨⟨b,off,none⟩,rfl,rfl,fun j v hj=>by
    rw [Addr.add_lit];exact ⟨Z,⟨cs⟩,t,fz,h,by simpa using hj⟩⟩
theorem D.Is {t:Nat}{x:Operand}{p:Value}{cs:List Value}{ti:TI}(hc:GT ds fr g->PtrTo R.b.C0 p cs)(hk:Nat.ble k 1=true)(hd:o.dst=some d)(hop:o.op=.load t x)(hg:gOf ds fr o.guard=some g)(hx:ev fr g x=some p)
    (ht:cx.T.get t=some ti) (hv:bR ti (cs.take ti.size)=some v) (hp:aO n ds ((d,g,v)::fr) d=true) (hwf:wfG ds fr g=true)
    (h:D cx R its ((d,g,v)::fr) C L):D cx R ((i,k,o)::its) fr C L :=
  D.gH hk hd hg hp hwf (fun hGT a hs κ' _ w hw=>by
    obtain ⟨ad,rfl,_,hcell⟩:=hc hGT;have hex:(execOp a.eval o).run cx.P w=.ok (.value v) w:=by
      have e1:execOp a.eval o=(do Pure.pure (.value (<- Instr.loadAt t (a.eval x))):Sem Next):=by unfold execOp;rw [hop]
      rw [e1,hs _ _ hx];simp only [Instr.loadAt,Instr.sureAddr,Sem.run_bind,Sem.run_pure,Result.andThen_ok];rw [eT cx.hT ht (fun j u hj=>by
        rw [Ly] at hj;split at hj
        · exact ((hcell j u hj).mono hw.c0).cell hw.sep
        · cases hj) hv]
      rfl
    unfold Oper.quietAt;rw [hex];exact ⟨Z,Z⟩) h
theorem D.am {t:Nat}{x:Operand}{p:Value}{cs:List Value}{ti:TI}(hc:GT ds fr g->PtrTo R.b.C0 p cs)(h:D cx R its ((d,g,v)::fr) C L)(hk:Nat.ble k 1=true:=by rfl)(hd:o.dst=some d:=by rfl)(hop:o.op=.load t x:=by rfl)(hg:gOf ds fr o.guard=some g:=by rfl)(hx:ev fr g x=some p:=by rfl)(ht:cx.T.get t=some ti:=by rfl)(hv:bR ti (cs.take ti.size)=some v:=by rfl)(hp:aO n ds ((d,g,v)::fr) d=true:=by rfl)(hwf:wfG ds fr g=true:=by rfl):D cx R ((i,k,o)::its) fr C L:=D.Is hc hk hd hop hg hx ht hv hp hwf h
end

/-! ### The rules for what is not guarded -/
section
variable {cx:Cx} {n:Nat} {ds:List (Option Nat)} {R:Rg n ds} {its:List It} {fr:Fr} {C:Mem} {L:List Ent} {i k d:Nat} {o:Oper} {v:Value}

theorem qS {ds:List (Option Nat)}{fr:Fr}{o:Oper}(h:o.guard=none):gOf ds fr o.guard=some []:=by rw [h];rfl

theorem D.ak {t e:Nat}{x y:Operand}{ki:IntKind}{m:Int}{s:Value}{ke:Nat}{xs:List (List Value)}{row:List Value}{ti te:TI}(hs:Sl C ke s xs)(e_0:Z10 (Nat.ble k 1) true o.dst (some d) o.op (.indexAddr t x y) o.guard none (ev fr [] x) (some s) (ev fr [] y) (some (.int ki m)) (cx.T.get t) (some ti) ti.k (.slice e) (cx.T.get e) (some te) te.size ke)(hm:0<=m)(hrow:xs[m.toNat]?=some row)(hp:∀ v,aO n ds ((d,[],v)::fr) d=true)(h:∀ p,PtrTo C p row->D cx R its ((d,[],p)::fr) C L):D cx R ((i,k,o)::its) fr C L :=
  have ⟨hk,hd,hop,hg,hx,hy,ht,hte,he,hsz⟩:=e_0;D.index ⟨hk,hd,hop,(qS hg),hx,hy,ht,hte,he,hsz⟩ (fun _=>⟨hs,hm,hrow⟩) hp rfl (fun p hp=>h p (hp trivial))

theorem D.di {t f ty off:Nat}{x:Operand}{p:Value}{cs:List Value}{ti te:TI}{fs:List (Nat × Nat)}(hc:PtrTo C p cs)(e_0:Z10 (Nat.ble k 1) true o.dst (some d) o.op (.fieldAddr t x f) o.guard none (ev fr [] x) (some p) (cx.T.get t) (some ti) ti.k (.struct fs) (fs[f]?) (some (ty,off)) (cx.T.get ty) (some te) (Nat.beq te.size 0) false)(hp:∀ v,aO n ds ((d,[],v)::fr) d=true)(h:∀ p',PtrTo C p' ((cs.drop off).take te.size)->D cx R its ((d,[],p')::fr) C L):D cx R ((i,k,o)::its) fr C L :=
  have ⟨hk,hd,hop,hg,hx,ht,hfs,hf,hte,hs0⟩:=e_0;D.gu ⟨hk,hd,hop,(qS hg),hx,ht,hfs,hf,hte,hs0⟩ (fun _=>hc) hp rfl (fun p hp=>h p (hp trivial))

theorem D.j6 {t:Nat}{x:Operand}{p:Value}{cs:List Value}{ti:TI}(hc:PtrTo C p cs)(e_0:Z6 k 1 o.dst (some d) o.op (.load t x) o.guard none (ev fr [] x) (some p) (cx.T.get t) (some ti))(hv:bR ti cs=some v)(hp:aO n ds ((d,[],v)::fr) d=true)(h:D cx R its ((d,[],v)::fr) C L):D cx R ((i,k,o)::its) fr C L :=
  have ⟨hk,hd,hop,hg,hx,ht⟩:=e_0;D.aN ⟨hk,hd,hop,(qS hg),hx,ht⟩ (fun _=>hc) ⟨hv,hp,rfl⟩ h
theorem D.aa {t:Nat}{x:Operand}{p:Value}{cs:List Value}{ti:TI}(hc:PtrTo C p cs)(h:D cx R its ((d,[],v)::fr) C L)(hk:k=1:=by rfl)(hd:o.dst=some d:=by rfl)(hop:o.op=.load t x:=by rfl)(hg:o.guard=none:=by rfl)(hx:ev fr [] x=some p:=by rfl)(ht:cx.T.get t=some ti:=by rfl)(hv:bR ti cs=some v:=by rfl)(hp:aO n ds ((d,[],v)::fr) d=true:=by rfl):D cx R ((i,k,o)::its) fr C L:=D.j6 hc ⟨hk,hd,hop,hg,hx,ht⟩ hv hp h
end

/-! ### Code -/
inductive KI where
  | code (c:Code)
  | blk (id:Nat)
  | inv (I:Act->World->Prop)

structure Fx where
  cx:Cx
  fn:Func
  n:Nat
  b:Bs
  post:Value->Mem->List Ent->Prop
  W:Cw cx.P
  dd:List Deferred
  last:Exit->Act->World->Prop

def lD (b:Bs)(post:Value->Mem->List Ent->Prop)(e:Ending)(w:World):Prop:=∃ v C' L',e=.returned v/\St b.w0 b.C0 b.L0 C' L' w/\post v C' L'
def Fx.fin (F:Fx):Ending->World->Prop:=lD F.b F.post
def Fx.ends (F:Fx):Prop:=(∀ e a w,bodyPost F.cx.P F.fn F.fin e a w->F.last e a w)/\F.dd=[]

def Kq (F:Fx):List KI->Exit->Act->World->Prop
  | []=>F.last
  | .code c::k=>fun e a w=>match e with
    | .normal=>F.W.wp c (Kq F k) a w
    | e=>Kq F k e a w
  | .blk id::k=>fun e a w=>match e with
    | .exit j=>if j=id then Kq F k .normal a w else Kq F k (.exit j) a w
    | e=>Kq F k e a w
  | .inv I::k=>fun e a w=>match e with
    | .normal=>I a w
    | e=>Kq F k e a w

theorem Fx.ends.kq {F:Fx}(he:F.ends){e:Exit}{a:Act}{w:World}(h:bodyPost F.cx.P F.fn F.fin e a w):Kq F [] e a w:=by
  exact he.1 _ _ _ h

def G (F:Fx)(k:List KI)(e:Exit)(fr:Fr)(C:Mem)(L:List Ent):Prop :=
  F.b.C0.le C->∀ a w,FrOk F.n [] F.dd fr a->F.b.cls (C,L) w->Kq F k e a w

section
variable {F:Fx} {k:List KI} {fr:Fr} {C:Mem} {L:List Ent}

theorem G.seq {x y:Code}(h:G F (.code x::.code y::k) .normal fr C L):G F (.code (.seq x y)::k) .normal fr C L:=fun h0 a w ha hw=>by
  simp only [Kq];refine F.W.seq (F.W.mono (fun e a w q=>?_) (h h0 a w ha hw));cases e <;> exact q
theorem G.block {id:Nat}{x:Code}(h:G F (.code x::.blk id::k) .normal fr C L):G F (.code (.block id x)::k) .normal fr C L:=fun h0 a w ha hw=>by
  simp only [Kq];refine F.W.block (F.W.mono (fun e a w q=>?_) (h h0 a w ha hw));cases e <;> exact q
theorem G.skip (h:G F k .normal fr C L):G F (.code .skip::k) .normal fr C L:=fun h0 a w ha hw=>F.W.skip (h h0 a w ha hw)
theorem G.ret (h:G F k .ret fr C L):G F (.code .ret::k) .normal fr C L:=fun h0 a w ha hw=>F.W.ret (h h0 a w ha hw)
theorem G.exit {id:Nat}(h:G F k (.exit id) fr C L):G F (.code (.exit id)::k) .normal fr C L:=fun h0 a w ha hw=>F.W.exit (h h0 a w ha hw)

theorem G.J4 {id:Nat}(h:G F k .normal fr C L):G F (.blk id::k) .normal fr C L:=fun h0 a w ha hw=>h h0 a w ha hw
theorem G.DP {id:Nat}(h:G F k .normal fr C L):G F (.blk id::k) (.exit id) fr C L:=fun h0 a w ha hw=>by
  simp only [Kq,Mb];exact h h0 a w ha hw
theorem G.pI {id j:Nat}(hne:Nat.beq j id=false)(h:G F k (.exit j) fr C L):G F (.blk id::k) (.exit j) fr C L:=fun h0 a w ha hw=>by
  have:j≠id:=fun e=>by subst e;rw [NQ] at hne;cases hne
  simp only [Kq,a7 this];exact h h0 a w ha hw
theorem G.FQ {id:Nat}(h:G F k .ret fr C L):G F (.blk id::k) .ret fr C L:=fun h0 a w ha hw=>h h0 a w ha hw
theorem G.DM {c:Code}(h:G F k .ret fr C L):G F (.code c::k) .ret fr C L:=fun h0 a w ha hw=>h h0 a w ha hw
theorem G.pH {c:Code}{j:Nat}(h:G F k (.exit j) fr C L):G F (.code c::k) (.exit j) fr C L:=fun h0 a w ha hw=>h h0 a w ha hw
theorem G.FP {I:Act->World->Prop}(h:G F k .ret fr C L):G F (.inv I::k) .ret fr C L:=fun h0 a w ha hw=>h h0 a w ha hw
theorem G.DI {I:Act->World->Prop}{j:Nat}(h:G F k (.exit j) fr C L):G F (.inv I::k) (.exit j) fr C L:=fun h0 a w ha hw=>h h0 a w ha hw

def exK (id:Nat):List KI->Option (List KI)
  | []=>none
  | .blk j::k=>bif Nat.beq j id then some k else exK id k
  | .code _::k=>exK id k
  | .inv _::k=>exK id k

def eA:Nat->List KI->List KI
  | 0,k=>k
  | _,[]=>[]
  | f+1,.blk _::k=>eA f k
  | _+1,.inv I::k=>.inv I::k
  | f+1,.code c::k=>match c with
    | .seq a b=>eA f (.code a::.code b::k)
    | .block id c=>eA f (.code c::.blk id::k)
    | .skip=>eA f k
    | .exit id=>match exK id k with
      | some k'=>eA f k'
      | none=>.code c::k
    | _=>.code c::k

theorem G.xJ {id:Nat}:∀ {k k':List KI},exK id k=some k'->G F k' .normal fr C L->G F k (.exit id) fr C L
  | .blk j::k,k',he,h=>by
    simp only [exK] at he;cases hb:Nat.beq j id with
    | true =>
      rw [hb] at he;simp only [Mm,zl] at he;subst he;obtain rfl:=fB hb;exact G.DP h
    | false =>
      rw [hb] at he;refine G.pI (F:=F) ?_ (G.xJ he h);cases hx:Nat.beq id j with
      | false=>rfl
      | true=>rw [fB hx,NQ] at hb;cases hb
  | .code _::k,k',he,h=>G.pH (G.xJ (k:=k) he h)
  | .inv _::k,k',he,h=>G.DI (G.xJ (k:=k) he h)

theorem G.bQ:∀ (f:Nat){k:List KI},G F (eA f k) .normal fr C L->G F k .normal fr C L
  | 0,_,h=>h
  | _+1,[],h=>h
  | f+1,.blk _::k,h=>G.J4 (G.bQ f h)
  | _+1,.inv _::_,h=>h
  | f+1,.code c::k,h=>by
    cases c <;> simp only [eA] at h <;> try exact h
    case skip=>exact G.skip (G.bQ f h)
    case seq a b=>exact G.seq (G.bQ f h)
    case block id c=>exact G.block (G.bQ f h)
    case exit id =>
      split at h
      · rename_i k' he;exact G.exit (G.xJ he (G.bQ f h))
      · exact h

theorem G.xG:∀ {k:List KI},G F [] .ret fr C L->G F k .ret fr C L
  | [],h=>h
  | .code _::_,h=>G.DM (G.xG h)
  | .blk _::_,h=>G.FQ (G.xG h)
  | .inv _::_,h=>G.FP (G.xG h)
theorem G.aB {k:List KI}(h:G F [] .ret fr C L):G F (.code .ret::k) .normal fr C L:=G.ret (G.xG h)

theorem G.cond {c:Operand}{x y:Code}{b:Bool}(hc:ev fr [] c=some (.bool b))(ht:b=true->G F (eA 64 (.code x::k)) .normal fr C L)(hf:b=false->G F (eA 64 (.code y::k)) .normal fr C L) :
    G F (.code (.cond c x y)::k) .normal fr C L:=fun h0 a w ha hw=>by
  simp only [Kq];exact F.W.cond (bd ha (fun p hp=>by cases hp) hc) (fun h=>G.bQ 64 (ht h) h0 a w ha hw) (fun h=>G.bQ 64 (hf h) h0 a w ha hw)

theorem G.cd {c:Operand}{x y:Code}{b:Bool}(ht:b=true->G F (eA 64 (.code x::k)) .normal fr C L)(hf:b=false->G F (eA 64 (.code y::k)) .normal fr C L)(hc:ev fr [] c=some (.bool b):=by rfl):G F (.code (.cond c x y)::k) .normal fr C L:=G.cond hc ht hf
def subF (fr fr':Fr):Prop:=∀ s g v,fr'.get s=some (g,v)->fr.get s=some (g,v)
theorem FrOk.weaken {n:Nat}{ds:List (Option Nat)}{fr fr':Fr}{a:Act}{dd:List Deferred}(h:FrOk n ds dd fr a)(hs:subF fr fr'):FrOk n ds dd fr' a :=
  ⟨h.size,h.defers,fun s g v hg=>h.ent s g v (hs s g v hg)⟩

def Has (fr:Fr):List (Nat × GL × Value)->Prop
  | []=>True
  | (s,g,v)::r=>fr.get s=some (g,v)/\Has fr r
theorem Has.sub {fr:Fr}:∀ {fr':Fr},Has fr fr'->subF fr fr'
  | [],_,s,g,v,h=>by simp [Fr.get] at h
  | (t,g',v')::r,hh,s,g,v,h=>by
    simp only [Fr.get] at h;cases hb:Nat.beq t s with
    | true =>
      rw [hb] at h;simp only [Mm,zl,Na] at h;obtain ⟨rfl,rfl⟩:=h;rw [<- fB hb];exact hh.1
    | false =>
      rw [hb] at h;exact Has.sub hh.2 s g v h

theorem G.perm {e:Exit}(L':List Ent)(hp:L.Perm L')(h:G F k e fr C L'):G F k e fr C L:=fun h0 a w ha hw=>h h0 a w ha (St.perm hw hp)
theorem G.eF {e:Exit}(j:Nat){x:Ent}(hj:L[j]?=some x)(h:G F k e fr C (L.eraseIdx j)):G F k e fr C L:=fun h0 a w ha hw=>h h0 a w ha (St.drop (St.perm hw (aC hj)))
theorem St.dropAll {w0:World}{C0:Mem}{L0:List Ent}{C:Mem}{w:World}:∀ {L:List Ent},St w0 C0 L0 C L w->St w0 C0 L0 C [] w
  | [],h=>h
  | _::_,h=>St.dropAll h.drop
theorem G.dropAll {e:Exit}(h:G F k e fr C []):G F k e fr C L:=fun h0 a w ha hw=>h h0 a w ha (St.dropAll hw)

theorem BH {p:Nat->Prop}:∀ m,p m->∃ m0,p m0/\∀ m',p m'->m0<=m':=by
  intro m;induction m using Nat.strongRecOn with
  | _ m ih =>
    intro hm;by_cases h:∃ m',m'<m/\p m'
    · obtain ⟨m',hlt,hp⟩:=h;exact ih m' hlt hp
    · exact ⟨m,hm,fun m' hp=>Nat.le_of_not_lt (fun hlt=>h ⟨m',hlt,hp⟩)⟩

theorem oz {P:Program}(W:Cw P){c:Code}{Q:Exit->Act->World->Prop}{a:Act}{w:World}(J:Nat->Act->World->Prop){m:Nat}(h0:J m a w)
    (hr:∀ m a w,J m a w->W.wp c (Exit.then (fun a' w'=>∃ m',m'<m/\J m' a' w') Q) a w):W.wp (Code.loop c) Q a w:=by
  classical
  refine W.loop (fun a w=>∃ m,J m a w) (fun a w=>if h:∃ m,J m a w then Classical.choose (BH (p:=fun m=>J m a w) _ (Nv h)) else 0) ⟨m,h0⟩ ?_;intro a w hI;have hs:=Nv (BH (p:=fun m=>J m a w) _ (Nv hI));refine W.mono (fun e a' w' q=>?_) (hr _ a w hs.1);cases e <;> try exact q
  obtain ⟨m',hlt,hJ⟩:=q;have hI':∃ m,J m a' w':=⟨m',hJ⟩;refine ⟨hI', ?_⟩;rw [dif_pos hI',dif_pos hI];exact DS ((Nv (BH (p:=fun m=>J m a' w') _ (Nv hI'))).2 m' hJ) hlt

def IA (F:Fx)(I:Fr->Mem->List Ent->Nat->Prop)(C:Mem)(m:Nat)(a:Act)(w:World):Prop :=
  ∃ fr C' L',C.le C'/\I fr C' L' m/\FrOk F.n [] F.dd fr a/\F.b.cls (C',L') w

theorem G.loop {c:Code}(I:Fr->Mem->List Ent->Nat->Prop){m:Nat}{fr':Fr}(hs:Has fr fr')(hI:I fr' C L m)
    (hr:∀ fr C' L' m,C.le C'->I fr C' L' m->G F (eA 64 (.code c::.inv (fun a w=>∃ m',m'<m/\IA F I C m' a w)::k)) .normal fr C' L'):G F (.code (.loop c)::k) .normal fr C L:=fun h0 a w ha hw=>by
  simp only [Kq];refine oz F.W (IA F I C) ⟨fr',C,L,Mem.le.refl _,hI,ha.weaken hs.sub,hw⟩ (fun m a w ⟨fr1,C1,L1,hle,hI1,ha1,hw1⟩=>?_);refine F.W.mono (fun e a w q=>?_) (G.bQ 64 (hr fr1 C1 L1 m hle hI1) (h0.trans hle) a w ha1 hw1);cases e <;> exact q

theorem G.ax {I:Fr->Mem->List Ent->Nat->Prop}{C0:Mem}{m m':Nat}{fr':Fr}(hlt:m'<m)(hle:C0.le C)(hs:Has fr fr')(hI:I fr' C L m') :
    G F (.inv (fun a w=>∃ m',m'<m/\IA F I C0 m' a w)::k) .normal fr C L:=fun _ _a _w ha hw =>
  ⟨m',hlt,fr',C,L,hle,hI,ha.weaken hs.sub,hw⟩

theorem G.cut {c:Code}(I:Fr->Mem->List Ent->Nat->Prop)(h1:G F (eA 64 (.code c::.inv (fun a w=>∃ m,IA F I C m a w)::k)) .normal fr C L)
    (h2:∀ fr C' L' m,C.le C'->I fr C' L' m->G F (eA 64 k) .normal fr C' L'):G F (.code c::k) .normal fr C L:=fun h0 a w ha hw=>by
  simp only [Kq];refine F.W.mono (fun e a w q=>?_) (G.bQ 64 h1 h0 a w ha hw);cases e <;> try exact q
  obtain ⟨m,fr1,C1,L1,hle,hI,ha1,hw1⟩:=q;exact G.bQ 64 (h2 fr1 C1 L1 m hle hI) (h0.trans hle) a w ha1 hw1
theorem G.aK {I:Fr->Mem->List Ent->Nat->Prop}{C0:Mem}{fr':Fr}(m:Nat)(hle:C0.le C)(hs:Has fr fr')(hI:I fr' C L m) :
    G F (.inv (fun a w=>∃ m,IA F I C0 m a w)::k) .normal fr C L:=fun _ _a _w ha hw=>⟨m,fr',C,L,hle,hI,ha.weaken hs.sub,hw⟩

/-! ### Regions -/
def dx (o:Oper):Nat:=match o.op with
  | .load .. | .lookup .. | .entry ..=>1
  | .alloc .. | .box .. | .buildSlice .. | .makeMap .. | .makeSlice .. | .convert ..=>2
  | .store .. | .mapUpdate .. | .mapEntry .. | .entryStore .. | .insert .. | .next .. | .range ..=>3
  | .call c=>match c.callee with
    | .value _=>match o.guard with | none=>2 | some _=>1
    | .invoke ..=>3
    | .builtin b=>match b with | .len | .cap | .max | .min=>0 | _=>3
  | _=>0

def ovr:List (Nat × Nat)->Nat->Nat->Nat
  | [],_,d=>d
  | (j,k)::r,i,d=>bif Nat.beq j i then k else ovr r i d

def dP:List Oper->Nat->Oper
  | [],_=>default
  | o::_,0=>o
  | _::r,i+1=>dP r i

theorem dR:∀ {l:List Oper}{i:Nat},i<l.length->l[i]?=some (dP l i)
  | [],i,h=>by simp at h
  | o::l,0,_=>rfl
  | o::l,i+1,h=>by simpa [dP] using dR (l:=l) (i:=i) (by simpa using h)

def db (l:List Oper)(ov:List (Nat × Nat)):List Nat->List It
  | []=>[]
  | i::π=>(i,ovr ov i (dx (dP l i)),dP l i)::db l ov π

theorem cM (l:List Oper)(ov:List (Nat × Nat)):∀ π:List Nat,(db l ov π).map (·.1)=π
  | []=>rfl
  | i::π=>by simp [db,cM l ov π]
theorem fO {l:List Oper}{ov:List (Nat × Nat)}:∀ {π:List Nat}{x:It},x∈db l ov π->x.1∈π/\x.2.1=ovr ov x.1 (dx (dP l x.1))/\x.2.2=dP l x.1
  | [],x,h=>by simp [db] at h
  | i::π,x,h=>by
    simp only [db,cI] at h;rcases h with rfl | h
    · exact ⟨by simp,rfl,rfl⟩
    · have:=fO h;exact ⟨by simp [this.1],this.2⟩

def bO:Nat->Nat->List Nat
  | 0,_=>[]
  | n+1,i=>i::bO n (i+1)
theorem eV:∀ n i,bO n i=List.range' i n
  | 0,_=>rfl
  | n+1,i=>by simp [bO,eV n,Ox]

def qK:List Oper->Nat
  | []=>0
  | _::r=>qK r+1
theorem mY:∀ l,qK l=l.length
  | []=>rfl
  | _::r=>by simp [qK,mY r]

theorem FrOk.enter {n:Nat}{fr:Fr}{a:Act}{dd:List Deferred}(h:FrOk n [] dd fr a)(ds:List (Option Nat))(hp:fr.all (fun x=>x.2.1.isEmpty)=true):FrOk n ds dd fr a :=
  ⟨h.size,h.defers,fun s g v hg=>by
    have hm:=ep.1 hp _ (Fr.get_mem hg);simp only [MH] at hm;subst hm;exact ⟨fun _=>(h.ent s [] v hg).1 (fun p hp=>by cases hp),fun hn=>absurd (fun p hp=>by cases hp) hn⟩⟩

theorem G.region {id:Nat}{l:List Oper}(hp:fr.all (fun x=>x.2.1.isEmpty)=true)
    (h:∀ R:Rg F.n (l.map (·.dst)),(∀ fr C L,fr.all (fun x=>x.2.1.isEmpty)=true->G F (eA 64 k) .normal fr C L->D F.cx R [] fr C L)->D F.cx R (db l [] (bO (qK l) 0)) fr C L) (hnd:F.W.nd l.toArray:=by first | exact trivial | exact rfl) :
    G F (.code (.region id l.toArray false)::k) .normal fr C L:=fun h0 a w ha hw=>by
  simp only [Kq]
  let kd:=fun i=>dx (dP l i)
  let Post:Act->Mem × List Ent->Prop:=fun a κ=>∀ w,F.b.cls κ w->Kq F k .normal a w
  let R:Rg F.n (l.map (·.dst)):=⟨F.b,l.toArray,kd,Post,fun tmps=>cj l tmps,F.dd⟩
  have hD:=h R (fun fr C L hp hG h0 _ a ha w hw=>G.bQ 64 hG h0 a w ⟨ha.size,ha.defers,fun s g v hg=>by
    have hm:=ep.1 hp _ (Fr.get_mem hg);simp only [MH] at hm;subst hm;exact ⟨fun _=>(ha.ent s [] v hg).1 (fun p hp=>by cases hp),fun hn=>absurd (fun p hp=>by cases hp) hn⟩⟩ hw) h0 (fun x hx=>by
      obtain ⟨h1,h2,h3⟩:=fO hx;refine ⟨h2.symm, ?_⟩;rw [eV,List.mem_range'_1,mY] at h1;show (l.toArray)[x.1]?=_;rw [LB,dR om_,h3]) a (ha.enter _ hp)
  rw [cM,eV,mY] at hD;refine jt F.W hnd (cls:=F.b.cls) (le:=kle) kle.refl hw (κ:=(C,L)) (kd:=kd) (Post:=Post) ?_ (fun a κ w hP hw=>hP w hw);rw [NW];simpa using hD

theorem G.rg {id:Nat}{l:List Oper}(h:∀ R:Rg F.n (l.map (·.dst)),(∀ fr C L,fr.all (fun x=>x.2.1.isEmpty)=true->G F (eA 64 k) .normal fr C L->D F.cx R [] fr C L)->D F.cx R (db l [] (bO (qK l) 0)) fr C L)(hnd:F.W.nd l.toArray:=by first | exact trivial | exact rfl)(hp:fr.all (fun x=>x.2.1.isEmpty)=true:=by rfl):G F (.code (.region id l.toArray false)::k) .normal fr C L:=G.region hp h hnd
theorem St.rebase {w0:World}{C0:Mem}{L0:List Ent}{C:Mem}{L:List Ent}{w:World}(h:St w0 C0 L0 C L w):St w0 C L0 C L w:=⟨h.sep,h.ev,Mem.le.refl _,fun _ _ hk=>.inl hk,h.ln⟩
theorem St.unbase {w0:World}{C0:Mem}{L0:List Ent}{C C':Mem}{L':List Ent}{w':World}(h0:C0.le C)(hcn:∀ k o,C k=some o->C0 k=some o∨w0.heap.size<=k∨nZ L0 k)(h:St w0 C L0 C' L' w'):St w0 C0 L0 C' L' w' :=
  ⟨h.sep,h.ev,h0.trans h.c0,fun k o hk=>(h.cn k o hk).elim (hcn k o) (fun h=>.inr h),h.ln⟩

theorem G.aG {id:Nat}{l:List Oper}(π:List Nat)(ov:List (Nat × Nat))(hp:fr.all (fun x=>x.2.1.isEmpty)=true)
    (hB:(Region.noSelect l.toArray && (π.length == l.toArray.size) && Iz .any l.toArray (fun i=>ovr ov i (dx (dP l i))) π (Array.replicate l.toArray.size false) && π.all (fun i=>Nat.blt i l.length))=true)
    (h:∀ R:Rg F.n (l.map (·.dst)),C.le R.b.C0->(∀ fr C L,fr.all (fun x=>x.2.1.isEmpty)=true->G F (eA 64 k) .normal fr C L->D F.cx R [] fr C L)->D F.cx R (db l ov π) fr C L) (hnd:F.W.nd l.toArray:=by first | exact trivial | exact rfl) :
    G F (.code (.region id l.toArray true)::k) .normal fr C L:=fun h0 a w ha hw=>by
  simp only [Kq];rw [bL] at hB
  let kd:=fun i=>ovr ov i (dx (dP l i))
  let b:Bs:=⟨F.b.w0,C,F.b.L0⟩
  let Post:Act->Mem × List Ent->Prop:=fun a κ=>∀ w,b.cls κ w->Kq F k .normal a w
  let R:Rg F.n (l.map (·.dst)):=⟨b,l.toArray,kd,Post,fun tmps=>cj l tmps,F.dd⟩
  have un:∀ κ w,b.cls κ w->F.b.cls κ w:=fun κ w hc=>St.unbase h0 hw.cn hc;have hD:=h R (Mem.le.refl _) (fun fr C' L hp hG h0' _ a ha w hw=>G.bQ 64 hG (h0.trans h0') a w ⟨ha.size,ha.defers,fun s g v hg=>by
    have hm:=ep.1 hp _ (Fr.get_mem hg);simp only [MH] at hm;subst hm;exact ⟨fun _=>(ha.ent s [] v hg).1 (fun p hp=>by cases hp),fun hn=>absurd (fun p hp=>by cases hp) hn⟩⟩ (un _ _ hw)) (Mem.le.refl _) (fun x hx=>by
      obtain ⟨h1,h2,h3⟩:=fO hx;refine ⟨h2.symm, ?_⟩;have hlt:=ep.1 hB.2 x.1 h1;rw [NA] at hlt;show (l.toArray)[x.1]?=_;rw [LB,dR hlt,h3]) a (ha.enter _ hp)
  rw [cM] at hD;exact pR F.W hnd (cls:=b.cls) (le:=kle) kle.refl kle.trans F.cx.mixed (St.rebase (St.drew hw)) π hB.1 hD (fun a κ w hP hw=>hP w hw)

theorem G.aY {id:Nat}{l:List Oper}(ov:List (Nat × Nat))(hp:fr.all (fun x=>x.2.1.isEmpty)=true)
    (h:∀ R:Rg F.n (l.map (·.dst)),(∀ fr C L,fr.all (fun x=>x.2.1.isEmpty)=true->G F (eA 64 k) .normal fr C L->D F.cx R [] fr C L)->D F.cx R (db l ov (bO (qK l) 0)) fr C L) (hnd:F.W.nd l.toArray:=by first | exact trivial | exact rfl) :
    G F (.code (.region id l.toArray false)::k) .normal fr C L:=fun h0 a w ha hw=>by
  simp only [Kq]
  let kd:=fun i=>ovr ov i (dx (dP l i))
  let Post:Act->Mem × List Ent->Prop:=fun a κ=>∀ w,F.b.cls κ w->Kq F k .normal a w
  let R:Rg F.n (l.map (·.dst)):=⟨F.b,l.toArray,kd,Post,fun tmps=>cj l tmps,F.dd⟩
  have hD:=h R (fun fr C L hp hG h0 _ a ha w hw=>G.bQ 64 hG h0 a w ⟨ha.size,ha.defers,fun s g v hg=>by
    have hm:=ep.1 hp _ (Fr.get_mem hg);simp only [MH] at hm;subst hm;exact ⟨fun _=>(ha.ent s [] v hg).1 (fun p hp=>by cases hp),fun hn=>absurd (fun p hp=>by cases hp) hn⟩⟩ hw) h0 (fun x hx=>by
      obtain ⟨h1,h2,h3⟩:=fO hx;refine ⟨h2.symm, ?_⟩;rw [eV,List.mem_range'_1,mY] at h1;show (l.toArray)[x.1]?=_;rw [LB,dR om_,h3]) a (ha.enter _ hp)
  rw [cM,eV,mY] at hD;refine jt F.W hnd (cls:=F.b.cls) (le:=kle) kle.refl hw (κ:=(C,L)) (kd:=kd) (Post:=Post) ?_ (fun a κ w hP hw=>hP w hw);rw [NW];simpa using hD

theorem D.bA {n:Nat}{ds:List (Option Nat)}{R:Rg n ds}{cx:Cx}(fr':Fr)(hs:Has fr fr')(h:D cx R [] fr' C L):D cx R [] fr C L:=fun h0 hits a ha=>h h0 hits a (ha.weaken hs.sub)

theorem D.dn {n:Nat}{ds:List (Option Nat)}{R:Rg n ds}{cx:Cx}{fr:Fr}{C:Mem}{L:List Ent}{P:Fr->Mem->List Ent->Prop}(fr':Fr)(hR:∀ fr C L,fr.all (fun x=>x.2.1.isEmpty)=true->P fr C L->D cx R [] fr C L)(h:P fr' C L)(hs:Has fr fr':=by (repeat (first | exact trivial | refine ⟨rfl, ?_⟩)))(hr:fr'.all (fun x=>x.2.1.isEmpty)=true:=by rfl):D cx R [] fr C L:=D.bA fr' hs (hR _ _ _ hr h)
theorem D.Iu {n:Nat}{ds:List (Option Nat)}{R:Rg n ds}{cx:Cx}{fr:Fr}{C:Mem}{L:List Ent}{P:Fr->Mem->List Ent->Prop}(k0 k1 k2 k3 k4 k5 k6 k7 k8 k9 k10 k11 k12 k13:Nat){v0 v1 v2 v3 v4 v5 v6 v7 v8 v9 v10 v11 v12 v13:Value}(hR:∀ fr C L,fr.all (fun x=>x.2.1.isEmpty)=true->P fr C L->D cx R [] fr C L)(h:P [(k0,[],v0),(k1,[],v1),(k2,[],v2),(k3,[],v3),(k4,[],v4),(k5,[],v5),(k6,[],v6),(k7,[],v7),(k8,[],v8),(k9,[],v9),(k10,[],v10),(k11,[],v11),(k12,[],v12),(k13,[],v13)] C L)(hs:Has fr [(k0,[],v0),(k1,[],v1),(k2,[],v2),(k3,[],v3),(k4,[],v4),(k5,[],v5),(k6,[],v6),(k7,[],v7),(k8,[],v8),(k9,[],v9),(k10,[],v10),(k11,[],v11),(k12,[],v12),(k13,[],v13)]:=by (repeat (first | exact trivial | refine ⟨rfl, ?_⟩))):D cx R [] fr C L:=D.bA [(k0,[],v0),(k1,[],v1),(k2,[],v2),(k3,[],v3),(k4,[],v4),(k5,[],v5),(k6,[],v6),(k7,[],v7),(k8,[],v8),(k9,[],v9),(k10,[],v10),(k11,[],v11),(k12,[],v12),(k13,[],v13)] hs (hR _ _ _ rfl h)
theorem D.e13 {n:Nat}{ds:List (Option Nat)}{R:Rg n ds}{cx:Cx}{fr:Fr}{C:Mem}{L:List Ent}{P:Fr->Mem->List Ent->Prop}(k0 k1 k2 k3 k4 k5 k6 k7 k8 k9 k10 k11 k12:Nat){v0 v1 v2 v3 v4 v5 v6 v7 v8 v9 v10 v11 v12:Value}(hR:∀ fr C L,fr.all (fun x=>x.2.1.isEmpty)=true->P fr C L->D cx R [] fr C L)(h:P [(k0,[],v0),(k1,[],v1),(k2,[],v2),(k3,[],v3),(k4,[],v4),(k5,[],v5),(k6,[],v6),(k7,[],v7),(k8,[],v8),(k9,[],v9),(k10,[],v10),(k11,[],v11),(k12,[],v12)] C L)(hs:Has fr [(k0,[],v0),(k1,[],v1),(k2,[],v2),(k3,[],v3),(k4,[],v4),(k5,[],v5),(k6,[],v6),(k7,[],v7),(k8,[],v8),(k9,[],v9),(k10,[],v10),(k11,[],v11),(k12,[],v12)]:=by (repeat (first | exact trivial | refine ⟨rfl, ?_⟩))):D cx R [] fr C L:=D.bA [(k0,[],v0),(k1,[],v1),(k2,[],v2),(k3,[],v3),(k4,[],v4),(k5,[],v5),(k6,[],v6),(k7,[],v7),(k8,[],v8),(k9,[],v9),(k10,[],v10),(k11,[],v11),(k12,[],v12)] hs (hR _ _ _ rfl h)
theorem D.e12 {n:Nat}{ds:List (Option Nat)}{R:Rg n ds}{cx:Cx}{fr:Fr}{C:Mem}{L:List Ent}{P:Fr->Mem->List Ent->Prop}(k0 k1 k2 k3 k4 k5 k6 k7 k8 k9 k10 k11:Nat){v0 v1 v2 v3 v4 v5 v6 v7 v8 v9 v10 v11:Value}(hR:∀ fr C L,fr.all (fun x=>x.2.1.isEmpty)=true->P fr C L->D cx R [] fr C L)(h:P [(k0,[],v0),(k1,[],v1),(k2,[],v2),(k3,[],v3),(k4,[],v4),(k5,[],v5),(k6,[],v6),(k7,[],v7),(k8,[],v8),(k9,[],v9),(k10,[],v10),(k11,[],v11)] C L)(hs:Has fr [(k0,[],v0),(k1,[],v1),(k2,[],v2),(k3,[],v3),(k4,[],v4),(k5,[],v5),(k6,[],v6),(k7,[],v7),(k8,[],v8),(k9,[],v9),(k10,[],v10),(k11,[],v11)]:=by (repeat (first | exact trivial | refine ⟨rfl, ?_⟩))):D cx R [] fr C L:=D.bA [(k0,[],v0),(k1,[],v1),(k2,[],v2),(k3,[],v3),(k4,[],v4),(k5,[],v5),(k6,[],v6),(k7,[],v7),(k8,[],v8),(k9,[],v9),(k10,[],v10),(k11,[],v11)] hs (hR _ _ _ rfl h)
theorem D.nX {n:Nat}{ds:List (Option Nat)}{R:Rg n ds}{cx:Cx}{fr:Fr}{C:Mem}{L:List Ent}{P:Fr->Mem->List Ent->Prop}(k0 k1 k2 k3 k4 k5 k6 k7 k8 k9 k10:Nat){v0 v1 v2 v3 v4 v5 v6 v7 v8 v9 v10:Value}(hR:∀ fr C L,fr.all (fun x=>x.2.1.isEmpty)=true->P fr C L->D cx R [] fr C L)(h:P [(k0,[],v0),(k1,[],v1),(k2,[],v2),(k3,[],v3),(k4,[],v4),(k5,[],v5),(k6,[],v6),(k7,[],v7),(k8,[],v8),(k9,[],v9),(k10,[],v10)] C L)(hs:Has fr [(k0,[],v0),(k1,[],v1),(k2,[],v2),(k3,[],v3),(k4,[],v4),(k5,[],v5),(k6,[],v6),(k7,[],v7),(k8,[],v8),(k9,[],v9),(k10,[],v10)]:=by (repeat (first | exact trivial | refine ⟨rfl, ?_⟩))):D cx R [] fr C L:=D.bA [(k0,[],v0),(k1,[],v1),(k2,[],v2),(k3,[],v3),(k4,[],v4),(k5,[],v5),(k6,[],v6),(k7,[],v7),(k8,[],v8),(k9,[],v9),(k10,[],v10)] hs (hR _ _ _ rfl h)
theorem D.vv {n:Nat}{ds:List (Option Nat)}{R:Rg n ds}{cx:Cx}{fr:Fr}{C:Mem}{L:List Ent}{P:Fr->Mem->List Ent->Prop}(k0 k1 k2 k3 k4 k5 k6 k7 k8 k9:Nat){v0 v1 v2 v3 v4 v5 v6 v7 v8 v9:Value}(hR:∀ fr C L,fr.all (fun x=>x.2.1.isEmpty)=true->P fr C L->D cx R [] fr C L)(h:P [(k0,[],v0),(k1,[],v1),(k2,[],v2),(k3,[],v3),(k4,[],v4),(k5,[],v5),(k6,[],v6),(k7,[],v7),(k8,[],v8),(k9,[],v9)] C L)(hs:Has fr [(k0,[],v0),(k1,[],v1),(k2,[],v2),(k3,[],v3),(k4,[],v4),(k5,[],v5),(k6,[],v6),(k7,[],v7),(k8,[],v8),(k9,[],v9)]:=by (repeat (first | exact trivial | refine ⟨rfl, ?_⟩))):D cx R [] fr C L:=D.bA [(k0,[],v0),(k1,[],v1),(k2,[],v2),(k3,[],v3),(k4,[],v4),(k5,[],v5),(k6,[],v6),(k7,[],v7),(k8,[],v8),(k9,[],v9)] hs (hR _ _ _ rfl h)
theorem D.e9 {n:Nat}{ds:List (Option Nat)}{R:Rg n ds}{cx:Cx}{fr:Fr}{C:Mem}{L:List Ent}{P:Fr->Mem->List Ent->Prop}(k0 k1 k2 k3 k4 k5 k6 k7 k8:Nat){v0 v1 v2 v3 v4 v5 v6 v7 v8:Value}(hR:∀ fr C L,fr.all (fun x=>x.2.1.isEmpty)=true->P fr C L->D cx R [] fr C L)(h:P [(k0,[],v0),(k1,[],v1),(k2,[],v2),(k3,[],v3),(k4,[],v4),(k5,[],v5),(k6,[],v6),(k7,[],v7),(k8,[],v8)] C L)(hs:Has fr [(k0,[],v0),(k1,[],v1),(k2,[],v2),(k3,[],v3),(k4,[],v4),(k5,[],v5),(k6,[],v6),(k7,[],v7),(k8,[],v8)]:=by (repeat (first | exact trivial | refine ⟨rfl, ?_⟩))):D cx R [] fr C L:=D.bA [(k0,[],v0),(k1,[],v1),(k2,[],v2),(k3,[],v3),(k4,[],v4),(k5,[],v5),(k6,[],v6),(k7,[],v7),(k8,[],v8)] hs (hR _ _ _ rfl h)
theorem D.e8 {n:Nat}{ds:List (Option Nat)}{R:Rg n ds}{cx:Cx}{fr:Fr}{C:Mem}{L:List Ent}{P:Fr->Mem->List Ent->Prop}(k0 k1 k2 k3 k4 k5 k6 k7:Nat){v0 v1 v2 v3 v4 v5 v6 v7:Value}(hR:∀ fr C L,fr.all (fun x=>x.2.1.isEmpty)=true->P fr C L->D cx R [] fr C L)(h:P [(k0,[],v0),(k1,[],v1),(k2,[],v2),(k3,[],v3),(k4,[],v4),(k5,[],v5),(k6,[],v6),(k7,[],v7)] C L)(hs:Has fr [(k0,[],v0),(k1,[],v1),(k2,[],v2),(k3,[],v3),(k4,[],v4),(k5,[],v5),(k6,[],v6),(k7,[],v7)]:=by (repeat (first | exact trivial | refine ⟨rfl, ?_⟩))):D cx R [] fr C L:=D.bA [(k0,[],v0),(k1,[],v1),(k2,[],v2),(k3,[],v3),(k4,[],v4),(k5,[],v5),(k6,[],v6),(k7,[],v7)] hs (hR _ _ _ rfl h)
theorem D.e7 {n:Nat}{ds:List (Option Nat)}{R:Rg n ds}{cx:Cx}{fr:Fr}{C:Mem}{L:List Ent}{P:Fr->Mem->List Ent->Prop}(k0 k1 k2 k3 k4 k5 k6:Nat){v0 v1 v2 v3 v4 v5 v6:Value}(hR:∀ fr C L,fr.all (fun x=>x.2.1.isEmpty)=true->P fr C L->D cx R [] fr C L)(h:P [(k0,[],v0),(k1,[],v1),(k2,[],v2),(k3,[],v3),(k4,[],v4),(k5,[],v5),(k6,[],v6)] C L)(hs:Has fr [(k0,[],v0),(k1,[],v1),(k2,[],v2),(k3,[],v3),(k4,[],v4),(k5,[],v5),(k6,[],v6)]:=by (repeat (first | exact trivial | refine ⟨rfl, ?_⟩))):D cx R [] fr C L:=D.bA [(k0,[],v0),(k1,[],v1),(k2,[],v2),(k3,[],v3),(k4,[],v4),(k5,[],v5),(k6,[],v6)] hs (hR _ _ _ rfl h)
theorem D.e6 {n:Nat}{ds:List (Option Nat)}{R:Rg n ds}{cx:Cx}{fr:Fr}{C:Mem}{L:List Ent}{P:Fr->Mem->List Ent->Prop}(k0 k1 k2 k3 k4 k5:Nat){v0 v1 v2 v3 v4 v5:Value}(hR:∀ fr C L,fr.all (fun x=>x.2.1.isEmpty)=true->P fr C L->D cx R [] fr C L)(h:P [(k0,[],v0),(k1,[],v1),(k2,[],v2),(k3,[],v3),(k4,[],v4),(k5,[],v5)] C L)(hs:Has fr [(k0,[],v0),(k1,[],v1),(k2,[],v2),(k3,[],v3),(k4,[],v4),(k5,[],v5)]:=by (repeat (first | exact trivial | refine ⟨rfl, ?_⟩))):D cx R [] fr C L:=D.bA [(k0,[],v0),(k1,[],v1),(k2,[],v2),(k3,[],v3),(k4,[],v4),(k5,[],v5)] hs (hR _ _ _ rfl h)
theorem D.e5 {n:Nat}{ds:List (Option Nat)}{R:Rg n ds}{cx:Cx}{fr:Fr}{C:Mem}{L:List Ent}{P:Fr->Mem->List Ent->Prop}(k0 k1 k2 k3 k4:Nat){v0 v1 v2 v3 v4:Value}(hR:∀ fr C L,fr.all (fun x=>x.2.1.isEmpty)=true->P fr C L->D cx R [] fr C L)(h:P [(k0,[],v0),(k1,[],v1),(k2,[],v2),(k3,[],v3),(k4,[],v4)] C L)(hs:Has fr [(k0,[],v0),(k1,[],v1),(k2,[],v2),(k3,[],v3),(k4,[],v4)]:=by (repeat (first | exact trivial | refine ⟨rfl, ?_⟩))):D cx R [] fr C L:=D.bA [(k0,[],v0),(k1,[],v1),(k2,[],v2),(k3,[],v3),(k4,[],v4)] hs (hR _ _ _ rfl h)
theorem D.e4 {n:Nat}{ds:List (Option Nat)}{R:Rg n ds}{cx:Cx}{fr:Fr}{C:Mem}{L:List Ent}{P:Fr->Mem->List Ent->Prop}(k0 k1 k2 k3:Nat){v0 v1 v2 v3:Value}(hR:∀ fr C L,fr.all (fun x=>x.2.1.isEmpty)=true->P fr C L->D cx R [] fr C L)(h:P [(k0,[],v0),(k1,[],v1),(k2,[],v2),(k3,[],v3)] C L)(hs:Has fr [(k0,[],v0),(k1,[],v1),(k2,[],v2),(k3,[],v3)]:=by (repeat (first | exact trivial | refine ⟨rfl, ?_⟩))):D cx R [] fr C L:=D.bA [(k0,[],v0),(k1,[],v1),(k2,[],v2),(k3,[],v3)] hs (hR _ _ _ rfl h)
theorem D.e3 {n:Nat}{ds:List (Option Nat)}{R:Rg n ds}{cx:Cx}{fr:Fr}{C:Mem}{L:List Ent}{P:Fr->Mem->List Ent->Prop}(k0 k1 k2:Nat){v0 v1 v2:Value}(hR:∀ fr C L,fr.all (fun x=>x.2.1.isEmpty)=true->P fr C L->D cx R [] fr C L)(h:P [(k0,[],v0),(k1,[],v1),(k2,[],v2)] C L)(hs:Has fr [(k0,[],v0),(k1,[],v1),(k2,[],v2)]:=by (repeat (first | exact trivial | refine ⟨rfl, ?_⟩))):D cx R [] fr C L:=D.bA [(k0,[],v0),(k1,[],v1),(k2,[],v2)] hs (hR _ _ _ rfl h)
theorem D.e2 {n:Nat}{ds:List (Option Nat)}{R:Rg n ds}{cx:Cx}{fr:Fr}{C:Mem}{L:List Ent}{P:Fr->Mem->List Ent->Prop}(k0 k1:Nat){v0 v1:Value}(hR:∀ fr C L,fr.all (fun x=>x.2.1.isEmpty)=true->P fr C L->D cx R [] fr C L)(h:P [(k0,[],v0),(k1,[],v1)] C L)(hs:Has fr [(k0,[],v0),(k1,[],v1)]:=by (repeat (first | exact trivial | refine ⟨rfl, ?_⟩))):D cx R [] fr C L:=D.bA [(k0,[],v0),(k1,[],v1)] hs (hR _ _ _ rfl h)
theorem D.e1 {n:Nat}{ds:List (Option Nat)}{R:Rg n ds}{cx:Cx}{fr:Fr}{C:Mem}{L:List Ent}{P:Fr->Mem->List Ent->Prop}(k0:Nat){v0:Value}(hR:∀ fr C L,fr.all (fun x=>x.2.1.isEmpty)=true->P fr C L->D cx R [] fr C L)(h:P [(k0,[],v0)] C L)(hs:Has fr [(k0,[],v0)]:=by (repeat (first | exact trivial | refine ⟨rfl, ?_⟩))):D cx R [] fr C L:=D.bA [(k0,[],v0)] hs (hR _ _ _ rfl h)
def jE (cx:Cx)(n:Nat)(ds:List (Option Nat)):Nat->List It->Fr->Option (List It × Fr)
  | 0,its,fr=>some (its,fr)
  | _+1,[],_=>none
  | m+1,(_,k,o)::its,fr=>match o.dst with
    | none=>none
    | some d=>match gOf ds fr o.guard with
      | none=>none
      | some g=>match po cx.T (ev fr g) o.op with
        | none=>none
        | some v=>bif Nat.ble k 1 && (aO n ds ((d,g,v)::fr) d && wfG ds fr g) then jE cx n ds m its ((d,g,v)::fr) else none
theorem D.ps {n:Nat}{ds:List (Option Nat)}{R:Rg n ds}{cx:Cx}{its its':List It}{fr fr':Fr}{C:Mem}{L:List Ent}(m:Nat)(h:D cx R its' fr' C L)(he:jE cx n ds m its fr=some (its',fr'):=by rfl):D cx R its fr C L:=by
  induction m generalizing its fr with
  | zero=>cases he;exact h
  | succ m ih=>match its,he with
    | (i,k,o)::its,he =>
      simp only [jE] at he;split at he
      · cases he
      · rename_i d hd;split at he
        · cases he
        · rename_i g hg;split at he
          · cases he
          · rename_i v hv;cases hb:(Nat.ble k 1 && (aO n ds ((d,g,v)::fr) d && wfG ds fr g)) with
            | false=>rw [hb] at he;cases he
            | true =>
              rw [hb] at he;simp only [bL] at hb;exact D.pure hb.1 hd hg hv hb.2.1 hb.2.2 (ih he)
theorem h_1 {fr:Fr}{v0:Value}(k0:Nat)(h:Has fr [(k0,[],v0)]:=by (repeat (first | exact trivial | refine ⟨rfl, ?_⟩))):Has fr [(k0,[],v0)]:=h
theorem h_2 {fr:Fr}{v0 v1:Value}(k0 k1:Nat)(h:Has fr [(k0,[],v0),(k1,[],v1)]:=by (repeat (first | exact trivial | refine ⟨rfl, ?_⟩))):Has fr [(k0,[],v0),(k1,[],v1)]:=h
theorem h_3 {fr:Fr}{v0 v1 v2:Value}(k0 k1 k2:Nat)(h:Has fr [(k0,[],v0),(k1,[],v1),(k2,[],v2)]:=by (repeat (first | exact trivial | refine ⟨rfl, ?_⟩))):Has fr [(k0,[],v0),(k1,[],v1),(k2,[],v2)]:=h
theorem h_4 {fr:Fr}{v0 v1 v2 v3:Value}(k0 k1 k2 k3:Nat)(h:Has fr [(k0,[],v0),(k1,[],v1),(k2,[],v2),(k3,[],v3)]:=by (repeat (first | exact trivial | refine ⟨rfl, ?_⟩))):Has fr [(k0,[],v0),(k1,[],v1),(k2,[],v2),(k3,[],v3)]:=h
theorem h_5 {fr:Fr}{v0 v1 v2 v3 v4:Value}(k0 k1 k2 k3 k4:Nat)(h:Has fr [(k0,[],v0),(k1,[],v1),(k2,[],v2),(k3,[],v3),(k4,[],v4)]:=by (repeat (first | exact trivial | refine ⟨rfl, ?_⟩))):Has fr [(k0,[],v0),(k1,[],v1),(k2,[],v2),(k3,[],v3),(k4,[],v4)]:=h
theorem h_6 {fr:Fr}{v0 v1 v2 v3 v4 v5:Value}(k0 k1 k2 k3 k4 k5:Nat)(h:Has fr [(k0,[],v0),(k1,[],v1),(k2,[],v2),(k3,[],v3),(k4,[],v4),(k5,[],v5)]:=by (repeat (first | exact trivial | refine ⟨rfl, ?_⟩))):Has fr [(k0,[],v0),(k1,[],v1),(k2,[],v2),(k3,[],v3),(k4,[],v4),(k5,[],v5)]:=h
theorem h_7 {fr:Fr}{v0 v1 v2 v3 v4 v5 v6:Value}(k0 k1 k2 k3 k4 k5 k6:Nat)(h:Has fr [(k0,[],v0),(k1,[],v1),(k2,[],v2),(k3,[],v3),(k4,[],v4),(k5,[],v5),(k6,[],v6)]:=by (repeat (first | exact trivial | refine ⟨rfl, ?_⟩))):Has fr [(k0,[],v0),(k1,[],v1),(k2,[],v2),(k3,[],v3),(k4,[],v4),(k5,[],v5),(k6,[],v6)]:=h
theorem h_8 {fr:Fr}{v0 v1 v2 v3 v4 v5 v6 v7:Value}(k0 k1 k2 k3 k4 k5 k6 k7:Nat)(h:Has fr [(k0,[],v0),(k1,[],v1),(k2,[],v2),(k3,[],v3),(k4,[],v4),(k5,[],v5),(k6,[],v6),(k7,[],v7)]:=by (repeat (first | exact trivial | refine ⟨rfl, ?_⟩))):Has fr [(k0,[],v0),(k1,[],v1),(k2,[],v2),(k3,[],v3),(k4,[],v4),(k5,[],v5),(k6,[],v6),(k7,[],v7)]:=h
theorem h_9 {fr:Fr}{v0 v1 v2 v3 v4 v5 v6 v7 v8:Value}(k0 k1 k2 k3 k4 k5 k6 k7 k8:Nat)(h:Has fr [(k0,[],v0),(k1,[],v1),(k2,[],v2),(k3,[],v3),(k4,[],v4),(k5,[],v5),(k6,[],v6),(k7,[],v7),(k8,[],v8)]:=by (repeat (first | exact trivial | refine ⟨rfl, ?_⟩))):Has fr [(k0,[],v0),(k1,[],v1),(k2,[],v2),(k3,[],v3),(k4,[],v4),(k5,[],v5),(k6,[],v6),(k7,[],v7),(k8,[],v8)]:=h
theorem h_10 {fr:Fr}{v0 v1 v2 v3 v4 v5 v6 v7 v8 v9:Value}(k0 k1 k2 k3 k4 k5 k6 k7 k8 k9:Nat)(h:Has fr [(k0,[],v0),(k1,[],v1),(k2,[],v2),(k3,[],v3),(k4,[],v4),(k5,[],v5),(k6,[],v6),(k7,[],v7),(k8,[],v8),(k9,[],v9)]:=by (repeat (first | exact trivial | refine ⟨rfl, ?_⟩))):Has fr [(k0,[],v0),(k1,[],v1),(k2,[],v2),(k3,[],v3),(k4,[],v4),(k5,[],v5),(k6,[],v6),(k7,[],v7),(k8,[],v8),(k9,[],v9)]:=h
theorem h_11 {fr:Fr}{v0 v1 v2 v3 v4 v5 v6 v7 v8 v9 v10:Value}(k0 k1 k2 k3 k4 k5 k6 k7 k8 k9 k10:Nat)(h:Has fr [(k0,[],v0),(k1,[],v1),(k2,[],v2),(k3,[],v3),(k4,[],v4),(k5,[],v5),(k6,[],v6),(k7,[],v7),(k8,[],v8),(k9,[],v9),(k10,[],v10)]:=by (repeat (first | exact trivial | refine ⟨rfl, ?_⟩))):Has fr [(k0,[],v0),(k1,[],v1),(k2,[],v2),(k3,[],v3),(k4,[],v4),(k5,[],v5),(k6,[],v6),(k7,[],v7),(k8,[],v8),(k9,[],v9),(k10,[],v10)]:=h
theorem D.q1 {n:Nat}{ds:List (Option Nat)}{R:Rg n ds}{cx:Cx}{fr:Fr}{C:Mem}{L:List Ent}{its:List It}{fr':Fr}{P:Fr->Mem->List Ent->Prop}(m:Nat)(k0:Nat){v0:Value}(hR:∀ fr C L,fr.all (fun x=>x.2.1.isEmpty)=true->P fr C L->D cx R [] fr C L)(h:P [(k0,[],v0)] C L)(he:jE cx n ds m its fr=some ([],fr'):=by rfl)(hs:Has fr' [(k0,[],v0)]:=by (repeat (first | exact trivial | refine ⟨rfl, ?_⟩))):D cx R its fr C L:=D.ps m (D.e1 k0 hR h hs) he
theorem D.q2 {n:Nat}{ds:List (Option Nat)}{R:Rg n ds}{cx:Cx}{fr:Fr}{C:Mem}{L:List Ent}{its:List It}{fr':Fr}{P:Fr->Mem->List Ent->Prop}(m:Nat)(k0 k1:Nat){v0 v1:Value}(hR:∀ fr C L,fr.all (fun x=>x.2.1.isEmpty)=true->P fr C L->D cx R [] fr C L)(h:P [(k0,[],v0),(k1,[],v1)] C L)(he:jE cx n ds m its fr=some ([],fr'):=by rfl)(hs:Has fr' [(k0,[],v0),(k1,[],v1)]:=by (repeat (first | exact trivial | refine ⟨rfl, ?_⟩))):D cx R its fr C L:=D.ps m (D.e2 k0 k1 hR h hs) he
theorem D.q3 {n:Nat}{ds:List (Option Nat)}{R:Rg n ds}{cx:Cx}{fr:Fr}{C:Mem}{L:List Ent}{its:List It}{fr':Fr}{P:Fr->Mem->List Ent->Prop}(m:Nat)(k0 k1 k2:Nat){v0 v1 v2:Value}(hR:∀ fr C L,fr.all (fun x=>x.2.1.isEmpty)=true->P fr C L->D cx R [] fr C L)(h:P [(k0,[],v0),(k1,[],v1),(k2,[],v2)] C L)(he:jE cx n ds m its fr=some ([],fr'):=by rfl)(hs:Has fr' [(k0,[],v0),(k1,[],v1),(k2,[],v2)]:=by (repeat (first | exact trivial | refine ⟨rfl, ?_⟩))):D cx R its fr C L:=D.ps m (D.e3 k0 k1 k2 hR h hs) he
theorem D.q4 {n:Nat}{ds:List (Option Nat)}{R:Rg n ds}{cx:Cx}{fr:Fr}{C:Mem}{L:List Ent}{its:List It}{fr':Fr}{P:Fr->Mem->List Ent->Prop}(m:Nat)(k0 k1 k2 k3:Nat){v0 v1 v2 v3:Value}(hR:∀ fr C L,fr.all (fun x=>x.2.1.isEmpty)=true->P fr C L->D cx R [] fr C L)(h:P [(k0,[],v0),(k1,[],v1),(k2,[],v2),(k3,[],v3)] C L)(he:jE cx n ds m its fr=some ([],fr'):=by rfl)(hs:Has fr' [(k0,[],v0),(k1,[],v1),(k2,[],v2),(k3,[],v3)]:=by (repeat (first | exact trivial | refine ⟨rfl, ?_⟩))):D cx R its fr C L:=D.ps m (D.e4 k0 k1 k2 k3 hR h hs) he
theorem D.q5 {n:Nat}{ds:List (Option Nat)}{R:Rg n ds}{cx:Cx}{fr:Fr}{C:Mem}{L:List Ent}{its:List It}{fr':Fr}{P:Fr->Mem->List Ent->Prop}(m:Nat)(k0 k1 k2 k3 k4:Nat){v0 v1 v2 v3 v4:Value}(hR:∀ fr C L,fr.all (fun x=>x.2.1.isEmpty)=true->P fr C L->D cx R [] fr C L)(h:P [(k0,[],v0),(k1,[],v1),(k2,[],v2),(k3,[],v3),(k4,[],v4)] C L)(he:jE cx n ds m its fr=some ([],fr'):=by rfl)(hs:Has fr' [(k0,[],v0),(k1,[],v1),(k2,[],v2),(k3,[],v3),(k4,[],v4)]:=by (repeat (first | exact trivial | refine ⟨rfl, ?_⟩))):D cx R its fr C L:=D.ps m (D.e5 k0 k1 k2 k3 k4 hR h hs) he
theorem D.q6 {n:Nat}{ds:List (Option Nat)}{R:Rg n ds}{cx:Cx}{fr:Fr}{C:Mem}{L:List Ent}{its:List It}{fr':Fr}{P:Fr->Mem->List Ent->Prop}(m:Nat)(k0 k1 k2 k3 k4 k5:Nat){v0 v1 v2 v3 v4 v5:Value}(hR:∀ fr C L,fr.all (fun x=>x.2.1.isEmpty)=true->P fr C L->D cx R [] fr C L)(h:P [(k0,[],v0),(k1,[],v1),(k2,[],v2),(k3,[],v3),(k4,[],v4),(k5,[],v5)] C L)(he:jE cx n ds m its fr=some ([],fr'):=by rfl)(hs:Has fr' [(k0,[],v0),(k1,[],v1),(k2,[],v2),(k3,[],v3),(k4,[],v4),(k5,[],v5)]:=by (repeat (first | exact trivial | refine ⟨rfl, ?_⟩))):D cx R its fr C L:=D.ps m (D.e6 k0 k1 k2 k3 k4 k5 hR h hs) he
theorem D.q7 {n:Nat}{ds:List (Option Nat)}{R:Rg n ds}{cx:Cx}{fr:Fr}{C:Mem}{L:List Ent}{its:List It}{fr':Fr}{P:Fr->Mem->List Ent->Prop}(m:Nat)(k0 k1 k2 k3 k4 k5 k6:Nat){v0 v1 v2 v3 v4 v5 v6:Value}(hR:∀ fr C L,fr.all (fun x=>x.2.1.isEmpty)=true->P fr C L->D cx R [] fr C L)(h:P [(k0,[],v0),(k1,[],v1),(k2,[],v2),(k3,[],v3),(k4,[],v4),(k5,[],v5),(k6,[],v6)] C L)(he:jE cx n ds m its fr=some ([],fr'):=by rfl)(hs:Has fr' [(k0,[],v0),(k1,[],v1),(k2,[],v2),(k3,[],v3),(k4,[],v4),(k5,[],v5),(k6,[],v6)]:=by (repeat (first | exact trivial | refine ⟨rfl, ?_⟩))):D cx R its fr C L:=D.ps m (D.e7 k0 k1 k2 k3 k4 k5 k6 hR h hs) he
theorem D.q8 {n:Nat}{ds:List (Option Nat)}{R:Rg n ds}{cx:Cx}{fr:Fr}{C:Mem}{L:List Ent}{its:List It}{fr':Fr}{P:Fr->Mem->List Ent->Prop}(m:Nat)(k0 k1 k2 k3 k4 k5 k6 k7:Nat){v0 v1 v2 v3 v4 v5 v6 v7:Value}(hR:∀ fr C L,fr.all (fun x=>x.2.1.isEmpty)=true->P fr C L->D cx R [] fr C L)(h:P [(k0,[],v0),(k1,[],v1),(k2,[],v2),(k3,[],v3),(k4,[],v4),(k5,[],v5),(k6,[],v6),(k7,[],v7)] C L)(he:jE cx n ds m its fr=some ([],fr'):=by rfl)(hs:Has fr' [(k0,[],v0),(k1,[],v1),(k2,[],v2),(k3,[],v3),(k4,[],v4),(k5,[],v5),(k6,[],v6),(k7,[],v7)]:=by (repeat (first | exact trivial | refine ⟨rfl, ?_⟩))):D cx R its fr C L:=D.ps m (D.e8 k0 k1 k2 k3 k4 k5 k6 k7 hR h hs) he
theorem D.q9 {n:Nat}{ds:List (Option Nat)}{R:Rg n ds}{cx:Cx}{fr:Fr}{C:Mem}{L:List Ent}{its:List It}{fr':Fr}{P:Fr->Mem->List Ent->Prop}(m:Nat)(k0 k1 k2 k3 k4 k5 k6 k7 k8:Nat){v0 v1 v2 v3 v4 v5 v6 v7 v8:Value}(hR:∀ fr C L,fr.all (fun x=>x.2.1.isEmpty)=true->P fr C L->D cx R [] fr C L)(h:P [(k0,[],v0),(k1,[],v1),(k2,[],v2),(k3,[],v3),(k4,[],v4),(k5,[],v5),(k6,[],v6),(k7,[],v7),(k8,[],v8)] C L)(he:jE cx n ds m its fr=some ([],fr'):=by rfl)(hs:Has fr' [(k0,[],v0),(k1,[],v1),(k2,[],v2),(k3,[],v3),(k4,[],v4),(k5,[],v5),(k6,[],v6),(k7,[],v7),(k8,[],v8)]:=by (repeat (first | exact trivial | refine ⟨rfl, ?_⟩))):D cx R its fr C L:=D.ps m (D.e9 k0 k1 k2 k3 k4 k5 k6 k7 k8 hR h hs) he
theorem D.lc {n:Nat}{ds:List (Option Nat)}{R:Rg n ds}{cx:Cx}{fr:Fr}{C:Mem}{L:List Ent}{its:List It}{fr':Fr}{P:Fr->Mem->List Ent->Prop}(m:Nat)(k0 k1 k2 k3 k4 k5 k6 k7 k8 k9:Nat){v0 v1 v2 v3 v4 v5 v6 v7 v8 v9:Value}(hR:∀ fr C L,fr.all (fun x=>x.2.1.isEmpty)=true->P fr C L->D cx R [] fr C L)(h:P [(k0,[],v0),(k1,[],v1),(k2,[],v2),(k3,[],v3),(k4,[],v4),(k5,[],v5),(k6,[],v6),(k7,[],v7),(k8,[],v8),(k9,[],v9)] C L)(he:jE cx n ds m its fr=some ([],fr'):=by rfl)(hs:Has fr' [(k0,[],v0),(k1,[],v1),(k2,[],v2),(k3,[],v3),(k4,[],v4),(k5,[],v5),(k6,[],v6),(k7,[],v7),(k8,[],v8),(k9,[],v9)]:=by (repeat (first | exact trivial | refine ⟨rfl, ?_⟩))):D cx R its fr C L:=D.ps m (D.vv k0 k1 k2 k3 k4 k5 k6 k7 k8 k9 hR h hs) he
theorem D.lF {n:Nat}{ds:List (Option Nat)}{R:Rg n ds}{cx:Cx}{fr:Fr}{C:Mem}{L:List Ent}{its:List It}{fr':Fr}{P:Fr->Mem->List Ent->Prop}(m:Nat)(k0 k1 k2 k3 k4 k5 k6 k7 k8 k9 k10:Nat){v0 v1 v2 v3 v4 v5 v6 v7 v8 v9 v10:Value}(hR:∀ fr C L,fr.all (fun x=>x.2.1.isEmpty)=true->P fr C L->D cx R [] fr C L)(h:P [(k0,[],v0),(k1,[],v1),(k2,[],v2),(k3,[],v3),(k4,[],v4),(k5,[],v5),(k6,[],v6),(k7,[],v7),(k8,[],v8),(k9,[],v9),(k10,[],v10)] C L)(he:jE cx n ds m its fr=some ([],fr'):=by rfl)(hs:Has fr' [(k0,[],v0),(k1,[],v1),(k2,[],v2),(k3,[],v3),(k4,[],v4),(k5,[],v5),(k6,[],v6),(k7,[],v7),(k8,[],v8),(k9,[],v9),(k10,[],v10)]:=by (repeat (first | exact trivial | refine ⟨rfl, ?_⟩))):D cx R its fr C L:=D.ps m (D.nX k0 k1 k2 k3 k4 k5 k6 k7 k8 k9 k10 hR h hs) he
theorem D.q12 {n:Nat}{ds:List (Option Nat)}{R:Rg n ds}{cx:Cx}{fr:Fr}{C:Mem}{L:List Ent}{its:List It}{fr':Fr}{P:Fr->Mem->List Ent->Prop}(m:Nat)(k0 k1 k2 k3 k4 k5 k6 k7 k8 k9 k10 k11:Nat){v0 v1 v2 v3 v4 v5 v6 v7 v8 v9 v10 v11:Value}(hR:∀ fr C L,fr.all (fun x=>x.2.1.isEmpty)=true->P fr C L->D cx R [] fr C L)(h:P [(k0,[],v0),(k1,[],v1),(k2,[],v2),(k3,[],v3),(k4,[],v4),(k5,[],v5),(k6,[],v6),(k7,[],v7),(k8,[],v8),(k9,[],v9),(k10,[],v10),(k11,[],v11)] C L)(he:jE cx n ds m its fr=some ([],fr'):=by rfl)(hs:Has fr' [(k0,[],v0),(k1,[],v1),(k2,[],v2),(k3,[],v3),(k4,[],v4),(k5,[],v5),(k6,[],v6),(k7,[],v7),(k8,[],v8),(k9,[],v9),(k10,[],v10),(k11,[],v11)]:=by (repeat (first | exact trivial | refine ⟨rfl, ?_⟩))):D cx R its fr C L:=D.ps m (D.e12 k0 k1 k2 k3 k4 k5 k6 k7 k8 k9 k10 k11 hR h hs) he
theorem D.zq {n:Nat}{ds:List (Option Nat)}{R:Rg n ds}{cx:Cx}{fr:Fr}{C:Mem}{L:List Ent}{its:List It}{fr':Fr}{P:Fr->Mem->List Ent->Prop}(m:Nat)(k0 k1 k2 k3 k4 k5 k6 k7 k8 k9 k10 k11 k12:Nat){v0 v1 v2 v3 v4 v5 v6 v7 v8 v9 v10 v11 v12:Value}(hR:∀ fr C L,fr.all (fun x=>x.2.1.isEmpty)=true->P fr C L->D cx R [] fr C L)(h:P [(k0,[],v0),(k1,[],v1),(k2,[],v2),(k3,[],v3),(k4,[],v4),(k5,[],v5),(k6,[],v6),(k7,[],v7),(k8,[],v8),(k9,[],v9),(k10,[],v10),(k11,[],v11),(k12,[],v12)] C L)(he:jE cx n ds m its fr=some ([],fr'):=by rfl)(hs:Has fr' [(k0,[],v0),(k1,[],v1),(k2,[],v2),(k3,[],v3),(k4,[],v4),(k5,[],v5),(k6,[],v6),(k7,[],v7),(k8,[],v8),(k9,[],v9),(k10,[],v10),(k11,[],v11),(k12,[],v12)]:=by (repeat (first | exact trivial | refine ⟨rfl, ?_⟩))):D cx R its fr C L:=D.ps m (D.e13 k0 k1 k2 k3 k4 k5 k6 k7 k8 k9 k10 k11 k12 hR h hs) he
theorem G.rp {F:Fx}{k:List KI}{fr fr':Fr}{C:Mem}{L:List Ent}{id:Nat}{l:List Oper}{its:List It}(m:Nat)(h:∀ R:Rg F.n (l.map (·.dst)),(∀ fr C L,fr.all (fun x=>x.2.1.isEmpty)=true->G F (eA 64 k) .normal fr C L->D F.cx R [] fr C L)->D F.cx R its fr' C L)(hnd:F.W.nd l.toArray:=by first | exact trivial | exact rfl)(hp:fr.all (fun x=>x.2.1.isEmpty)=true:=by rfl)(he:jE F.cx F.n (l.map (·.dst)) m (db l [] (bO (qK l) 0)) fr=some (its,fr'):=by rfl):G F (.code (.region id l.toArray false)::k) .normal fr C L:=G.rg (fun R hR=>D.ps m (h R hR) he) hnd hp
theorem G.z1 {F:Fx}{k:List KI}{fr fr':Fr}{C:Mem}{L:List Ent}{id:Nat}{l:List Oper}(m:Nat)(k0:Nat){v0:Value}(h:G F (eA 64 k) .normal [(k0,[],v0)] C L)(hnd:F.W.nd l.toArray:=by first | exact trivial | exact rfl)(hp:fr.all (fun x=>x.2.1.isEmpty)=true:=by rfl)(he:jE F.cx F.n (l.map (·.dst)) m (db l [] (bO (qK l) 0)) fr=some ([],fr'):=by rfl)(hs:Has fr' [(k0,[],v0)]:=by (repeat (first | exact trivial | refine ⟨rfl, ?_⟩))):G F (.code (.region id l.toArray false)::k) .normal fr C L:=G.rg (fun _ hR=>D.ps m (D.e1 k0 hR h hs) he) hnd hp
theorem G.z2 {F:Fx}{k:List KI}{fr fr':Fr}{C:Mem}{L:List Ent}{id:Nat}{l:List Oper}(m:Nat)(k0 k1:Nat){v0 v1:Value}(h:G F (eA 64 k) .normal [(k0,[],v0),(k1,[],v1)] C L)(hnd:F.W.nd l.toArray:=by first | exact trivial | exact rfl)(hp:fr.all (fun x=>x.2.1.isEmpty)=true:=by rfl)(he:jE F.cx F.n (l.map (·.dst)) m (db l [] (bO (qK l) 0)) fr=some ([],fr'):=by rfl)(hs:Has fr' [(k0,[],v0),(k1,[],v1)]:=by (repeat (first | exact trivial | refine ⟨rfl, ?_⟩))):G F (.code (.region id l.toArray false)::k) .normal fr C L:=G.rg (fun _ hR=>D.ps m (D.e2 k0 k1 hR h hs) he) hnd hp
theorem G.z3 {F:Fx}{k:List KI}{fr fr':Fr}{C:Mem}{L:List Ent}{id:Nat}{l:List Oper}(m:Nat)(k0 k1 k2:Nat){v0 v1 v2:Value}(h:G F (eA 64 k) .normal [(k0,[],v0),(k1,[],v1),(k2,[],v2)] C L)(hnd:F.W.nd l.toArray:=by first | exact trivial | exact rfl)(hp:fr.all (fun x=>x.2.1.isEmpty)=true:=by rfl)(he:jE F.cx F.n (l.map (·.dst)) m (db l [] (bO (qK l) 0)) fr=some ([],fr'):=by rfl)(hs:Has fr' [(k0,[],v0),(k1,[],v1),(k2,[],v2)]:=by (repeat (first | exact trivial | refine ⟨rfl, ?_⟩))):G F (.code (.region id l.toArray false)::k) .normal fr C L:=G.rg (fun _ hR=>D.ps m (D.e3 k0 k1 k2 hR h hs) he) hnd hp
theorem G.z4 {F:Fx}{k:List KI}{fr fr':Fr}{C:Mem}{L:List Ent}{id:Nat}{l:List Oper}(m:Nat)(k0 k1 k2 k3:Nat){v0 v1 v2 v3:Value}(h:G F (eA 64 k) .normal [(k0,[],v0),(k1,[],v1),(k2,[],v2),(k3,[],v3)] C L)(hnd:F.W.nd l.toArray:=by first | exact trivial | exact rfl)(hp:fr.all (fun x=>x.2.1.isEmpty)=true:=by rfl)(he:jE F.cx F.n (l.map (·.dst)) m (db l [] (bO (qK l) 0)) fr=some ([],fr'):=by rfl)(hs:Has fr' [(k0,[],v0),(k1,[],v1),(k2,[],v2),(k3,[],v3)]:=by (repeat (first | exact trivial | refine ⟨rfl, ?_⟩))):G F (.code (.region id l.toArray false)::k) .normal fr C L:=G.rg (fun _ hR=>D.ps m (D.e4 k0 k1 k2 k3 hR h hs) he) hnd hp
theorem G.z5 {F:Fx}{k:List KI}{fr fr':Fr}{C:Mem}{L:List Ent}{id:Nat}{l:List Oper}(m:Nat)(k0 k1 k2 k3 k4:Nat){v0 v1 v2 v3 v4:Value}(h:G F (eA 64 k) .normal [(k0,[],v0),(k1,[],v1),(k2,[],v2),(k3,[],v3),(k4,[],v4)] C L)(hnd:F.W.nd l.toArray:=by first | exact trivial | exact rfl)(hp:fr.all (fun x=>x.2.1.isEmpty)=true:=by rfl)(he:jE F.cx F.n (l.map (·.dst)) m (db l [] (bO (qK l) 0)) fr=some ([],fr'):=by rfl)(hs:Has fr' [(k0,[],v0),(k1,[],v1),(k2,[],v2),(k3,[],v3),(k4,[],v4)]:=by (repeat (first | exact trivial | refine ⟨rfl, ?_⟩))):G F (.code (.region id l.toArray false)::k) .normal fr C L:=G.rg (fun _ hR=>D.ps m (D.e5 k0 k1 k2 k3 k4 hR h hs) he) hnd hp
theorem G.z6 {F:Fx}{k:List KI}{fr fr':Fr}{C:Mem}{L:List Ent}{id:Nat}{l:List Oper}(m:Nat)(k0 k1 k2 k3 k4 k5:Nat){v0 v1 v2 v3 v4 v5:Value}(h:G F (eA 64 k) .normal [(k0,[],v0),(k1,[],v1),(k2,[],v2),(k3,[],v3),(k4,[],v4),(k5,[],v5)] C L)(hnd:F.W.nd l.toArray:=by first | exact trivial | exact rfl)(hp:fr.all (fun x=>x.2.1.isEmpty)=true:=by rfl)(he:jE F.cx F.n (l.map (·.dst)) m (db l [] (bO (qK l) 0)) fr=some ([],fr'):=by rfl)(hs:Has fr' [(k0,[],v0),(k1,[],v1),(k2,[],v2),(k3,[],v3),(k4,[],v4),(k5,[],v5)]:=by (repeat (first | exact trivial | refine ⟨rfl, ?_⟩))):G F (.code (.region id l.toArray false)::k) .normal fr C L:=G.rg (fun _ hR=>D.ps m (D.e6 k0 k1 k2 k3 k4 k5 hR h hs) he) hnd hp
theorem G.z7 {F:Fx}{k:List KI}{fr fr':Fr}{C:Mem}{L:List Ent}{id:Nat}{l:List Oper}(m:Nat)(k0 k1 k2 k3 k4 k5 k6:Nat){v0 v1 v2 v3 v4 v5 v6:Value}(h:G F (eA 64 k) .normal [(k0,[],v0),(k1,[],v1),(k2,[],v2),(k3,[],v3),(k4,[],v4),(k5,[],v5),(k6,[],v6)] C L)(hnd:F.W.nd l.toArray:=by first | exact trivial | exact rfl)(hp:fr.all (fun x=>x.2.1.isEmpty)=true:=by rfl)(he:jE F.cx F.n (l.map (·.dst)) m (db l [] (bO (qK l) 0)) fr=some ([],fr'):=by rfl)(hs:Has fr' [(k0,[],v0),(k1,[],v1),(k2,[],v2),(k3,[],v3),(k4,[],v4),(k5,[],v5),(k6,[],v6)]:=by (repeat (first | exact trivial | refine ⟨rfl, ?_⟩))):G F (.code (.region id l.toArray false)::k) .normal fr C L:=G.rg (fun _ hR=>D.ps m (D.e7 k0 k1 k2 k3 k4 k5 k6 hR h hs) he) hnd hp
theorem G.z8 {F:Fx}{k:List KI}{fr fr':Fr}{C:Mem}{L:List Ent}{id:Nat}{l:List Oper}(m:Nat)(k0 k1 k2 k3 k4 k5 k6 k7:Nat){v0 v1 v2 v3 v4 v5 v6 v7:Value}(h:G F (eA 64 k) .normal [(k0,[],v0),(k1,[],v1),(k2,[],v2),(k3,[],v3),(k4,[],v4),(k5,[],v5),(k6,[],v6),(k7,[],v7)] C L)(hnd:F.W.nd l.toArray:=by first | exact trivial | exact rfl)(hp:fr.all (fun x=>x.2.1.isEmpty)=true:=by rfl)(he:jE F.cx F.n (l.map (·.dst)) m (db l [] (bO (qK l) 0)) fr=some ([],fr'):=by rfl)(hs:Has fr' [(k0,[],v0),(k1,[],v1),(k2,[],v2),(k3,[],v3),(k4,[],v4),(k5,[],v5),(k6,[],v6),(k7,[],v7)]:=by (repeat (first | exact trivial | refine ⟨rfl, ?_⟩))):G F (.code (.region id l.toArray false)::k) .normal fr C L:=G.rg (fun _ hR=>D.ps m (D.e8 k0 k1 k2 k3 k4 k5 k6 k7 hR h hs) he) hnd hp
theorem G.z9 {F:Fx}{k:List KI}{fr fr':Fr}{C:Mem}{L:List Ent}{id:Nat}{l:List Oper}(m:Nat)(k0 k1 k2 k3 k4 k5 k6 k7 k8:Nat){v0 v1 v2 v3 v4 v5 v6 v7 v8:Value}(h:G F (eA 64 k) .normal [(k0,[],v0),(k1,[],v1),(k2,[],v2),(k3,[],v3),(k4,[],v4),(k5,[],v5),(k6,[],v6),(k7,[],v7),(k8,[],v8)] C L)(hnd:F.W.nd l.toArray:=by first | exact trivial | exact rfl)(hp:fr.all (fun x=>x.2.1.isEmpty)=true:=by rfl)(he:jE F.cx F.n (l.map (·.dst)) m (db l [] (bO (qK l) 0)) fr=some ([],fr'):=by rfl)(hs:Has fr' [(k0,[],v0),(k1,[],v1),(k2,[],v2),(k3,[],v3),(k4,[],v4),(k5,[],v5),(k6,[],v6),(k7,[],v7),(k8,[],v8)]:=by (repeat (first | exact trivial | refine ⟨rfl, ?_⟩))):G F (.code (.region id l.toArray false)::k) .normal fr C L:=G.rg (fun _ hR=>D.ps m (D.e9 k0 k1 k2 k3 k4 k5 k6 k7 k8 hR h hs) he) hnd hp
theorem G.FM {F:Fx}{k:List KI}{fr fr':Fr}{C:Mem}{L:List Ent}{id:Nat}{l:List Oper}(m:Nat)(k0 k1 k2 k3 k4 k5 k6 k7 k8 k9:Nat){v0 v1 v2 v3 v4 v5 v6 v7 v8 v9:Value}(h:G F (eA 64 k) .normal [(k0,[],v0),(k1,[],v1),(k2,[],v2),(k3,[],v3),(k4,[],v4),(k5,[],v5),(k6,[],v6),(k7,[],v7),(k8,[],v8),(k9,[],v9)] C L)(hnd:F.W.nd l.toArray:=by first | exact trivial | exact rfl)(hp:fr.all (fun x=>x.2.1.isEmpty)=true:=by rfl)(he:jE F.cx F.n (l.map (·.dst)) m (db l [] (bO (qK l) 0)) fr=some ([],fr'):=by rfl)(hs:Has fr' [(k0,[],v0),(k1,[],v1),(k2,[],v2),(k3,[],v3),(k4,[],v4),(k5,[],v5),(k6,[],v6),(k7,[],v7),(k8,[],v8),(k9,[],v9)]:=by (repeat (first | exact trivial | refine ⟨rfl, ?_⟩))):G F (.code (.region id l.toArray false)::k) .normal fr C L:=G.rg (fun _ hR=>D.ps m (D.vv k0 k1 k2 k3 k4 k5 k6 k7 k8 k9 hR h hs) he) hnd hp
theorem G.tM {F:Fx}{k:List KI}{fr fr':Fr}{C:Mem}{L:List Ent}{id:Nat}{l:List Oper}(m:Nat)(k0 k1 k2 k3 k4 k5 k6 k7 k8 k9 k10:Nat){v0 v1 v2 v3 v4 v5 v6 v7 v8 v9 v10:Value}(h:G F (eA 64 k) .normal [(k0,[],v0),(k1,[],v1),(k2,[],v2),(k3,[],v3),(k4,[],v4),(k5,[],v5),(k6,[],v6),(k7,[],v7),(k8,[],v8),(k9,[],v9),(k10,[],v10)] C L)(hnd:F.W.nd l.toArray:=by first | exact trivial | exact rfl)(hp:fr.all (fun x=>x.2.1.isEmpty)=true:=by rfl)(he:jE F.cx F.n (l.map (·.dst)) m (db l [] (bO (qK l) 0)) fr=some ([],fr'):=by rfl)(hs:Has fr' [(k0,[],v0),(k1,[],v1),(k2,[],v2),(k3,[],v3),(k4,[],v4),(k5,[],v5),(k6,[],v6),(k7,[],v7),(k8,[],v8),(k9,[],v9),(k10,[],v10)]:=by (repeat (first | exact trivial | refine ⟨rfl, ?_⟩))):G F (.code (.region id l.toArray false)::k) .normal fr C L:=G.rg (fun _ hR=>D.ps m (D.nX k0 k1 k2 k3 k4 k5 k6 k7 k8 k9 k10 hR h hs) he) hnd hp
theorem G.FL {F:Fx}{k:List KI}{fr fr':Fr}{C:Mem}{L:List Ent}{id:Nat}{l:List Oper}(m:Nat)(k0 k1 k2 k3 k4 k5 k6 k7 k8 k9 k10 k11:Nat){v0 v1 v2 v3 v4 v5 v6 v7 v8 v9 v10 v11:Value}(h:G F (eA 64 k) .normal [(k0,[],v0),(k1,[],v1),(k2,[],v2),(k3,[],v3),(k4,[],v4),(k5,[],v5),(k6,[],v6),(k7,[],v7),(k8,[],v8),(k9,[],v9),(k10,[],v10),(k11,[],v11)] C L)(hnd:F.W.nd l.toArray:=by first | exact trivial | exact rfl)(hp:fr.all (fun x=>x.2.1.isEmpty)=true:=by rfl)(he:jE F.cx F.n (l.map (·.dst)) m (db l [] (bO (qK l) 0)) fr=some ([],fr'):=by rfl)(hs:Has fr' [(k0,[],v0),(k1,[],v1),(k2,[],v2),(k3,[],v3),(k4,[],v4),(k5,[],v5),(k6,[],v6),(k7,[],v7),(k8,[],v8),(k9,[],v9),(k10,[],v10),(k11,[],v11)]:=by (repeat (first | exact trivial | refine ⟨rfl, ?_⟩))):G F (.code (.region id l.toArray false)::k) .normal fr C L:=G.rg (fun _ hR=>D.ps m (D.e12 k0 k1 k2 k3 k4 k5 k6 k7 k8 k9 k10 k11 hR h hs) he) hnd hp
abbrev E_ (k:Nat)(v:Value):Nat × GL × Value:=(k,[],v)
/-! ### The function -/
theorem G.DL {r:Nat}{v:Value}(hres:F.fn.results=#[.tmp r])(hv:ev fr [] (.tmp r)=some v)(h:F.post v C L)(he:F.ends:=by exact ⟨fun _ _ _ h=>h,rfl⟩):G F [] .ret fr C L:=fun _ a w ha hw=>by
  have hv':=bd ha (fun p hp=>by cases hp) hv;simp only [Act.eval] at hv';exact he.kq <| bodyPost_ret (v:=v) (by rw [results_tmp hres,hv']) (ha.defers.trans he.2) ⟨v,C,L,Z,hw,h⟩
theorem G.rf {k:List KI}{r:Nat}{v:Value}(h:F.post v C [])(hres:F.fn.results=#[.tmp r]:=by rfl)(hv:ev fr [] (.tmp r)=some v:=by rfl)(he:F.ends:=by exact ⟨fun _ _ _ h=>h,rfl⟩):G F (.code .ret::k) .normal fr C L:=G.aB (G.dropAll (G.DL hres hv h he))
theorem G.a8 {r s:Nat}{u v:Value}(e_0:Z3 F.fn.results (#[.tmp r,.tmp s]) (ev fr [] (.tmp r)) (some u) (ev fr [] (.tmp s)) (some v))(h:F.post (.tuple #[u,v]) C L)(he:F.ends:=by exact ⟨fun _ _ _ h=>h,rfl⟩):G F [] .ret fr C L:=have ⟨hres,hu,hv⟩:=e_0;fun _ a w ha hw=>by
  have hu':=bd ha (fun p hp=>by cases hp) hu;have hv':=bd ha (fun p hp=>by cases hp) hv;simp only [Act.eval] at hu' hv';exact he.kq <| bodyPost_ret (v:=.tuple #[u,v]) (by rw [results_tmp2 hres,hu',hv']) (ha.defers.trans he.2) ⟨_,C,L,Z,hw,h⟩
theorem G.iX {r s t:Nat}{u v x:Value}(e_0:Z4 F.fn.results (#[.tmp r,.tmp s,.tmp t]) (ev fr [] (.tmp r)) (some u) (ev fr [] (.tmp s)) (some v) (ev fr [] (.tmp t)) (some x))(h:F.post (.tuple #[u,v,x]) C L)(he:F.ends:=by exact ⟨fun _ _ _ h=>h,rfl⟩):G F [] .ret fr C L:=have ⟨hres,hu,hv,hx⟩:=e_0;fun _ a w ha hw=>by
  have hu':=bd ha (fun p hp=>by cases hp) hu;have hv':=bd ha (fun p hp=>by cases hp) hv;have hx':=bd ha (fun p hp=>by cases hp) hx;simp only [Act.eval] at hu' hv' hx';simp only [Le] at hu' hv' hx';exact he.kq <| bodyPost_ret (v:=.tuple #[u,v,x]) (by simp [results,hres,hu',hv',hx']) (ha.defers.trans he.2) ⟨_,C,L,Z,hw,h⟩
theorem G.J3 (hres:F.fn.results=#[])(h:F.post (.tuple #[]) C L)(he:F.ends:=by exact ⟨fun _ _ _ h=>h,rfl⟩):G F [] .ret fr C L:=fun _ _a _w ha hw =>
  he.kq <| bodyPost_ret (results_none hres _ _ _) (ha.defers.trans he.2) ⟨_,C,L,rfl,hw,h⟩
theorem G.lA (hres:F.fn.results=#[])(h:F.post (.tuple #[]) C L)(he:F.ends:=by exact ⟨fun _ _ _ h=>h,rfl⟩):G F [] .normal fr C L:=fun _ _a _w ha hw =>
  he.kq <| bodyPost_end (results_none hres _ _ _) (ha.defers.trans he.2) ⟨_,C,L,rfl,hw,h⟩

def tI:List Value->Nat->Fr
  | [],_=>[]
  | v::vs,i=>(i,[],v)::tI vs (i+1)

theorem nR:∀ {vs:List Value}{i s:Nat}{g:GL}{v:Value},(tI vs i).get s=some (g,v)->g=[]/\i<=s/\vs[s-i]?=some v
  | [],i,s,g,v,h=>by simp [tI,Fr.get] at h
  | u::vs,i,s,g,v,h=>by
    simp only [tI,Fr.get] at h;cases hb:Nat.beq i s with
    | true =>
      rw [hb] at h;simp only [Mm,zl,Na] at h;obtain ⟨rfl,rfl⟩:=h;obtain rfl:=fB hb;exact ⟨Z,aP _,by simp⟩
    | false =>
      rw [hb] at h;obtain ⟨h1,h2,h3⟩:=nR h;exact ⟨h1,by omega,by rw [show s-i=(s-(i+1))+1 by omega];simpa using h3⟩

theorem Fn.intro {cx:Cx}{f:FuncId}{fn:Func}{c:Code}{args:List Value}{C:Mem}{L:List Ent}{post:Value->Mem->List Ent->Prop}(hen:Enters cx.P f=true)(hf:cx.P.funcs[f]?=some fn)(hb:fn.body=some c)
    (n:Nat) (hnt:fn.ntmps=n) (hn:Nat.ble args.length n=true)
    (h:∀ w0,G ⟨cx,fn,n,⟨w0,C,L⟩,post,Cw.plain cx.P,[],bodyPost cx.P fn (lD ⟨w0,C,L⟩ post)⟩ (eA 64 [.code c]) .normal (tI args 0) C L):Fn cx.P f args C L post:=by
  subst hnt;refine ⟨hen,fun w hw=>?_⟩;refine calls_of_wp hf hb ?_;rw [Mg] at hn;have:=G.bQ 64 (h w) (Mem.le.refl _) { tmps:=args.toArray++Array.replicate (fn.ntmps-args.toArray.size) undef,defers:=[] } w
    ⟨by simp;omega,rfl,fun s g v hg=>by
      obtain ⟨rfl,_,hv⟩:=nR hg;refine ⟨fun _=>?_,fun hn=>absurd (fun p hp=>by cases hp) hn⟩;simp only [N7] at hv;have hlt:=(aJ.1 hv).1;simp only [Array.getElem?_append,MQ,hlt,Mb,LB];exact hv⟩ (St.start hw)
  simp only [Kq] at this;refine Code.wp_mono (fun e a w q=>?_) this;cases e <;> exact q
theorem Fn.it {cx:Cx}{f:FuncId}{fn:Func}{c:Code}{args:List Value}{C:Mem}{L:List Ent}{post:Value->Mem->List Ent->Prop}(hen:Enters cx.P f=true)(hf:cx.P.funcs[f]?=some fn)(n:Nat)(h:∀ w0,G ⟨cx,fn,n,⟨w0,C,L⟩,post,Cw.plain cx.P,[],bodyPost cx.P fn (lD ⟨w0,C,L⟩ post)⟩ (eA 64 [.code c]) .normal (tI args 0) C L)(hb:fn.body=some c:=by rfl)(hnt:fn.ntmps=n:=by rfl)(hn:Nat.ble args.length n=true:=by rfl):Fn cx.P f args C L post:=Fn.intro hen hf hb n hnt hn h
end
end Go.Jog
namespace Go.Jog
open Go

/-! ### Integers -/
theorem wrap_i64 {n:Int}(h1:-9223372036854775808<=n)(h2:n<=9223372036854775807):IntKind.i64.wrap n=n:=by
  rw [IntKind.wrap_i64];omega

section
variable {cx:Cx} {n:Nat} {ds:List (Option Nat)} {R:Rg n ds} {its:List It} {fr:Fr} {C:Mem} {L:List Ent} {i k d:Nat} {o:Oper} {g:GL} {v:Value}

theorem D.cf (c:Int){e:Int}(e_0:Z4 (Nat.ble k 1) true o.dst (some d) (gOf ds fr o.guard) (some g) (po cx.T (ev fr g) o.op) (some (.int .i64 (IntKind.i64.wrap e))))(he:e=c)(h1:-9223372036854775808<=c)(h2:c<=9223372036854775807)(e_1:Z2 (aO n ds ((d,g,.int .i64 c)::fr) d) true (wfG ds fr g) true)(h:D cx R its ((d,g,.int .i64 c)::fr) C L):D cx R ((i,k,o)::its) fr C L:=by
  have ⟨hk,hd,hg,hv⟩:=e_0;have ⟨hp,hwf⟩:=e_1;subst he;exact D.pure hk hd hg (by rw [hv,wrap_i64 h1 h2]) hp hwf h

theorem D.ar {e:Int}(c:Int)(h:D cx R its ((d,g,.int .i64 c)::fr) C L)(hk:Nat.ble k 1=true:=by rfl)(hd:o.dst=some d:=by rfl)(hg:gOf ds fr o.guard=some g:=by rfl)(hv:po cx.T (ev fr g) o.op=some (.int .i64 (IntKind.i64.wrap e)):=by rfl)(he:e=c:=by rfl)(h1:-9223372036854775808<=c:=by omega)(h2:c<=9223372036854775807:=by omega)(hp:aO n ds ((d,g,.int .i64 c)::fr) d=true:=by rfl)(hwf:wfG ds fr g=true:=by rfl):D cx R ((i,k,o)::its) fr C L:=D.cf c ⟨hk,hd,hg,hv⟩ he h1 h2 ⟨hp,hwf⟩ h
theorem D.run (v:Value)(hk:Nat.ble k 1=true)(hd:o.dst=some d)(hg:gOf ds fr o.guard=some g)(hrun:GT ds fr g->∀ a,D1 (ev fr g) a->∀ w,(execOp a.eval o).run cx.P w=.ok (.value v) w)
    (hp:aO n ds ((d,g,v)::fr) d=true) (hwf:wfG ds fr g=true)
    (h:D cx R its ((d,g,v)::fr) C L):D cx R ((i,k,o)::its) fr C L :=
  D.gH hk hd hg hp hwf (fun hG a hs κ' _ w _=>by
    unfold Oper.quietAt;rw [hrun hG a hs w];exact ⟨Z,Z⟩) h

theorem bB {P:Program}{a:Act}{o:Oper}{op:BinOp}{t ty:Nat}{x y:Operand}{u v:Value}(hop:o.op=.binOp op t x y ty)(hx:a.eval x=u)(hy:a.eval y=v)(h1:∀ a b,u≠.agg a∨v≠.agg b)(h2:u≠.nilIface∨v≠.nilIface)(w:World) :
    (execOp a.eval o).run P w=((binOp op t u v).run P w).andThen fun r w'=>.ok (.value r) w':=by
  have e1:execOp a.eval o=((eqGuard op t x y (a.eval x) (a.eval y) >>= fun _=>binOp op t (a.eval x) (a.eval y)) >>= fun r=>Pure.pure (.value r)):=by
    obtain ⟨dst,op',ty',pos,after,guard⟩:=o;simp only at hop;subst hop;rfl
  rw [e1,hx,hy];simp only [Sem.run_bind,dQ (P:=P) (op:=op) (t:=t) (x:=x) (y:=y) w h1 h2,Result.andThen_ok,Sem.run_pure]

theorem D.quo {t ty:Nat}{x y:Operand}{ki:IntKind}{p q:Int}(hk:Nat.ble k 1=true)(hd:o.dst=some d)(hop:o.op=.binOp .quo t x y ty)(hg:gOf ds fr o.guard=some g)(hx:ev fr g x=some (.int ki p))(hy:ev fr g y=some (.int ki q))
    (hq:0<q) (h0:0<=p) (hr:ki.wrap (p / q)=p / q) (hp:aO n ds ((d,g,.int ki (p / q))::fr) d=true) (hwf:wfG ds fr g=true)
    (h:D cx R its ((d,g,.int ki (p / q))::fr) C L):D cx R ((i,k,o)::its) fr C L :=
  D.run _ hk hd hg (fun _ a hs w=>by
    rw [bB hop (hs _ _ hx) (hs _ _ hy) (fun _ _=>.inl (by simp)) (.inl (by simp)) w];have hq0:q≠0:=by omega
    simp [binOp,Op.intDiv,hq0,Nz h0,hr]) hp hwf h

theorem D.ox {t ty:Nat}{x y:Operand}{ki:IntKind}{p q:Int}(e_0:Z6 (Nat.ble k 1) true o.dst (some d) o.op (.binOp .rem t x y ty) (gOf ds fr o.guard) (some g) (ev fr g x) (some (.int ki p)) (ev fr g y) (some (.int ki q)))(hq:0<q)(h0:0<=p)(e_1:Z2 (aO n ds ((d,g,.int ki (p % q))::fr) d) true (wfG ds fr g) true)(h:D cx R its ((d,g,.int ki (p % q))::fr) C L):D cx R ((i,k,o)::its) fr C L :=
  have ⟨hk,hd,hop,hg,hx,hy⟩:=e_0;have ⟨hp,hwf⟩:=e_1;D.run _ hk hd hg (fun _ a hs w=>by
    rw [bB hop (hs _ _ hx) (hs _ _ hy) (fun _ _=>.inl (by simp)) (.inl (by simp)) w];have hq0:q≠0:=by omega
    simp [binOp,Op.intDiv,hq0,Int.tmod_eq_emod_of_nonneg h0]) hp hwf h

theorem D.bT {src dst:Nat}{x:Operand}{ki kj:IntKind}{p c:Int}{ts td:TI}(e_0:Z8 k 2 o.dst (some d) o.op (.convert src dst x) (gOn ds fr o.guard) true (ev fr [] x) (some (.int ki p)) (cx.T.get src) (some ts) (cx.T.get dst) (some td) td.k (.int kj))(hc:kj.wrap p=c)(hp:∀ v,aO n ds ((d,[],v)::fr) d=true)(h:D cx R its ((d,[],.int kj c)::fr) C L):D cx R ((i,k,o)::its) fr C L :=
  have ⟨hk,hd,hop,hg,hx,hts,htd,hkd⟩:=e_0;D.gF (S:=fun v C' L'=>v=.int kj c/\C'=C/\L'=L) (by subst hk;rfl) hd hg hp (fun a hs w _ hw=>by
    have hex:(execOp a.eval o).run cx.P w=.ok (.value (.int kj c)) w:=by
      have e1:execOp a.eval o=(do Pure.pure (.value (<- convert src dst (a.eval x))):Sem Next):=by unfold execOp;rw [hop]
      rw [e1,hs _ _ hx];obtain ⟨du,h1,h2⟩:=(dW cx.hT hts).und;obtain ⟨kk,s1,b1,z1,g1⟩:=td;simp only at hkd;subst hkd;subst hc;simp [convert,run_underlying h1,run_underlying (pX cx.hT htd),Conv.intToInt]
    unfold Oper.wp;rw [hex];exact ⟨_,C,L,Z,Mem.le.refl _,fun _ _ h=>h,hw,Z,Z,Z⟩)
    (fun v C' L' _ ⟨e1,e2,e3⟩=>by subst e1;subst e2;subst e3;exact h)
end

/-! ### New blocks whose content the tape settles -/
structure Fresh (w w':World)(ob:Obj):Prop where
  os:w'.os=w.os
  tape:w'.tape=w.tape
  output:w'.output=w.output
  size:w'.heap.size=w.heap.size+1
  old:∀ k,k<w.heap.size->w'.heap[k]?=w.heap[k]?
  new:w'.heap[w.heap.size]?=some ob
  drawn:w.drawn<=w'.drawn

theorem St.fresh {w0:World}{C0:Mem}{L0:List Ent}{C:Mem}{L:List Ent}{w w':World}(h:St w0 C0 L0 C L w){ob:Obj}(hf:Fresh w w' ob):St w0 C0 L0 C (.obj w.heap.size ob::L) w':=by
  have h1:=St.alloc h ob;have hh:w'.heap=(w.alloc ob).heap:=by
    apply Array.ext_getElem?;intro k;rcases Nat.lt_trichotomy k w.heap.size with hk | hk | hk
    · rw [hf.old k hk,RowKit.Below.heap_alloc w ob k hk]
    · subst hk;rw [hf.new,heap_alloc_new]
    · rw [Ok (by rw [hf.size];omega),Ok (by simp;omega)]
  exact h1.same hf.os hf.tape hf.output hh hf.drawn

section
variable {cx:Cx} {n:Nat} {ds:List (Option Nat)} {R:Rg n ds} {its:List It} {fr:Fr} {C:Mem} {L:List Ent} {i k d:Nat} {o:Oper} {g:GL} {v:Value}

theorem D.xN {S:Value->Nat->Obj->Prop}(hk:Nat.ble k 1=false)(hd:o.dst=some d)(hg:gOn ds fr o.guard=true)(hp:∀ v,aO n ds ((d,[],v)::fr) d=true)
    (hrun:∀ a,D1 (ev fr []) a->∀ w C0 L0 w0,St w0 C0 L0 C L w->∃ v ob w',(execOp a.eval o).run cx.P w=.ok (.value v) w'/\Fresh w w' ob/\S v w.heap.size ob)
    (h:∀ v b ob C',C.le C'->C' b=some ob->S v b ob->D cx R its ((d,[],v)::fr) C' L):D cx R ((i,k,o)::its) fr C L :=
  D.gF (S:=fun v C' L'=>L'=L/\∃ b ob,C' b=some ob/\S v b ob) hk hd hg hp (fun a hs w _ hw=>by
    obtain ⟨v,ob,w',hr,hf,hS⟩:=hrun a hs w _ _ _ hw;unfold Oper.wp;rw [hr];have h1:=St.fresh hw hf;have h2:=h1.freeze;exact ⟨v,C.set w.heap.size ob,L,Z,h2.1,fun _ x hx=>hx,h2.2,Z,w.heap.size,ob,Mem.set_self _ _ _,hS⟩)
    (fun v C' L' hle ⟨e1,b,ob,e2,e3⟩=>by subst e1;exact h v b ob C' hle e2 e3)

theorem fw (s:List UInt8):(s.map fun b=>[Value.int .u8 b.toNat]).flatten=s.map fun b=>Value.int .u8 b.toNat:=by
  induction s with
  | nil=>rfl
  | cons b s ih=>simp [ih]

theorem D.zo {src dst e:Nat}{x:Operand}{s:List UInt8}{ts td te:TI}(hk:k=2)(hd:o.dst=some d)(hop:o.op=.convert src dst x)(hg:gOn ds fr o.guard=true)(hx:ev fr [] x=some (.string ⟨s.toArray⟩))
    (hts:cx.T.get src=some ts) (htd:cx.T.get dst=some td) (hkd:td.k=.slice e) (hte:cx.T.get e=some te) (hke:te.k=.int .u8) (hlen:s.length<=maxLen) (hp:∀ v,aO n ds ((d,[],v)::fr) d=true)
    (h:∀ p C',C.le C'->Sl C' 1 p (s.map fun b=>[.int .u8 b.toNat])->D cx R its ((d,[],p)::fr) C' L):D cx R ((i,k,o)::its) fr C L:=by
  refine D.xN (S:=fun v b ob=>∃ (blk:Array Value)(fz:Nat × Nat)(c:Nat),v=.slice (some ⟨b,0,none⟩) s.length c/\ob=.cells blk e fz/\s.length<=c/\c<=maxLen/\∀ (j:Nat)(u:Value),(s.map fun b=>Value.int .u8 b.toNat)[j]?=some u->blk[j]?=some u)
    (by subst hk;rfl) hd hg hp (fun a hs w _ _ _ _=>?_) (fun v b ob C' hle hb ⟨blk,fz,c,e1,e2,e3,e4,e5⟩=>?_)
  · obtain ⟨du,h1,_⟩:=(dW cx.hT hts).und;obtain ⟨kk,s1,b1,z1,g1⟩:=td;simp only at hkd;subst hkd;obtain ⟨kk2,s2,b2,z2,g2⟩:=te;simp only at hke;subst hke;have hr:=Lib.run_convert_string_bytes (P:=cx.P) w src dst e ⟨s.toArray⟩ h1 (ck cx.hT htd) (pX cx.hT hte);refine ⟨.slice (some ⟨w.heap.size,0,none⟩) s.length (grownCap w s.length 0 e),_,Lib.bytesWorld w e ⟨s.toArray⟩, ?_,⟨?_, ?_, ?_,Lib.bytesWorld_size w e ⟨s.toArray⟩,fun k hk=>Lib.bytesWorld_at_old w e ⟨s.toArray⟩ k hk,Lib.bytesWorld_at_new w e ⟨s.toArray⟩,bw _ hr⟩, ?_⟩
    · have e1:execOp a.eval o=(do Pure.pure (.value (<- convert src dst (a.eval x))):Sem Next):=by unfold execOp;rw [hop]
      rw [e1,hs _ _ hx];simp only [Sem.run_bind,hr,Result.andThen_ok,Sem.run_pure];rfl
    · unfold Lib.bytesWorld World.freeze;split <;> rfl
    · unfold Lib.bytesWorld World.freeze;split <;> rfl
    · unfold Lib.bytesWorld World.freeze;split <;> rfl
    · refine ⟨_,_,_,rfl,rfl,by have:=grownCap_ge w s.length 0 e;simpa [ByteArray.size] using this,by have:=grownCap_le_maxLen w s.length 0 e hlen;simpa [ByteArray.size] using this,fun j u hj=>?_⟩;have hj':j<s.length:=by have:=(aJ.1 hj).1;simpa using this
      rw [bX] at hj;simp only [Lib.bytesCells];rw [Array.getElem?_append_left (by simp;exact hj')];simp only [Array.getElem?_map,LB];exact hj
  · subst e1;subst e2;have:=Sl.ofBlock (rows:=s.map fun b=>[Value.int .u8 b.toNat]) (s:=1) (c:=c) hb (by simp) (fun j v hj=>e5 j v (by
      have hf:(s.map fun b=>[Value.int .u8 b.toNat]).flatten=s.map fun b=>Value.int .u8 b.toNat:=by
        exact fw s
      rw [hf] at hj;exact hj)) (by simpa using e3) e4
    simp only [aH] at this;exact h _ C' hle this

/-! ### Rows of the function's own: reading and writing elements -/
theorem D.bu (off:Nat){t e g0 len cap size:Nat}{x y:Operand}{ki:IntKind}{m:Int}{ti te:TI}(e_0:Z10 (Nat.ble k 1) true o.dst (some d) o.op (.indexAddr t x y) (gOf ds fr o.guard) (some g) (ev fr g x) (some (.slice (some ⟨g0,0,none⟩) len cap)) (ev fr g y) (some (.int ki m)) (cx.T.get t) (some ti) ti.k (.slice e) (cx.T.get e) (some te) te.size size)(h0:GT ds fr g->0<=m/\m<len/\off=m.toNat*size)(e_1:Z2 (aO n ds ((d,g,.pointer (some ⟨g0,off,none⟩))::fr) d) true (wfG ds fr g) true)(h:D cx R its ((d,g,.pointer (some ⟨g0,off,none⟩))::fr) C L):D cx R ((i,k,o)::its) fr C L:=by
  have ⟨hk,hd,hop,hg,hx,hy,ht,hte,he,hsz⟩:=e_0;have ⟨hp,hwf⟩:=e_1;have hu:cx.P.underlying t=some (.slice e):=by
    obtain ⟨kk,s1,b1,z1,g1⟩:=ti;simp only at hte;subst hte;exact ck cx.hT ht
  refine D.run _ hk hd hg (fun hGT a hs w=>?_) hp hwf h;obtain ⟨hm0,hml,rfl⟩:=h0 hGT;have e1:execOp a.eval o=(do Pure.pure (.value (<- Instr.indexAt t (a.eval x) (a.eval y))):Sem Next):=by unfold execOp;rw [hop]
  rw [e1,hs _ _ hx,hs _ _ hy];have h2:=dJ cx.hT he w;rw [hsz] at h2;simp [Instr.indexAt,asIntOf,run_underlying hu,h2,hm0,hml,Addr.add_lit]

theorem cE {w:World}{e size len g0 m cap:Nat}{xs:List Value}(h:w.ownsRow 0 e size (.slice (some ⟨g0,0,none⟩) m cap) len xs) :
    m=len/\len<=cap/\cap<=maxLen/\∃ cur:Array Value,w.heap[g0]?=some (.cells cur e (0,0))/\cur.size=cap*size/\cur.toList.take (len*size)=xs:=by
  rcases h.2 with ⟨h1,_⟩ | ⟨g,c,cur,hv,_,hh,h3,h4,h5,h6⟩
  · cases h1
  · cases hv
    exact ⟨Z,h3,h4,cur,hh,h5,h6⟩

theorem D.er {t g0 off e size len m cap:Nat}{x:Operand}{xs:List Value}{ti:TI}(hm:Ent.arr (.slice (some ⟨g0,0,none⟩) m cap) e size len xs∈L)(e_0:Z6 k 1 o.dst (some d) o.op (.load t x) (gOf ds fr o.guard) (some g) (ev fr g x) (some (.pointer (some ⟨g0,off,none⟩))) (cx.T.get t) (some ti))(hv:GT ds fr g->bR ti ((xs.drop off).take ti.size)=some v)(e_1:Z2 (aO n ds ((d,g,v)::fr) d) true (wfG ds fr g) true)(h:D cx R its ((d,g,v)::fr) C L):D cx R ((i,k,o)::its) fr C L :=
  have ⟨hk,hd,hop,hg,hx,ht⟩:=e_0;have ⟨hp,hwf⟩:=e_1;D.gH (by subst hk;rfl) hd hg hp hwf (fun hGT a hs κ' hκ w hw=>by
    have hown:w.ownsRow 0 e size (.slice (some ⟨g0,0,none⟩) m cap) len xs:=hw.sep.e _ ((hκ hk).2 _ hm);obtain ⟨_,_,_,cur,hb,_,htake⟩:=cE hown;have hcell:∀ j u,((xs.drop off).take ti.size)[j]?=some u->w.cell? ((⟨g0,off,none⟩:Addr).add j)=some u:=fun j u hj=>by
      rw [Addr.add_lit,cell_of_row w g0 (off+j) _ e (0,0) hb];rw [Ly] at hj;split at hj
      · rw [List.getElem?_drop,<- htake,Ly] at hj;split at hj
        · simpa using hj
        · cases hj
      · cases hj
    have hex:(execOp a.eval o).run cx.P w=.ok (.value v) w:=by
      have e1:execOp a.eval o=(do Pure.pure (.value (<- Instr.loadAt t (a.eval x))):Sem Next):=by unfold execOp;rw [hop]
      rw [e1,hs _ _ hx];simp only [Instr.loadAt,Instr.sureAddr,Sem.run_bind,Sem.run_pure,Result.andThen_ok];rw [eT cx.hT ht hcell (hv hGT)];rfl
    unfold Oper.quietAt;rw [hex];exact ⟨Z,Z⟩) h

theorem iQ (cs vs:List Value)(off n:Nat)(h:off+vs.length<=n)(hn:n<=cs.length):(aM cs vs off).take n=aM (cs.take n) vs off:=by
  unfold aM;apply List.ext_getElem?;intro i;simp only [Ly,List.getElem?_append,eh,eB,List.getElem?_drop];have e1:min off cs.length=off:=by omega
  have e2:min off (min n cs.length)=off:=by omega
  rw [e1,e2];by_cases h1:i<off
  · simp [h1,show i<off+vs.length by omega,show i<n by omega]
  · by_cases h2:i<off+vs.length
    · simp [h1,h2,show i<n by omega]
    · simp only [h1,h2,LZ];have e3:off+vs.length+(i-(off+vs.length))=i:=by omega
      rw [e3]

theorem D.bE {t g0 off j e size len m cap:Nat}{x y:Operand}{xs vs:List Value}{ti:TI}(e_0:Z11 k 3 (gOn ds fr o.guard) true o.dst none o.op (.store t x y) (ev fr [] x) (some (.pointer (some ⟨g0,off,none⟩))) (ev fr [] y) (some v) (L[j]?) (some (.arr (.slice (some ⟨g0,0,none⟩) m cap) e size len xs)) (cx.T.get t) (some ti) v.cells ⟨vs⟩ (Nat.beq vs.length ti.size) true (vs.all uo) true)(hfit:off+vs.length<=xs.length)(h:D cx R its fr C (.arr (.slice (some ⟨g0,0,none⟩) m cap) e size len (aM xs vs off)::L.eraseIdx j)):D cx R ((i,k,o)::its) fr C L :=
  have ⟨hk,hg,hd,hop,hx,hy,hm,ht,hv,hl,h1⟩:=e_0;D.tS (S:=fun C' L'=>C'=C/\L'=.arr (.slice (some ⟨g0,0,none⟩) m cap) e size len (aM xs vs off)::L.eraseIdx j) (by subst hk;rfl) hg (fun a hs w _ hw=>by
    have hw':=St.perm hw (aC hm);have hown:w.ownsRow 0 e size (.slice (some ⟨g0,0,none⟩) m cap) len xs:=hw'.sep.e _ (br ..);obtain ⟨rfl,hlc,hcm,cur,hb,hcs,htake⟩:=cE hown;obtain ⟨cur⟩:=cur;simp only [MQ] at hcs;simp only at htake;have hxl:xs.length=m*size:=hown.1;have hcl:m*size<=cur.length:=by rw [hcs];exact Lm _ hlc
    have hex:(execOp a.eval o).run cx.P w=.ok .skip (w.setRow g0 (aM cur vs off).toArray):=by
      have e1:execOp a.eval o=(do Instr.storeAt t (a.eval x) (a.eval y);Pure.pure .skip:Sem Next):=by unfold execOp;rw [hop]
      rw [e1,hs _ _ hx,hs _ _ hy];simp only [Instr.storeAt,Instr.sureAddr,Sem.run_bind,Sem.run_pure,Result.andThen_ok];rw [li cx.hT ht hb hv (fB hl) om_ (fun u hu=>jK (ep.1 h1 u hu))];rfl
    have hlen:(aM cur vs off).length=cur.length:=by unfold aM;simp;omega
    have hnew:(w.setRow g0 (aM cur vs off).toArray).ownsRow 0 e size (.slice (some ⟨g0,0,none⟩) m cap) m (aM xs vs off) :=
      ⟨by have:(aM xs vs off).length=xs.length:=by unfold aM;simp;omega
          omega,.inr ⟨g0,cap,_,rfl,ch _,setRow_heap w g0 _ _ e _ hb,hlc,hcm,by simp [hlen,hcs],by
            rw [<- htake];exact iQ cur vs off (m*size) om_ hcl⟩⟩
    unfold Oper.wp;rw [hex];refine ⟨C,.arr (.slice (some ⟨g0,0,none⟩) m cap) e size m (aM xs vs off)::L.eraseIdx j, ?_,Mem.le.refl _,fun h2=>by omega,
      St.turn hw' hnew ⟨rfl,rfl,rfl,by simp,fun k _ hk=>setRow_other w g0 k _ (fun e=>hk (by simp [Value.ownBlock,e]))⟩ (aP _) (.inl rfl),rfl,rfl⟩
    rw [hd];rfl)
    (fun C' L' _ ⟨e1,e2⟩=>by subst e1;subst e2;exact h)
end

section
variable {F:Fx} {k:List KI} {fr:Fr} {C:Mem} {L:List Ent}
def Iy (v:Value)(n:Nat):Prop:=(v=.slice none 0 0/\n=0)∨∃ g c,v=.slice (some ⟨g,0,none⟩) n c/\n<=c/\c<=maxLen
theorem G.form {e:Exit}{v:Value}{t size len:Nat}{xs:List Value}(hm:Ent.arr v t size len xs∈L)(h:Iy v len->xs.length=len*size->G F k e fr C L):G F k e fr C L:=fun h0 a w ha hw=>by
  have hown:w.ownsRow 0 t size v len xs:=hw.sep.e _ hm;refine h ?_ hown.1 h0 a w ha hw;rcases hown.2 with h1 | ⟨g,c,cur,hv,_,_,h3,h4,_⟩
  · exact .inl h1
  · exact .inr ⟨g,c,hv,h3,h4⟩

theorem St.freezeArr {w0:World}{C0:Mem}{L0:List Ent}{w:World}{v:Value}{t size len:Nat}{rows:List (List Value)}(h:St w0 C0 L0 C (.arr v t size len rows.flatten::L) w)(hl:∀ r∈rows,r.length=size)(hn:rows.length=len) :
    ∃ C',C.le C'/\Sl C' size v rows/\St w0 C0 L0 C' L w:=by
  have hown:w.ownsRow 0 t size v len rows.flatten:=h.sep.e _ (br ..);subst hn;rcases hown.2 with ⟨rfl,hz⟩ | ⟨g,c,cur,rfl,_,hh,h3,h4,h5,h6⟩
  · have:rows=[]:=LL hz;subst this;exact ⟨C,Mem.le.refl _,Sl.nil C size,h.drop⟩
  · have h':St w0 C0 L0 C (.obj g (.cells cur t (0,0))::L) w :=
      ⟨⟨h.sep.c,fun x hx=>by
        rcases cI.1 hx with rfl | hx
        · exact hh
        · exact h.sep.e x (by simp [hx]),by
        have:=Ls.1 h.sep.d;exact Ls.2 ⟨fun y hy k hk=>this.1 y hy k (by simp only [Ent.own] at hk ⊢;simp [Value.ownBlock,hk]),this.2⟩,fun k ⟨x,hx,hk⟩=>by
        rcases cI.1 hx with rfl | hx
        · simp only [Ent.own] at hk;exact h.sep.n k ⟨_,br ..,by simp [Ent.own,Value.ownBlock,hk]⟩
        · exact h.sep.n k ⟨x,by simp [hx],hk⟩⟩,h.ev,h.c0,h.cn,fun k ⟨x,hx,hk⟩=>by
        rcases cI.1 hx with rfl | hx
        · simp only [Ent.own] at hk;exact h.ln k ⟨_,br ..,by simp [Ent.own,Value.ownBlock,hk]⟩
        · exact h.ln k ⟨x,by simp [hx],hk⟩⟩
    have h2:=h'.freeze;refine ⟨_,h2.1,Sl.ofBlock (Mem.set_self C g _) hl (fun j u hj=>?_) h3 h4,h2.2⟩;rw [<- h6,Ly] at hj;split at hj
    · simpa using hj
    · cases hj

theorem G.freezeArr {e:Exit}(j:Nat){v:Value}{t size len:Nat}(rows:List (List Value)){xs:List Value}(e_0:Z2 (L[j]?) (some (.arr v t size len xs)) xs rows.flatten)(hl:∀ r∈rows,r.length=size)(hn:rows.length=len)(h:∀ C',C.le C'->Sl C' size v rows->G F k e fr C' (L.eraseIdx j)):G F k e fr C L:=have ⟨hj,hx⟩:=e_0;fun h0 a w ha hw=>by
  subst hx;obtain ⟨C',h1,h2,h3⟩:=St.freezeArr (St.perm hw (aC hj)) hl hn;exact h C' h1 h2 (h0.trans h1) a w ha h3

theorem G.freeze {e:Exit}(j:Nat){b:Nat}{ob:Obj}(hj:L[j]?=some (.obj b ob))(h:∀ C',C.le C'->C' b=some ob->G F k e fr C' (L.eraseIdx j)):G F k e fr C L:=fun h0 a w ha hw=>by
  have h1:=St.freeze (St.perm hw (aC hj));exact h _ h1.1 (Mem.set_self _ _ _) (h0.trans h1.1) a w ha h1.2

theorem G.nilArr {e:Exit}(t size:Nat)(h:G F k e fr C (.arr (.slice none 0 0) t size 0 []::L)):G F k e fr C L:=fun h0 a w ha hw=>h h0 a w ha (St.nilArr hw t size)
end
end Go.Jog
namespace Go.Jog
open Go

/-! ### Literals -/
def yK (place:Nat->Option (Nat × Nat))(cs:List Value):List (Nat × Value)->Option (List Value)
  | []=>some cs
  | (i,v)::r=>match place i with
    | some (off,size)=>bif Nat.beq (sx v).length size && Nat.ble (off+size) cs.length then yK place (aM cs (sx v) off) r else none
    | none=>none

theorem gx {cs vs:List Value}{off:Nat}(h:off+vs.length<=cs.length):(aM cs vs off).length=cs.length:=by unfold aM;simp;omega

theorem uM {place:Nat->Option (Nat × Nat)}:∀ {ps:List (Nat × Value)}{cs cs':List Value},yK place cs ps=some cs'->Instr.fill place ⟨cs⟩ ps=some ⟨cs'⟩
  | [],cs,cs',h=>by simp [yK] at h;subst h;simp [Instr.fill]
  | (i,v)::r,cs,cs',h=>by
    simp only [yK] at h;split at h
    · rename_i off size hp;cases hb:Nat.beq (sx v).length size && Nat.ble (off+size) cs.length with
      | false=>rw [hb] at h;cases h
      | true =>
        rw [hb] at h;simp only [Mm] at h;rw [bL] at hb;have h1:=fB hb.1;have h2:off+size<=cs.length:=by have:=hb.2;rwa [Mg] at this
        have hc:v.cells.toList=sx v:=jb v;have hs:v.cells.size=size:=by rw [<- h1,<- hc];simp
        simp only [Instr.fill,hp];have hno:¬ (v.cells.size≠size || decide (off+v.cells.size > (⟨cs⟩:Array Value).size))=true:=by simp [hs];omega
        rw [a7 (by simpa using hno)];have hf:=nk [] off v.cells.toList 0 ⟨cs⟩ (by simp [hs];omega);simp only [Mc,N2] at hf;have hz:(v.cells.zipIdx.foldl (fun (cs:Array Value)(c,j_1)=>cs.setIfInBounds (off+j_1) c) (⟨cs⟩:Array Value))=(⟨aM cs (sx v) off⟩:Array Value):=by
          apply Ml;rw [<- Array.foldl_toList,Array.toList_zipIdx];rw [hf];unfold aM;rw [<- hc];simp
        rw [hz];exact uM h
    · cases h

def mL (T:Tab):List (Nat × Nat)->Option (List (Nat × Nat))
  | []=>some []
  | (ty,off)::r=>match T.get ty,mL T r with
    | some i,some ps=>some ((off,i.size)::ps)
    | _,_=>none

theorem lj {T:Tab}{P:Program}(hT:mr P T=true):∀ {fs:List Field}{ps:List (Nat × Nat)},mL T (fs.map fun f=>(f.type,f.offset))=some ps->fs.mapM (fun f=>(P.info? f.type).map fun i=>(f.offset,i.size))=some ps
  | [],ps,h=>by simp [mL] at h;subst h;rfl
  | f::fs,ps,h=>by
    simp only [Li,mL] at h;split at h
    · rename_i i ps' hi hps;cases h
      obtain ⟨inf,h1,h2,_⟩:=(dW hT hi).info;have:=lj hT hps;simp [List.mapM_cons,h1,this,h2]
    · cases h

def Kg (T:Tab)(t:Nat)(parts:List (Nat × Value)):Option (List Value):=match T.get t with
  | some ⟨.struct fs,_,_,z,_⟩=>match mL T fs with
    | some ps=>yK (ps[·]?) (z.map Zv.val) parts
    | none=>none
  | some ⟨.arr _ e,_,_,z,_⟩=>match T.get e with
    | some i=>yK (fun j=>some (j*i.size,i.size)) (z.map Zv.val) parts
    | none=>none
  | _=>none

theorem BD {T:Tab}{P:Program}(hT:mr P T=true){t:Nat}{parts:List (Nat × Value)}{cs:List Value}(h:Kg T t parts=some cs):P.built t parts=some ⟨cs⟩:=by
  unfold Kg at h;split at h
  · rename_i fs s b z g ht;obtain ⟨fields,hu,hfs⟩:=km hT ht;obtain ⟨inf,h1,h2,_,h4,h5⟩:=(dW hT ht).info;split at h
    · rename_i ps hps;subst hfs;have hp:=lj hT hps;unfold Program.built;simp only [h1,hu,h4,hp];have:=uM h;have e:(fun x:Nat=>(ps.toArray[x]?:Option (Nat × Nat)))=(fun x:Nat=>ps[x]?):=by funext x;simp
      simp only at h5;rw [e,h5];exact this
    · cases h
  · rename_i m e s b z g ht;have hu:=ko hT ht;obtain ⟨inf,h1,h2,_,h4,h5⟩:=(dW hT ht).info;split at h
    · rename_i i hi;obtain ⟨ife,h6,h7,_⟩:=(dW hT hi).info;unfold Program.built;simp only [h1,hu,h4,h6,h7];have:=uM h;simp only at h5;rw [h5];exact this
    · cases h
  · cases h

def oR (ρ:Operand->Option Value):List (Nat × Operand)->Option (List (Nat × Value))
  | []=>some []
  | (j,x)::r=>match ρ x,oR ρ r with
    | some v,some vs=>some ((j,v)::vs)
    | _,_=>none

theorem mM {ρ:Operand->Option Value}{ρ':Operand->Value}(hρ:∀ x v,ρ x=some v->ρ' x=v):∀ {ps:List (Nat × Operand)}{vs:List (Nat × Value)},oR ρ ps=some vs->ps.map (fun (i,x)=>(i,ρ' x))=vs
  | [],vs,h=>by simp [oR] at h;subst h;rfl
  | (j,x)::r,vs,h=>by
    simp only [oR] at h;split at h
    · rename_i v vs' h1 h2;cases h
      simp only [Li,hρ x v h1,mM hρ h2]
    · cases h

/-! ### Equality of structs of plain fields -/
def G6:Value->Value->Option Bool
  | .int k a,.int k' b=>bif k == k' then some (a == b) else none
  | .string a,.string b=>some (a.data.toList == b.data.toList)
  | .bool a,.bool b=>some (a == b)
  | _,_=>none

def ii:List Value->List Value->Option Bool
  | [],[]=>some true
  | x::xs,y::ys=>match G6 x y,ii xs ys with
    | some a,some b=>some (a && b)
    | _,_=>none
  | _,_=>none

def oQ:TypeDesc->Bool
  | .int _ | .bool | .string=>true
  | _=>false

def Fc (P:Program):List Field->Nat->Bool
  | [],_=>true
  | f :: fs, i => Nat.beq f.offset i && (f.name != "_") && (match P.underlying f.type with | some d => oQ d | none => false) && Fc P fs (i + 1)

def nt (P:Program)(t:Nat):Bool:=match P.underlying t with
  | some (.struct fs)=>Fc P fs.toList 0 && !(P.stoodInHeld t) && !(P.eqGuardType P.depth t)
  | _=>false

theorem eU {P:Program}{t:TypeId}{d:TypeDesc}(h:P.underlying t=some d)(hd:oQ d=true)(w:World):(isAgg t).run P w=.ok false w:=by
  unfold isAgg;simp only [Sem.run_bind,run_underlying h,Result.andThen_ok];cases d <;> first | rfl | cases hd

theorem gX {P:Program}{t:TypeId}{d:TypeDesc}(h:P.underlying t=some d)(hd:oQ d=true){cs:List Value}{off:Nat}{v:Value}(hv:cs[off]?=some v)(w:World):(part t ⟨cs⟩ off).run P w=.ok v w:=by
  unfold part;simp only [Sem.run_bind,eU h hd w,Result.andThen_ok];simp [hv]

def o9:Option TypeDesc->Value->Bool
  | some (.int _),.int _ _=>true
  | some .string,.string _=>true
  | some .bool,.bool _=>true
  | _,_=>false

theorem vS {P:Program}{t:TypeId}{x y:Value}{b:Bool}(hs:G6 x y=some b)(m:Nat)(w:World)(hm:o9 (P.underlying t) x=true):(Op.equalIn (m+1) t x y).run P w=.ok b w:=by
  unfold o9 at hm;split at hm
  · rename_i q k a hu;unfold G6 at hs;cases y <;> try (simp at hs;done)
    rename_i k' c;simp only at hs;by_cases hk:k=k'
    · subst hk;simp only [beq_self_eq_true,Mm,zl] at hs;subst hs;exact run_equalIn_int w m t k q a c hu
    · rw [Mt.2 hk] at hs;cases hs
  · rename_i a hu;unfold G6 at hs;cases y <;> try (simp at hs;done)
    rename_i c;simp only [zl] at hs;subst hs;have:=run_equalIn_string (P:=P) w m t a c hu;simpa [toList_eq] using this
  · rename_i a hu;unfold G6 at hs;cases y <;> try (simp at hs;done)
    simp only [zl] at hs;subst hs;exact run_equalIn_bool w m t _ _ hu
  · cases hm

def Fd (P:Program):List Field->List Value->Bool
  | [],[]=>true
  | f::fs,x::xs=>o9 (P.underlying f.type) x && Fd P fs xs
  | _,_=>false
def JI (P:Program)(t:Nat)(xs:List Value):Bool:=match P.underlying t with
  | some (.struct fs)=>Fd P fs.toList xs
  | _=>false

theorem fI {P:Program}(m:Nat)(w:World):∀ {fs:List Field}{i:Nat}{xs ys X Y:List Value}{b:Bool},Fc P fs i=true->Fd P fs xs=true->ii xs ys=some b->X.drop i=xs->Y.drop i=ys ->
    (Op.eqFields (m+1) ⟨X⟩ ⟨Y⟩ fs).run P w=.ok b w
  | [],i,xs,ys,X,Y,b,_,hf,he,_,_=>by
    cases xs with
    | nil =>
      cases ys with
      | nil=>simp [ii] at he;subst he;simp [Op.eqFields]
      | cons=>simp [ii] at he
    | cons=>simp [Fd] at hf
  | f::fs,i,xs,ys,X,Y,b,hfl,hf,he,hX,hY=>by
    cases xs with
    | nil=>simp [Fd] at hf
    | cons x xs =>
      cases ys with
      | nil=>simp [ii] at he
      | cons y ys =>
        simp only [Fc,bL] at hfl;obtain ⟨⟨⟨h1,h2⟩,h3⟩,h4⟩:=hfl;obtain rfl:=fB h1;simp only [Fd,bL] at hf;simp only [ii] at he;split at he
        · rename_i p q hp hq;cases he
          have hx:X[f.offset]?=some x:=by
            have:=congrArg (·[0]?) hX;simpa using this
          have hy:Y[f.offset]?=some y:=by
            have:=congrArg (·[0]?) hY;simpa using this
          have hX':X.drop (f.offset+1)=xs:=by
            have:=congrArg (List.drop 1) hX;simpa using this
          have hY':Y.drop (f.offset+1)=ys:=by
            have:=congrArg (List.drop 1) hY;simpa using this
          cases hu:P.underlying f.type with
          | none=>rw [hu] at h3;cases h3
          | some d =>
            rw [hu] at h3;have hn : f.name ≠ "_" := by simpa using h2
            have hr:=vS hp m w hf.1;have ih:=fI m w h4 hf.2 hq hX' hY';simp only [Op.eqFields,hn,ne_eq,not_false_eq_true,Mb,Sem.run_bind,gX hu h3 hx w,gX hu h3 hy w,hr,Result.andThen_ok];cases p
            · simp
            · simpa using ih
        · cases he

theorem i7 {P:Program}{t:Nat}(ht:nt P t=true){xs ys:List Value}(hf:JI P t xs=true){b:Bool}(he:ii xs ys=some b)(w:World):(Op.equalIn 10000 t (.agg ⟨xs⟩) (.agg ⟨ys⟩)).run P w=.ok b w:=by
  unfold nt at ht;split at ht
  · rename_i fs hu;simp only [bL,Mu] at ht;have hfs:P.fieldsOf t=fs:=by simp [Program.fieldsOf,hu]
    rw [run_equalIn_struct w 9999 t _ _ (by rw [hfs];exact hu) ht.1.2,hfs];unfold JI at hf;rw [hu] at hf;exact fI 9998 w ht.1.1 hf he Z Z
  · cases ht

section
variable {cx:Cx} {n:Nat} {ds:List (Option Nat)} {R:Rg n ds} {its:List It} {fr:Fr} {C:Mem} {L:List Ent} {i k d:Nat} {o:Oper} {g:GL} {v:Value}

theorem f8 {a:Act}{o:Oper}{op:BinOp}{t ty:Nat}{x y:Operand}(hop:o.op=.binOp op t x y ty) :
    execOp a.eval o=((eqGuard op t x y (a.eval x) (a.eval y) >>= fun _=>binOp op t (a.eval x) (a.eval y)) >>= fun r=>Pure.pure (.value r)):=by
  obtain ⟨dst,op',ty',pos,after,guard⟩:=o;simp only at hop;subst hop;rfl

theorem lu {P:Program}{t:Nat}(ht:nt P t=true):P.eqGuardType P.depth t=false:=by
  unfold nt at ht;split at ht
  · simp only [bL,Mu] at ht;exact ht.2
  · cases ht

theorem D.build {t:Nat}{parts:Array (Nat × Operand)}{vs:List (Nat × Value)}(cs:List Value)(hk:Nat.ble k 1=true)(hd:o.dst=some d)(hop:o.op=.build t parts)(hg:gOf ds fr o.guard=some g)
    (hvs:oR (ev fr g) parts.toList=some vs) (hc:Kg cx.T t vs=some cs)
    (hp:aO n ds ((d,g,.agg ⟨cs⟩)::fr) d=true) (hwf:wfG ds fr g=true)
    (h:D cx R its ((d,g,.agg ⟨cs⟩)::fr) C L):D cx R ((i,k,o)::its) fr C L :=
  D.run _ hk hd hg (fun _ a hs w=>by
    have e1:execOp a.eval o=(do Pure.pure (.value (<- Instr.build t (parts.map fun (i,x)=>(i,a.eval x)))):Sem Next):=by unfold execOp;rw [hop]
    have e2:(parts.map fun (i,x)=>(i,a.eval x)).toList=vs:=by rw [Array.toList_map];exact mM (fun x v hx=>hs x v hx) hvs
    rw [e1];simp only [Sem.run_bind,run_build w t _ _ (by rw [e2];exact BD cx.hT hc),Result.andThen_ok,Sem.run_pure]) hp hwf h

theorem D.ap {t:Nat}{parts:Array (Nat × Operand)}{vs:List (Nat × Value)}(cs:List Value)(h:D cx R its ((d,g,.agg ⟨cs⟩)::fr) C L)(hk:Nat.ble k 1=true:=by rfl)(hd:o.dst=some d:=by rfl)(hop:o.op=.build t parts:=by rfl)(hg:gOf ds fr o.guard=some g:=by rfl)(hvs:oR (ev fr g) parts.toList=some vs:=by rfl)(hc:Kg cx.T t vs=some cs:=by rfl)(hp:aO n ds ((d,g,.agg ⟨cs⟩)::fr) d=true:=by rfl)(hwf:wfG ds fr g=true:=by rfl):D cx R ((i,k,o)::its) fr C L:=D.build cs hk hd hop hg hvs hc hp hwf h
theorem D.DW (b:Bool){t ty:Nat}{x y:Operand}{xs ys:List Value}{b':Bool}(ht:nt cx.P t=true)(hk:Nat.ble k 1=true)(hd:o.dst=some d)(hop:o.op=.binOp .eql t x y ty)(hg:gOf ds fr o.guard=some g)
    (hx:ev fr g x=some (.agg ⟨xs⟩)) (hy:ev fr g y=some (.agg ⟨ys⟩)) (hf:JI cx.P t xs=true) (he:ii xs ys=some b') (hb:GT ds fr g->b'=b)
    (hp:aO n ds ((d,g,.bool b)::fr) d=true) (hwf:wfG ds fr g=true)
    (h:D cx R its ((d,g,.bool b)::fr) C L):D cx R ((i,k,o)::its) fr C L :=
  D.run _ hk hd hg (fun hG a hs w=>by
    rw [f8 hop,hs _ _ hx,hs _ _ hy,<- hb hG];simp only [Sem.run_bind,run_eqGuard_agg w .eql t x y _ _ (lu ht),Result.andThen_ok,run_eql_struct,i7 ht hf he w,Sem.run_pure]) hp hwf h
theorem D.Ir (b:Bool){t ty:Nat}{x y:Operand}{xs ys:List Value}{b':Bool}(ht:nt cx.P t=true)(hk:Nat.ble k 1=true)(hd:o.dst=some d)(hop:o.op=.binOp .neq t x y ty)(hg:gOf ds fr o.guard=some g)
    (hx:ev fr g x=some (.agg ⟨xs⟩)) (hy:ev fr g y=some (.agg ⟨ys⟩)) (hf:JI cx.P t xs=true) (he:ii xs ys=some b') (hb:GT ds fr g->(!b')=b)
    (hp:aO n ds ((d,g,.bool b)::fr) d=true) (hwf:wfG ds fr g=true)
    (h:D cx R its ((d,g,.bool b)::fr) C L):D cx R ((i,k,o)::its) fr C L :=
  D.run _ hk hd hg (fun hG a hs w=>by
    rw [f8 hop,hs _ _ hx,hs _ _ hy,<- hb hG];simp only [Sem.run_bind,run_eqGuard_agg w .neq t x y _ _ (lu ht),Result.andThen_ok,run_neq_struct,i7 ht hf he w,Sem.run_pure]) hp hwf h

theorem D.Iq {t e ty:Nat}{x:Operand}{A:Option Addr}{m c:Nat}{ti:TI}(hk:Nat.ble k 1=true)(hd:o.dst=some d)(hop:o.op=.binOp .eql t x (.const (.slice none 0 0)) ty)(hg:gOf ds fr o.guard=some g)
    (hx:ev fr g x=some (.slice A m c)) (ht:cx.T.get t=some ti) (hte:ti.k=.slice e)
    (hp:aO n ds ((d,g,.bool A.isNone)::fr) d=true) (hwf:wfG ds fr g=true)
    (h:D cx R its ((d,g,.bool A.isNone)::fr) C L):D cx R ((i,k,o)::its) fr C L:=by
  have hu:cx.P.underlying t=some (.slice e):=by
    obtain ⟨kk,s1,b1,z1,g1⟩:=ti;simp only at hte;subst hte;exact ck cx.hT ht
  refine D.run _ hk hd hg (fun _ a hs w=>?_) hp hwf h;rw [bB hop (hs _ _ hx) rfl (fun _ _=>.inl (by simp)) (.inl (by simp)) w];simp only [binOp];simp only [Act.eval,Sem.run_bind,run_equal_slice_nil w t e A m c hu,Result.andThen_ok,Sem.run_pure]
theorem D.int {ki:IntKind}(c:Int){e:Int}(e_0:Z4 (Nat.ble k 1) true o.dst (some d) (gOf ds fr o.guard) (some g) (po cx.T (ev fr g) o.op) (some (.int ki (ki.wrap e))))(he:ki.wrap e=c)(e_1:Z2 (aO n ds ((d,g,.int ki c)::fr) d) true (wfG ds fr g) true)(h:D cx R its ((d,g,.int ki c)::fr) C L):D cx R ((i,k,o)::its) fr C L:=by
  have ⟨hk,hd,hg,hv⟩:=e_0;have ⟨hp,hwf⟩:=e_1;subst he;exact D.pure hk hd hg hv hp hwf h

theorem Bx (a b:List UInt8):(⟨a.toArray⟩:ByteArray)++⟨b.toArray⟩=⟨(a++b).toArray⟩:=by
  apply ByteArray.ext;simp [Oy]

theorem D.bM {t ty:Nat}{x y:Operand}{a b:List UInt8}(e_0:Z6 (Nat.ble k 1) true o.dst (some d) o.op (.binOp .add t x y ty) (gOf ds fr o.guard) (some g) (ev fr g x) (some (.string ⟨a.toArray⟩)) (ev fr g y) (some (.string ⟨b.toArray⟩)))(hl:GT ds fr g->a.length+b.length<=9223372036854775807)(e_1:Z2 (aO n ds ((d,g,.string ⟨(a++b).toArray⟩)::fr) d) true (wfG ds fr g) true)(h:D cx R its ((d,g,.string ⟨(a++b).toArray⟩)::fr) C L):D cx R ((i,k,o)::its) fr C L :=
  have ⟨hk,hd,hop,hg,hx,hy⟩:=e_0;have ⟨hp,hwf⟩:=e_1;D.run _ hk hd hg (fun hG c hs w=>by
    rw [bB hop (hs _ _ hx) (hs _ _ hy) (fun _ _=>.inl (by simp)) (.inl (by simp)) w];have h1:=hl hG;have h2:¬ (((⟨a.toArray⟩:ByteArray).size+(⟨b.toArray⟩:ByteArray).size:Nat):Int) > IntKind.i64.max:=by
      have e:IntKind.i64.max=9223372036854775807:=by decide
      rw [e];simp [ByteArray.size];omega
    simp only [binOp,Op.stringOp];rw [a7 h2,Bx];rfl) hp hwf h

theorem og {P:Program}{ki:IntKind}{m:Int}{y:Nat}{code:BoundsCode}(h0:0<=m)(h1:m<=y)(w:World):(Instr.sliceBound (.int ki m) y code).run P w=.ok m.toNat w:=by
  simp [Instr.sliceBound,asIntOf,h0,h1]

structure SlB (len cap:Nat)(lo hi mx:Option Value)(l h m:Nat):Prop where
  plo:(lo=none/\l=0)∨∃ k,lo=some (.int k l)
  phi:(hi=none/\h=len)∨∃ k,hi=some (.int k h)
  pmx:(mx=none/\m=cap)∨(∃ k,mx=some (.int k m))/\hi≠none
  lh:l<=h
  hm:h<=m
  mc:m<=cap

theorem eS {P:Program}{b:Bool}{len cap:Nat}{lo hi mx:Option Value}{l h m:Nat}(q:SlB len cap lo hi mx l h m)(w:World):(Instr.sliceBounds b len cap lo hi mx).run P w=.ok (l,h,m) w:=by
  obtain ⟨q1,q2,q3,q4,q5,q6⟩:=q;unfold Instr.sliceBounds;have hb:∀ (k:IntKind)(x y:Nat)(code:BoundsCode),x<=y->(Instr.sliceBound (.int k x) y code).run P w=.ok x w:=fun k x y code hxy=>by
    have:=og (P:=P) (ki:=k) (m:=(x:Int)) (y:=y) (code:=code) om_ om_ w;simpa using this
  rcases q3 with ⟨rfl,rfl⟩ | ⟨⟨k3,rfl⟩,hne⟩
  · rcases q2 with ⟨rfl,rfl⟩ | ⟨k2,rfl⟩
    · rcases q1 with ⟨rfl,rfl⟩ | ⟨k1,rfl⟩
      · simp
      · simp [hb _ _ _ _ q4]
    · rcases q1 with ⟨rfl,rfl⟩ | ⟨k1,rfl⟩
      · simp [hb _ _ _ _ q5]
      · simp [hb _ _ _ _ q4,hb _ _ _ _ q5]
  · rcases q2 with ⟨rfl,rfl⟩ | ⟨k2,rfl⟩
    · exact absurd rfl hne
    · rcases q1 with ⟨rfl,rfl⟩ | ⟨k1,rfl⟩
      · simp [hb _ _ _ _ q5,hb _ _ _ _ q6]
      · simp [hb _ _ _ _ q4,hb _ _ _ _ q5,hb _ _ _ _ q6]

def Bl (ρ:Operand->Option Value):Option Operand->Option (Option Value)
  | none=>some none
  | some x=>match ρ x with | some v=>some (some v) | none=>none
theorem el {ρ:Operand->Option Value}{ρ':Operand->Value}(hρ:∀ x v,ρ x=some v->ρ' x=v):∀ {x:Option Operand}{v:Option Value},Bl ρ x=some v->x.map ρ'=v
  | none,v,h=>by simp [Bl] at h;subst h;rfl
  | some x,v,h=>by
    simp only [Bl] at h;split at h
    · rename_i u hu;cases h;simp [hρ x u hu]
    · cases h

theorem D.fp (l:Nat)(h:Nat)(m:Nat){t e len cap size:Nat}{x:Operand}{lo hi mx:Option Operand}{lv hv mv:Option Value}{A:Option Addr}{ti te:TI}(e_0:Z12 (Nat.ble k 1) true o.dst (some d) o.op (.slice t x lo hi mx) (gOf ds fr o.guard) (some g) (ev fr g x) (some (.slice A len cap)) (Bl (ev fr g) lo) (some lv) (Bl (ev fr g) hi) (some hv) (Bl (ev fr g) mx) (some mv) (cx.T.get t) (some ti) ti.k (.slice e) (cx.T.get e) (some te) te.size size)(hq:GT ds fr g->SlB len cap lv hv mv l h m)(e_1:Z2 (aO n ds ((d,g,.slice (if m=l then A else A.map (·.add (l*size))) (h-l) (m-l))::fr) d) true (wfG ds fr g) true)(hh:D cx R its ((d,g,.slice (if m=l then A else A.map (·.add (l*size))) (h-l) (m-l))::fr) C L):D cx R ((i,k,o)::its) fr C L:=by
  have ⟨hk,hd,hop,hg,hx,hlo,hhi,hmx,ht,hte,he,hsz⟩:=e_0;have ⟨hp,hwf⟩:=e_1;have hu:cx.P.underlying t=some (.slice e):=by
    obtain ⟨kk,s1,b1,z1,g1⟩:=ti;simp only at hte;subst hte;exact ck cx.hT ht
  refine D.run _ hk hd hg (fun hG a hs w=>?_) hp hwf hh;have e1:execOp a.eval o=(do Pure.pure (.value (<- Instr.sliceAt t (a.eval x) (lo.map a.eval) (hi.map a.eval) (mx.map a.eval))):Sem Next):=by unfold execOp;rw [hop]
  rw [e1,hs _ _ hx,el (fun x v hx=>hs x v hx) hlo,el (fun x v hx=>hs x v hx) hhi,el (fun x v hx=>hs x v hx) hmx];have h2:=dJ cx.hT he w;rw [hsz] at h2;simp [Instr.sliceAt,Instr.slice,run_underlying hu,eS (hq hG),h2]

theorem Sl.sub {C:Mem}{k:Nat}{A:Option Addr}{len cap:Nat}{xs:List (List Value)}(hs:Sl C k (.slice A len cap) xs){l h m:Nat}(hl:l<=h)(hh:h<=xs.length)(hm:h<=m)(hc:m<=cap) :
    Sl C k (.slice (if m=l then A else A.map (·.add (l*k))) (h-l) (m-l)) ((xs.take h).drop l):=by
  obtain ⟨A',c,h1,h2,h3,h4,h5⟩:=hs;cases h1
  refine ⟨if m=l then A else A.map (·.add (l*k)),m-l, ?_,by simp;omega,by omega,fun x hx=>h4 x (LT (NX hx)),fun i x hi=>?_⟩
  · congr 1;simp;omega
  · rw [List.getElem?_drop,Ly] at hi;split at hi
    · rename_i hlt;obtain ⟨a,e1,e2,e3⟩:=h5 _ _ hi;subst e1;by_cases hml:m=l
      · omega
      · rw [a7 hml];refine ⟨a.add (l*k),Z,p4 a _ e2,fun j v hj=>?_⟩;rw [rC a _ _ e2];have:=e3 j v hj;have e:l*k+(i*k+j)=(l+i)*k+j:=by rw [L9];omega
        rw [e];exact this
    · cases hi

theorem D.dO {t e len:Nat}{x y:Operand}{ki:IntKind}{m:Int}{cs:List Value}{d':TypeDesc}{ti:TI}(e_0:Z11 (Nat.ble k 1) true o.dst (some d) o.op (.index t x y) (gOf ds fr o.guard) (some g) (ev fr g x) (some (.agg ⟨cs⟩)) (ev fr g y) (some (.int ki m)) (cx.T.get t) (some ti) ti.k (.arr len e) (cx.P.underlying e) (some d') (oQ d') true ((cx.P.info? e).map (·.size)) (some 1))(h0:GT ds fr g->0<=m/\m<len/\cs[m.toNat]?=some v)(e_1:Z2 (aO n ds ((d,g,v)::fr) d) true (wfG ds fr g) true)(h:D cx R its ((d,g,v)::fr) C L):D cx R ((i,k,o)::its) fr C L:=by
  have ⟨hk,hd,hop,hg,hx,hy,ht,hte,he,hpl,hs1⟩:=e_0;have ⟨hp,hwf⟩:=e_1;have hu:cx.P.underlying t=some (.array len e):=by
    obtain ⟨kk,s1,b1,z1,g1⟩:=ti;simp only at hte;subst hte;exact ko cx.hT ht
  refine D.run _ hk hd hg (fun hG a hs w=>?_) hp hwf h;obtain ⟨h1,h2,h3⟩:=h0 hG;have e1:execOp a.eval o=(do Pure.pure (.value (<- Instr.index t (a.eval x) (a.eval y))):Sem Next):=by unfold execOp;rw [hop]
  rw [e1,hs _ _ hx,hs _ _ hy];have hsz:(sizeOf e).run cx.P w=.ok 1 w:=by
    cases hi:cx.P.info? e with
    | none=>rw [hi] at hs1;cases hs1
    | some inf=>rw [hi] at hs1;simp at hs1;simp [sizeOf,typeInfo,hi,hs1]
  simp [Instr.index,asIntOf,run_underlying hu,h1,h2,hsz,gX he hpl h3]

theorem D.aW {t:Nat}{x y:Operand}{ki:IntKind}{m:Int}{s:List UInt8}{b:UInt8}{ti:TI}(e_0:Z8 (Nat.ble k 1) true o.dst (some d) o.op (.index t x y) (gOf ds fr o.guard) (some g) (ev fr g x) (some (.string ⟨s.toArray⟩)) (ev fr g y) (some (.int ki m)) (cx.T.get t) (some ti) ti.k .str)(h0:GT ds fr g->0<=m/\s[m.toNat]?=some b)(e_1:Z2 (aO n ds ((d,g,.int .u8 b.toNat)::fr) d) true (wfG ds fr g) true)(h:D cx R its ((d,g,.int .u8 b.toNat)::fr) C L):D cx R ((i,k,o)::its) fr C L:=by
  have ⟨hk,hd,hop,hg,hx,hy,ht,hte⟩:=e_0;have ⟨hp,hwf⟩:=e_1;have hu:cx.P.underlying t=some .string:=by
    obtain ⟨kk,s1,b1,z1,g1⟩:=ti;simp only at hte;subst hte;exact mo cx.hT ht
  refine D.run _ hk hd hg (fun hG a hs w=>?_) hp hwf h;obtain ⟨h1,h2⟩:=h0 hG;have e1:execOp a.eval o=(do Pure.pure (.value (<- Instr.index t (a.eval x) (a.eval y))):Sem Next):=by unfold execOp;rw [hop]
  rw [e1,hs _ _ hx,hs _ _ hy];have hlt:m.toNat<s.length:=(aJ.1 h2).1;have h3:(⟨s.toArray⟩:ByteArray)[m.toNat]?=some b:=by
    rw [getElem?_pos _ _ (by simpa [ByteArray.size] using hlt)];have:=(aJ.1 h2).2;exact congrArg some this
  simp [Instr.index,asIntOf,run_underlying hu,h1,h3]

theorem D.bF (l:Nat)(h:Nat){t:Nat}{x:Operand}{lo hi:Option Operand}{lv hv:Option Value}{s:List UInt8}{ti:TI}(e_0:Z9 (Nat.ble k 1) true o.dst (some d) o.op (.slice t x lo hi none) (gOf ds fr o.guard) (some g) (ev fr g x) (some (.string ⟨s.toArray⟩)) (Bl (ev fr g) lo) (some lv) (Bl (ev fr g) hi) (some hv) (cx.T.get t) (some ti) ti.k .str)(hq:GT ds fr g->SlB s.length s.length lv hv none l h s.length)(e_1:Z2 (aO n ds ((d,g,.string ⟨((s.take h).drop l).toArray⟩)::fr) d) true (wfG ds fr g) true)(hh:D cx R its ((d,g,.string ⟨((s.take h).drop l).toArray⟩)::fr) C L):D cx R ((i,k,o)::its) fr C L:=by
  have ⟨hk,hd,hop,hg,hx,hlo,hhi,ht,hte⟩:=e_0;have ⟨hp,hwf⟩:=e_1;have hu:cx.P.underlying t=some .string:=by
    obtain ⟨kk,s1,b1,z1,g1⟩:=ti;simp only at hte;subst hte;exact mo cx.hT ht
  refine D.run _ hk hd hg (fun hG a hs w=>?_) hp hwf hh;have e1:execOp a.eval o=(do Pure.pure (.value (<- Instr.sliceAt t (a.eval x) (lo.map a.eval) (hi.map a.eval) none)):Sem Next):=by unfold execOp;rw [hop];rfl
  rw [e1,hs _ _ hx,el (fun x v hx=>hs x v hx) hlo,el (fun x v hx=>hs x v hx) hhi];have hb:=eS (P:=cx.P) (b:=false) (hq hG) w;have hsz:(⟨s.toArray⟩:ByteArray).size=s.length:=by simp [ByteArray.size]
  have hex:(⟨s.toArray⟩:ByteArray).extract l h=⟨((s.take h).drop l).toArray⟩:=by
    apply ByteArray.ext;simp [ByteArray.data_extract,List.drop_take]
  simp [Instr.sliceAt,Instr.slice,run_underlying hu,hsz,hb,hex]
end
end Go.Jog
