/- Laws that the proofs of this seat share, part 3. -/
import Derived.Test.YtllimhhofkcgpaaGreatDoorG2
import Derived.Test.YtllimhhofkcgpaaGreatDoorShelf
import Derived.TacticsIn
import Derived.OrdersIn
import Derived.RangeFuncCalls
import Derived.RangeFuncSeq
import Derived.Lib.Bytealg
import Derived.Lib.ItoaMem
import Derived.Shelf.Spec.TrailingZeros
import Derived.Shelf.Strconv.Itoa3
import Derived.Shelf.Strconv.ParseUint10At
import Derived.Shelf.Strconv.Atoi
import Derived.Shelf.Small.Strs
import Derived.Lib.UnsafeStr
import Derived.Lib.AppendStr
import Derived.Shelf.Strconv.Itoa1
import Derived.Shelf.Strconv.Itoa2
import Derived.Laws.Externs
import Derived.Lib.Builder
import Derived.WideLaws
namespace Go.Jog

abbrev BP:Nat:=10000
def valP:List Nat->Nat
 | []=>0
 | x::l=>x+BP*valP l
def DigP (l:List Nat):Prop:=∀ x∈l,x<BP
def CanP (l:List Nat):Prop:=DigP l/\l.getLast?≠some 0
theorem eh:∀ (a b:List Nat),valP (a++b)=valP a+BP ^ a.length*valP b
 | [],b=>by simp [valP]
 | x::a,b=>by
  simp only [List.cons_append,valP,eh a b,List.length_cons,Nat.pow_succ]
  rw [Nat.mul_add,<- Nat.mul_assoc,Nat.mul_comm (BP ^ a.length) BP,Nat.add_assoc]
theorem valP_snoc (a:List Nat)(x:Nat):valP (a++[x])=valP a+BP ^ a.length*x:=by
 rw [eh];simp [valP]
theorem valP_lt:∀ {l:List Nat},DigP l->valP l<BP ^ l.length
 | [],_=>by simp [valP]
 | x::l,h=>by
  have h1:=h x (by simp)
  have h2:=valP_lt (l:=l) (fun y hy=>h y (by simp [hy]))
  simp only [valP,List.length_cons,Nat.pow_succ]
  have h3:BP*(valP l+1)<=BP*BP ^ l.length:=Nat.mul_le_mul_left _ h2
  rw [Nat.mul_comm (BP ^ l.length) BP]
  rw [Nat.mul_add] at h3
  omega
theorem valP_take {l:List Nat}{i x:Nat}(h:l[i]?=some x):valP (l.take (i+1))=valP (l.take i)+BP ^ i*x:=by
 have hi:=(List.getElem?_eq_some_iff.1 h).1
 rw [List.take_add_one,h]
 simp only [Option.toList_some]
 rw [valP_snoc,List.length_take,Nat.min_eq_left om_]
theorem DigP.take {l:List Nat}(h:DigP l)(i:Nat):DigP (l.take i):=fun x hx=>h x (List.mem_of_mem_take hx)
theorem DigP.snoc {l:List Nat}(h:DigP l){x:Nat}(hx:x<BP):DigP (l++[x]):=fun y hy=>by
 rcases List.mem_append.1 hy with hy | hy
 ·exact h y hy
 ·rw [List.mem_singleton.1 hy];exact hx
def cutN (l:List Nat):Nat->Nat
 | 0=>0
 | k+1=>if l[k]?=some 0 then cutN l k else k+1
def cutP (l:List Nat):List Nat:=l.take (cutN l l.length)
theorem cutN_last (l:List Nat):∀ k,k<=l.length->(l.take (cutN l k)).getLast?≠some 0/\valP (l.take (cutN l k))=valP (l.take k)
 | 0,_=>by simp [cutN]
 | k+1,hk=>by
  rw [cutN]
  obtain ⟨x,hx⟩:∃ x,l[k]?=some x:=⟨l[k],List.getElem?_eq_getElem om_⟩
  split
  ·rename_i h
   obtain ⟨h1,h2⟩:=cutN_last l k om_
   refine ⟨h1, ?_⟩
   rw [h2,valP_take h];simp
  ·rename_i h
   refine ⟨?_,rfl⟩
   rw [List.take_add_one,hx]
   simp only [Option.toList_some,List.getLast?_append,List.getLast?_singleton]
   intro e
   rw [hx] at h
   simp at e
   exact h (by rw [e])
theorem eE (l:List Nat):valP (cutP l)=valP l:=by
 have:=(cutN_last l l.length (Nat.le_refl _)).2
 rw [List.take_length] at this;exact this
theorem cutP_can {l:List Nat}(h:DigP l):CanP (cutP l):=⟨h.take _,(cutN_last l l.length (Nat.le_refl _)).1⟩
theorem canP_low {l:List Nat}(h:CanP l)(hl:0<l.length):BP ^ (l.length-1)<=valP l:=by
 obtain ⟨x,hx⟩:∃ x,l[l.length-1]?=some x:=⟨l[l.length-1]'om_,List.getElem?_eq_getElem om_⟩
 have h1:=valP_take hx
 rw [show l.length-1+1=l.length by omega,List.take_length] at h1
 have hx0:x≠0:=fun e=>h.2 (by rw [List.getLast?_eq_getElem?,hx,e])
 rw [h1]
 have:BP ^ (l.length-1)*1<=BP ^ (l.length-1)*x:=Nat.mul_le_mul_left _ om_
 omega
theorem canP_nil {l:List Nat}(h:CanP l):valP l=0 ↔ l=[]:=by
 constructor
 ·intro e
  apply Classical.byContradiction
  intro hn
  have:=canP_low h (List.length_pos_iff.2 hn)
  rw [e] at this
  have hp:0<BP ^ (l.length-1):=Nat.pow_pos (by decide)
  omega
 ·rintro rfl;rfl
theorem lenP_lt {a b:List Nat}(ha:DigP a)(hb:CanP b)(h:a.length<b.length):valP a<valP b:=by
 have h1:=valP_lt ha
 have h2:=canP_low hb om_
 have h3:BP ^ a.length<=BP ^ (b.length-1):=Nat.pow_le_pow_right (by decide) om_
 omega
theorem atP_lt {a b:List Nat}{i x y:Nat}(ha:DigP a)(hl:a.length=b.length)(hx:a[i]?=some x)(hy:b[i]?=some y)(hxy:x<y)(he:a.drop (i+1)=b.drop (i+1)):valP a<valP b:=by
 have e1:valP a=valP (a.take (i+1))+BP ^ (i+1)*valP (a.drop (i+1)):=by
  have hi:=(List.getElem?_eq_some_iff.1 hx).1
  conv=>lhs;rw [<- List.take_append_drop (i+1) a]
  rw [eh,List.length_take,Nat.min_eq_left om_]
 have e2:valP b=valP (b.take (i+1))+BP ^ (i+1)*valP (b.drop (i+1)):=by
  have hi:=(List.getElem?_eq_some_iff.1 hy).1
  conv=>lhs;rw [<- List.take_append_drop (i+1) b]
  rw [eh,List.length_take,Nat.min_eq_left om_]
 rw [e1,e2,he,valP_take hx,valP_take hy]
 have h1:=valP_lt (ha.take i)
 have h2:(a.take i).length<=i:=by rw [List.length_take];omega
 have h3:BP ^ (a.take i).length<=BP ^ i:=Nat.pow_le_pow_right (by decide) h2
 have h4:BP ^ i*(x+1)<=BP ^ i*y:=Nat.mul_le_mul_left _ hxy
 rw [Nat.mul_add] at h4
 omega
/-! ### Decimal texts -/
def digB (c:UInt8):Bool:=decide (48<=c.toNat/\c.toNat<=57)
def decF (a:Nat)(c:UInt8):Nat:=10*a+(c.toNat-48)
def decV (s:List UInt8):Nat:=s.foldl decF 0
def CanS (s:List UInt8):Prop:=(∀ c∈s,digB c=true)/\s≠[]/\(s.head?=some 48->s.length=1)
theorem decF_split:∀ (s:List UInt8)(a:Nat),s.foldl decF a=a*10 ^ s.length+decV s
 | [],a=>by simp [decV]
 | c::s,a=>by
  have h1:=decF_split s (decF a c)
  have h2:=decF_split s (decF 0 c)
  simp only [decV,List.foldl_cons] at h1 h2 ⊢
  rw [h1,h2]
  simp only [decF,List.length_cons,Nat.pow_succ,Nat.add_mul]
  simp only [Nat.mul_zero,Nat.zero_mul,Nat.zero_add]
  rw [Nat.mul_comm 10 a,Nat.mul_assoc,Nat.mul_comm 10,Nat.add_assoc]
theorem bV (c:UInt8)(s:List UInt8):decV (c::s)=(c.toNat-48)*10 ^ s.length+decV s:=by
 show s.foldl decF (decF 0 c)=_
 rw [decF_split];simp [decF]
theorem bN (a b:List UInt8):decV (a++b)=decV a*10 ^ b.length+decV b:=by
 show (a++b).foldl decF 0=_
 rw [List.foldl_append,decF_split];rfl
theorem co:∀ {s:List UInt8},(∀ c∈s,digB c=true)->decV s<10 ^ s.length
 | [],_=>by simp [decV]
 | c::s,h=>by
  have h1:=co (s:=s) (fun d hd=>h d (by simp [hd]))
  have h2:=h c (by simp)
  simp only [digB,decide_eq_true_eq] at h2
  rw [bV,List.length_cons,Nat.pow_succ]
  have h3:(c.toNat-48)*10 ^ s.length<=9*10 ^ s.length:=Nat.mul_le_mul_right _ om_
  omega
theorem canS_low {s:List UInt8}(h:CanS s)(hl:1<s.length):10 ^ (s.length-1)<=decV s:=by
 obtain ⟨h1,h2,h3⟩:=h
 match s,h2 with
 | c::s,_ =>
  have h4:=h1 c (by simp)
  simp only [digB,decide_eq_true_eq] at h4
  have h5:c≠48:=fun e=>by
   have:=h3 (by simp [e])
   omega
  have h6:c.toNat≠48:=fun e=>h5 (UInt8.toNat_inj.1 (by rw [e];rfl))
  rw [bV]
  simp only [List.length_cons,Nat.add_sub_cancel]
  have:1*10 ^ s.length<=(c.toNat-48)*10 ^ s.length:=Nat.mul_le_mul_right _ om_
  omega
theorem dec_inj:∀ {a b:List UInt8},(∀ c∈a,digB c=true)->(∀ c∈b,digB c=true)->a.length=b.length->decV a=decV b->a=b
 | [],[],_,_,_,_=>rfl
 | [],_::_,_,_,h,_=>by simp at h
 | _::_,[],_,_,h,_=>by simp at h
 | c::a,d::b,ha,hb,hl,hv=>by
  have hl2:a.length=b.length:=by simpa using hl
  have h1:=co (s:=a) (fun x hx=>ha x (by simp [hx]))
  have h2:=co (s:=b) (fun x hx=>hb x (by simp [hx]))
  have hc:=ha c (by simp)
  have hd:=hb d (by simp)
  simp only [digB,decide_eq_true_eq] at hc hd
  rw [bV,bV,hl2] at hv
  rw [hl2] at h1
  have hq:c.toNat-48=d.toNat-48:=by
   have e1:(decV a+10 ^ b.length*(c.toNat-48)) / 10 ^ b.length=c.toNat-48:=by
    rw [Nat.add_mul_div_left _ _ (Nat.pow_pos (by decide)),Nat.div_eq_of_lt h1,Nat.zero_add]
   have e2:(decV b+10 ^ b.length*(d.toNat-48)) / 10 ^ b.length=d.toNat-48:=by
    rw [Nat.add_mul_div_left _ _ (Nat.pow_pos (by decide)),Nat.div_eq_of_lt h2,Nat.zero_add]
   rw [<- e1,<- e2,Nat.mul_comm,Nat.add_comm,hv,Nat.mul_comm (10 ^ b.length),Nat.add_comm (decV b)]
  rw [hq] at hv
  have hcd:c=d:=UInt8.toNat_inj.1 om_
  rw [hcd,dec_inj (fun x hx=>ha x (by simp [hx])) (fun x hx=>hb x (by simp [hx])) hl2 om_]
theorem canS_unique {a b:List UInt8}(ha:CanS a)(hb:CanS b)(h:decV a=decV b):a=b:=by
 refine dec_inj ha.1 hb.1 ?_ h
 have hpa:=List.length_pos_iff.2 ha.2.1
 have hpb:=List.length_pos_iff.2 hb.2.1
 rcases Nat.lt_trichotomy a.length b.length with h1 | h1 | h1
 ·have h2:=canS_low hb om_
  have h3:=co ha.1
  have h4:10 ^ a.length<=10 ^ (b.length-1):=Nat.pow_le_pow_right (by decide) om_
  omega
 ·exact h1
 ·have h2:=canS_low ha om_
  have h3:=co hb.1
  have h4:10 ^ b.length<=10 ^ (a.length-1):=Nat.pow_le_pow_right (by decide) om_
  omega
end Go.Jog
namespace Go.Jog

theorem head_app {a b:List UInt8}(h:a≠[]):(a++b).head?=a.head?:=by
 cases a with
 | nil=>exact absurd rfl h
 | cons=>rfl
def gP (l:List Nat)(i:Nat):Nat:=l.getD i 0
theorem gP_lt {l:List Nat}(h:DigP l)(i:Nat):gP l i<BP:=by
 unfold gP
 rw [List.getD_eq_getElem?_getD]
 cases hx:l[i]? with
 | none=>decide
 | some x=>exact h x (List.mem_of_getElem? hx)
theorem pow_BP (j:Nat):10 ^ (4*j)=BP ^ j:=by rw [Nat.pow_mul]
def cutS (s:List UInt8)(lo hi:Nat):List UInt8:=(s.take hi).drop lo
theorem take_step {s:List UInt8}{out:List Nat}{e lo j:Nat}(he:e+4*j=s.length)(hl:out.length=j)(hlo:lo<=e)(h:valP out=decV (s.drop e)) :
  valP (out++[decV (cutS s lo e)])=decV (s.drop lo):=by
 rw [valP_snoc,hl,h]
 have e1:s.drop lo=cutS s lo e++s.drop e:=by
  unfold cutS
  have:s.drop lo=(s.take e++s.drop e).drop lo:=by rw [List.take_append_drop]
  rw [this,List.drop_append_of_le_length (by rw [List.length_take];omega)]
 rw [e1,bN,List.length_drop,show s.length-e=4*j by omega,pow_BP,Nat.mul_comm,Nat.add_comm]
theorem cutS_lt {s:List UInt8}{lo e:Nat}(hs:∀ c∈s,digB c=true)(h:e<=lo+4):decV (cutS s lo e)<BP:=by
 have h1:∀ c∈cutS s lo e,digB c=true:=fun c hc=>hs c (List.mem_of_mem_take (List.mem_of_mem_drop hc))
 have h2:=co h1
 have h3:(cutS s lo e).length<=4:=by
  unfold cutS
  rw [List.length_drop,List.length_take];omega
 have h4:10 ^ (cutS s lo e).length<=10 ^ 4:=Nat.pow_le_pow_right (by decide) h3
 have h5:(10:Nat) ^ 4=BP:=rfl
 omega
def padS:Nat->Nat->List UInt8
 | 0,_=>[]
 | k+1,n=>padS k (n / 10)++[UInt8.ofNat (48+n % 10)]
theorem dig_byte {d:Nat}(h:d<10):(UInt8.ofNat (48+d)).toNat=48+d:=by rw [UInt8.toNat_ofNat'];omega
theorem padS_ok:∀ (k n:Nat),n<10 ^ k->(padS k n).length=k/\(∀ c∈padS k n,digB c=true)/\decV (padS k n)=n
 | 0,n,h=>by
  have:n=0:=by simpa using h
  subst this
  exact ⟨rfl,by simp [padS],rfl⟩
 | k+1,n,h=>by
  obtain ⟨h1,h2,h3⟩:=padS_ok k (n / 10) (by rw [Nat.pow_succ] at h;exact (Nat.div_lt_iff_lt_mul (by decide)).2 h)
  have hd:=dig_byte (Nat.mod_lt n (show 0<10 by decide))
  refine ⟨by simp [padS,h1],fun c hc=>?_, ?_⟩
  ·simp only [padS,List.mem_append,List.mem_singleton] at hc
   rcases hc with hc | rfl
   ·exact h2 c hc
   ·have:=Nat.mod_lt n (show 0<10 by decide)
    simp only [digB,hd,decide_eq_true_eq];omega
  ·simp only [padS]
   rw [bN,h3,bV,hd]
   simp [decV]
   omega
def decS (n:Nat):List UInt8:=if n<10 then [UInt8.ofNat (48+n)] else decS (n / 10)++[UInt8.ofNat (48+n % 10)]
 termination_by n
 decreasing_by omega
theorem aO (n:Nat):CanS (decS n)/\decV (decS n)=n:=by
 induction n using Nat.strongRecOn with
 | ind n ih =>
  rw [decS]
  split
  ·rename_i h
   have hd:=dig_byte h
   refine ⟨⟨fun c hc=>?_,by simp,fun _=>rfl⟩, ?_⟩
   ·rw [List.mem_singleton.1 hc];simp only [digB,hd,decide_eq_true_eq];omega
   ·rw [bV,hd];simp [decV]
  ·rename_i h
   obtain ⟨⟨h1,h2,h3⟩,h4⟩:=ih (n / 10) om_
   have hd:=dig_byte (Nat.mod_lt n (show 0<10 by decide))
   refine ⟨⟨fun c hc=>?_,by simp,fun he=>?_⟩, ?_⟩
   ·rcases List.mem_append.1 hc with hc | hc
    ·exact h1 c hc
    ·rw [List.mem_singleton.1 hc]
     have:=Nat.mod_lt n (show 0<10 by decide)
     simp only [digB,hd,decide_eq_true_eq];omega
   ·exfalso
    rw [head_app h2] at he
    have h5:=h3 he
    match hs:decS (n / 10),h2 with
    | [c],_ =>
     rw [hs] at he h4
     simp at he
     subst he
     have:n / 10=0:=by rw [<- h4];rfl
     omega
    | c::d::s,_=>rw [hs] at h5;simp at h5
   ·rw [bN,h4,bV,hd]
    simp [decV]
    omega
theorem canS_dec {s:List UInt8}(h:CanS s):s=decS (decV s):=canS_unique h (aO _).1 (aO _).2.symm
theorem give_step {p:List Nat}{s:List UInt8}{i x:Nat}(hd:DigP p)(hx:p[i]?=some x)(h:CanS s)(hv:decV s=valP (p.drop (i+1)))(h0:0<decV s) :
  CanS (s++padS 4 x)/\decV (s++padS 4 x)=valP (p.drop i)/\0<decV (s++padS 4 x):=by
 have hxl:=hd x (List.mem_of_getElem? hx)
 obtain ⟨h1,h2,h3⟩:=padS_ok 4 x hxl
 have hi:=List.getElem?_eq_some_iff.1 hx
 have e:valP (p.drop i)=x+BP*valP (p.drop (i+1)):=by rw [List.drop_eq_getElem_cons hi.1,hi.2];rfl
 have hv2:decV (s++padS 4 x)=valP (p.drop i):=by
  rw [bN,h1,h3,hv,e,Nat.add_comm,Nat.mul_comm]
 refine ⟨⟨fun c hc=>?_, ?_,fun he=>?_⟩,hv2, ?_⟩
 ·rcases List.mem_append.1 hc with hc | hc
  ·exact h.1 c hc
  ·exact h2 c hc
 ·intro e;exact h.2.1 (List.append_eq_nil_iff.1 e).1
 ·exfalso
  rw [head_app h.2.1] at he
  have h5:=h.2.2 he
  match hs:s,h.2.1 with
  | [c],_ =>
   simp at he
   subst he
   have:decV ([48]:List UInt8)=0:=rfl
   omega
  | c::d::s,_=>simp at h5
 ·rw [bN]
  have:0<decV s*10 ^ (padS 4 x).length:=Nat.mul_pos h0 (Nat.pow_pos (by decide))
  omega
end Go.Jog
namespace Go.Jog

def valI:List Int->Int
 | []=>0
 | x::l=>x+10000*valI l
theorem valI_nat:∀ l:List Nat,valI (l.map fun (x:Nat)=>(x:Int))=(valP l:Nat)
 | []=>rfl
 | x::l=>by
  simp only [List.map_cons,valI,valP,valI_nat l]
  show (x:Int)+10000*(valP l:Nat)=((x+10000*valP l:Nat):Int)
  omega
theorem valI_append:∀ (a b:List Int),valI (a++b)=valI a+(10000:Int) ^ a.length*valI b
 | [],b=>by simp [valI]
 | x::a,b=>by
  simp only [List.cons_append,valI,valI_append a b,List.length_cons,Int.pow_succ]
  rw [Int.mul_add,<- Int.mul_assoc,Int.mul_comm ((10000:Int) ^ a.length) 10000,Int.add_assoc]
theorem valI_snoc (a:List Int)(x:Int):valI (a++[x])=valI a+(10000:Int) ^ a.length*x:=by
 rw [valI_append];simp [valI]
theorem valI_take {l:List Int}{i:Nat}{x:Int}(h:l[i]?=some x):valI (l.take (i+1))=valI (l.take i)+(10000:Int) ^ i*x:=by
 have hi:=(List.getElem?_eq_some_iff.1 h).1
 rw [List.take_add_one,h]
 simp only [Option.toList_some]
 rw [valI_snoc,List.length_take,Nat.min_eq_left om_]
theorem carry_piece (o:Int):0<=o % 10000/\o % 10000<10000/\o=o % 10000+10000*((o-o % 10000) / 10000):=by
 refine ⟨Int.emod_nonneg _ (by decide),Int.emod_lt_of_pos _ (by decide), ?_⟩
 omega
theorem rest_pos (o:Int):(if Int.tmod o 10000<0 then Int.tmod o 10000+10000 else Int.tmod o 10000)=o % 10000:=by
 have h1:=Int.emod_nonneg o (show (10000:Int)≠0 by decide)
 have h2:=Int.emod_lt_of_pos o (show (0:Int)<10000 by decide)
 rcases Int.le_total 0 o with h | h
 ·rw [Int.tmod_eq_emod_of_nonneg h,if_neg om_]
 ·rw [Int.tmod_eq_emod]
  split <;> rename_i hh <;> omega
end Go.Jog
namespace Go.Jog

theorem div_piece {t Q x:Nat}(hQ:0<Q):(x+BP*t) / Q=BP*(t / Q)+(x+BP*(t % Q)) / Q/\(x+BP*t) % Q=(x+BP*(t % Q)) % Q:=by
 have h1:=Nat.div_add_mod t Q
 have e:x+BP*t=Q*(BP*(t / Q))+(x+BP*(t % Q)):=by
  conv=>lhs;rw [<- h1,Nat.mul_add]
  rw [Nat.mul_left_comm];omega
 rw [e,Nat.mul_add_div hQ,Nat.mul_add_mod]
 exact ⟨rfl,rfl⟩
theorem div_piece_lt {t Q x:Nat}(hQ:0<Q)(hx:x<BP):(x+BP*(t % Q)) / Q<BP:=by
 rw [Nat.div_lt_iff_lt_mul hQ]
 have h1:=Nat.mod_lt t hQ
 have h2:BP*(t % Q+1)<=BP*Q:=Nat.mul_le_mul_left _ h1
 rw [Nat.mul_add] at h2
 omega
theorem halving {r Q low high:Nat}(hQ:0<Q)(h1:low<=r / Q)(h2:r / Q<=high)(_h:low<high) :
  (r<Q*((low+high+1) / 2)->low<=r / Q/\r / Q<=(low+high+1) / 2-1)/\(¬ r<Q*((low+high+1) / 2)->(low+high+1) / 2<=r / Q/\r / Q<=high):=by
 constructor
 ·intro hr
  have:=(Nat.div_lt_iff_lt_mul hQ).2 (by rw [Nat.mul_comm];exact hr)
  omega
 ·intro hr
  have:=(Nat.le_div_iff_mul_le hQ).2 (by rw [Nat.mul_comm];exact Nat.le_of_not_lt hr)
  omega
theorem euclid (a b:Nat)(_hb:0<b):Nat.gcd a b=Nat.gcd b (a % b):=by
 rw [Nat.gcd_comm a b,Nat.gcd_rec b a,Nat.gcd_comm]
end Go.Jog
namespace Go.Jog

end Go.Jog
namespace Go.Jog
open Go
section
variable {cx:Cx} {n:Nat} {ds:List (Option Nat)} {R:Rg n ds} {its:List It} {fr:Fr} {C:Mem} {L:List Ent} {i k d:Nat} {o:Oper} {g:GL}
end
end Go.Jog
namespace Go.Jog
open Go
section
variable {cx:Cx} {n:Nat} {ds:List (Option Nat)} {R:Rg n ds} {its:List It} {fr:Fr} {C:Mem} {L:List Ent} {i k d:Nat} {o:Oper} {g:GL}
end
end Go.Jog
namespace Go.Jog
open Go
section
variable {cx:Cx} {n:Nat} {ds:List (Option Nat)} {R:Rg n ds} {its:List It} {fr:Fr} {C:Mem} {L:List Ent} {i k d:Nat} {o:Oper} {g:GL}
end
end Go.Jog
namespace Go.Jog
open Go
section
variable {cx:Cx} {n:Nat} {ds:List (Option Nat)} {R:Rg n ds} {its:List It} {fr:Fr} {C:Mem} {L:List Ent} {i k d:Nat} {o:Oper} {g:GL}
end
def Sm (k n:Nat):Prop:=n<B32 ^ k
theorem Sm.mono {k n m:Nat}(h:Sm k n)(hm:m<=n):Sm k m:=Nat.lt_of_le_of_lt hm h
theorem Sm.le {k j n:Nat}(h:Sm k n)(hk:k<=j):Sm j n:=Nat.lt_of_lt_of_le h (Nat.pow_le_pow_right (by decide) hk)
theorem Sm.mul {j k m n:Nat}(hm:Sm j m)(hn:Sm k n):Sm (j+k) (m*n):=by
 unfold Sm at *
 rw [Nat.pow_add]
 exact Nat.mul_lt_mul'' hm hn
theorem Sm.add {k m n:Nat}(hm:Sm k m)(hn:Sm k n):Sm (k+1) (m+n):=by
 unfold Sm at *
 rw [Nat.pow_succ]
 have:B32 ^ k*2<=B32 ^ k*B32:=Nat.mul_le_mul_left _ (by decide)
 omega
theorem Sm.len {k:Nat}{l:List Nat}(h:Sm k (valD l))(hl:CanD l):l.length<=k:=by
 apply Classical.byContradiction
 intro hh
 have h1:=can_low hl om_
 have h2:B32 ^ k<=B32 ^ (l.length-1):=Nat.pow_le_pow_right (by decide) om_
 unfold Sm at h
 omega
theorem Sm.one {n:Nat}(h:n<B32):Sm 1 n:=by unfold Sm;rw [Nat.pow_one];exact h
theorem Sm.pos {k n:Nat}(h:Sm k n)(hn:0<n):0<k:=by
 cases k with
 | zero=>unfold Sm at h;rw [Nat.pow_zero] at h;omega
 | succ k=>omega
end Go.Jog
namespace Go.Jog
def ratB (b:Bool)(n d:Nat):Rat:=mkRat (if b then -(n:Int) else n) d
theorem sgn_abs (b:Bool)(n:Nat):(if b then -(n:Int) else n).natAbs=n:=by cases b <;> simp
theorem ratB_num {b:Bool}{n d:Nat}(hd:d≠0):(ratB b n d).num=if b then -((n / Nat.gcd n d:Nat):Int) else ((n / Nat.gcd n d:Nat):Int):=by
 unfold ratB
 rw [Rat.num_mkRat,if_neg hd,sgn_abs,Nat.gcd_comm]
 cases b with
 | false=>simp
 | true =>
  simp only [if_true]
  rw [Int.neg_ediv_of_dvd (Int.natCast_dvd_natCast.2 (Nat.gcd_dvd_left n d)),Int.natCast_ediv]
theorem ratB_abs {b:Bool}{n d:Nat}(hd:d≠0):(ratB b n d).num.natAbs=n / Nat.gcd n d:=by
 rw [ratB_num hd,sgn_abs]
theorem ratB_den {b:Bool}{n d:Nat}(hd:d≠0):(ratB b n d).den=d / Nat.gcd n d:=by
 unfold ratB
 rw [Rat.den_mkRat,if_neg hd,sgn_abs,Nat.gcd_comm]
def sgI (b:Bool)(n:Nat):Int:=if b then -(n:Int) else n
theorem num_sg (q:Rat):q.num=sgI (decide (q.num<0)) q.num.natAbs:=by
 unfold sgI
 by_cases h:q.num<0
 ·simp only [h,decide_true,if_true];omega
 ·simp only [h,decide_false];simp;omega
theorem sgI_mul (b:Bool)(n m:Nat):sgI b n*m=sgI b (n*m):=by unfold sgI;cases b <;> simp [Int.neg_mul]
theorem sgI_mul2 (a b:Bool)(n m:Nat):sgI a n*sgI b m=sgI (a != b) (n*m):=by
 unfold sgI;cases a <;> cases b <;> simp [Int.neg_mul,Int.mul_neg]
theorem add_same {p q:Rat}(h:decide (p.num<0)=decide (q.num<0)):ratB (decide (p.num<0)) (p.num.natAbs*q.den+q.num.natAbs*p.den) (p.den*q.den)=p+q:=by
 rw [Rat.add_def']
 unfold ratB
 congr 1
 rw [num_sg p,num_sg q,sgI_mul,sgI_mul]
 simp only [<- num_sg]
 rw [<- h]
 unfold sgI
 cases decide (p.num<0) <;> simp <;> omega
theorem bne_not {a b:Bool}(h:¬ a=b):b=!a:=by cases a <;> cases b <;> simp_all
theorem add_up {p q:Rat}(h:¬ decide (p.num<0)=decide (q.num<0))(hl:q.num.natAbs*p.den<=p.num.natAbs*q.den):ratB (decide (p.num<0)) (p.num.natAbs*q.den-q.num.natAbs*p.den) (p.den*q.den)=p+q:=by
 rw [Rat.add_def']
 unfold ratB
 congr 1
 rw [num_sg p,num_sg q,sgI_mul,sgI_mul]
 simp only [<- num_sg]
 rw [bne_not h]
 unfold sgI
 cases decide (p.num<0) <;> simp <;> omega
theorem add_down {p q:Rat}(h:¬ decide (p.num<0)=decide (q.num<0))(hl:p.num.natAbs*q.den<=q.num.natAbs*p.den):ratB (decide (q.num<0)) (q.num.natAbs*p.den-p.num.natAbs*q.den) (p.den*q.den)=p+q:=by
 rw [Rat.add_def']
 unfold ratB
 congr 1
 rw [num_sg p,num_sg q,sgI_mul,sgI_mul]
 simp only [<- num_sg]
 rw [bne_not h]
 unfold sgI
 cases decide (p.num<0) <;> simp <;> omega
theorem mul_parts (p q:Rat):ratB (decide (p.num<0) != decide (q.num<0)) (p.num.natAbs*q.num.natAbs) (p.den*q.den)=p*q:=by
 rw [Rat.mul_def']
 unfold ratB
 congr 1
 conv=>rhs;rw [num_sg p,num_sg q,sgI_mul2]
 rfl
def SmQ (k:Nat)(q:Rat):Prop:=Sm k q.num.natAbs/\Sm k q.den
theorem SmQ.le {k j:Nat}{q:Rat}(h:SmQ k q)(hk:k<=j):SmQ j q:=⟨h.1.le hk,h.2.le hk⟩
theorem SmQ.ratB {k n d:Nat}(b:Bool)(hd:d≠0)(hn:Sm k n)(hm:Sm k d):SmQ k (ratB b n d):=by
 refine ⟨?_, ?_⟩
 ·rw [ratB_abs hd];exact hn.mono (Nat.div_le_self _ _)
 ·rw [ratB_den hd];exact hm.mono (Nat.div_le_self _ _)
theorem SmQ.neg {k:Nat}{q:Rat}(h:SmQ k q):SmQ k (-q):=by
 refine ⟨?_,h.2⟩
 rw [Rat.neg_num,Int.natAbs_neg];exact h.1
theorem den_ne (p q:Rat):p.den*q.den≠0:=Nat.mul_ne_zero p.den_nz q.den_nz
theorem Sm.mulAdd {j k a b c d:Nat}(ha:Sm j a)(hb:Sm k b)(hc:Sm k c)(hd:Sm j d):Sm (j+k+1) (a*b+c*d):=(ha.mul hb).add (by rw [Nat.mul_comm];exact hd.mul hc)
theorem SmQ.add {j k:Nat}{p q:Rat}(hp:SmQ j p)(hq:SmQ k q):SmQ (j+k+1) (p+q):=by
 have hD:Sm (j+k+1) (p.den*q.den):=(hp.2.mul hq.2).le om_
 have h1:Sm (j+k+1) (p.num.natAbs*q.den+q.num.natAbs*p.den):=Sm.mulAdd hp.1 hq.2 hq.1 hp.2
 by_cases h:decide (p.num<0)=decide (q.num<0)
 ·rw [<- add_same h];exact SmQ.ratB _ (den_ne p q) h1 hD
 ·rcases Nat.le_total (q.num.natAbs*p.den) (p.num.natAbs*q.den) with hl | hl
  ·rw [<- add_up h hl];exact SmQ.ratB _ (den_ne p q) (h1.mono om_) hD
  ·rw [<- add_down h hl];exact SmQ.ratB _ (den_ne p q) (h1.mono om_) hD
theorem SmQ.mul {j k:Nat}{p q:Rat}(hp:SmQ j p)(hq:SmQ k q):SmQ (j+k) (p*q):=by
 rw [<- mul_parts]
 exact SmQ.ratB _ (den_ne p q) (hp.1.mul hq.1) (hp.2.mul hq.2)
theorem SmQ.sub {j k:Nat}{p q:Rat}(hp:SmQ j p)(hq:SmQ k q):SmQ (j+k+1) (p-q):=by
 rw [Rat.sub_eq_add_neg];exact hp.add hq.neg
end Go.Jog
namespace Go.Jog
open Go

example {A B C D E:Mem} (h3:D.le E) (h1:A.le B) (h2:B.le C) (h4:C.le D):A.le E:=by (repeat (first | exact Mem.le.refl _ | assumption | (apply Mem.le.trans;rotate_left;assumption)))
theorem Mem.get {C D:Mem}{b:Nat}{o:Obj}(h:C b=some o)(hl:C.le D):D b=some o:=hl _ _ h

theorem Gives.ofCalls {P:Program}{f:FuncId}{args:List Value}{v:Value}(hen:Enters P f=true)(h:∀ w,Calls P f args.toArray w fun e w'=>e=.returned v/\w'=w)(C:Mem):Gives P f args C v :=
 ⟨hen,fun w hw=>(h w).mono fun e w' ⟨h1,h2⟩=>by
  subst h2
  exact ⟨_,C,[],h1,St.start hw,rfl,rfl⟩⟩

section
variable {cx:Cx} {n:Nat} {ds:List (Option Nat)} {R:Rg n ds} {its:List It} {fr:Fr} {C:Mem} {L:List Ent} {i k d:Nat} {o:Oper} {g:GL} {v:Value}
theorem D.copyCore {t t2 e g0 off j q dl dc size len m cap sl:Nat}{x y:Operand}{src:Value}{xs vs:List Value}{ti te:TI}(hk:k=3)(hd:o.dst=some d)(hg:gOn ds fr o.guard=true)
  (hop:o.op=.call ⟨.builtin .copy,#[x,y],#[t,t2]⟩) (ht:cx.T.get t=some ti) (hte:ti.k=.slice e) (he:cx.T.get e=some te) (hsz:te.size=size)
  (hx:ev fr [] x=some (.slice (some ⟨g0,off,none⟩) dl dc)) (hy:ev fr [] y=some src) (hm:L[j]?=some (.arr (.slice (some ⟨g0,0,none⟩) m cap) e size len xs))
  (hsl:∀ w,(Builtin.lenOf src).run cx.P w=.ok sl w) (hq:q=min sl dl) (hvl:vs.length=q*size)
  (hfc:∀ w,Sep C (.arr (.slice (some ⟨g0,0,none⟩) m cap) e size len xs::L.eraseIdx j) w->(Builtin.firstCells size q src).run cx.P w=.ok vs.toArray w)
  (h1:vs.all oneB=true) (hfit:off+q*size<=xs.length) (hp:∀ v,aG n ds ((d,[],v)::fr) d=true)
  (h:D cx R its ((d,[],.int .i64 q)::fr) C (.arr (.slice (some ⟨g0,0,none⟩) m cap) e size len (au xs vs off)::L.eraseIdx j)):D cx R ((i,k,o)::its) fr C L:=by
 have hu:cx.P.underlying t=some (.slice e):=by
  obtain ⟨kk,s1,b1,z1,g1⟩:=ti
  simp only at hte
  subst hte
  exact bx cx.hT ht
 refine D.eg (S:=fun v' C' L'=>v'=.int .i64 q/\C'=C/\L'=.arr (.slice (some ⟨g0,0,none⟩) m cap) e size len (au xs vs off)::L.eraseIdx j) (by subst hk;rfl) hd hg hp (fun a hs w _ hw=>?_) (fun v' C' L' _ ⟨e0,e1,e2⟩=>by subst e0;subst e1;subst e2;exact h)
 have hw':=St.perm hw (aN hm)
 have hown:w.ownsRow 0 e size (.slice (some ⟨g0,0,none⟩) m cap) len xs:=hw'.sep.e _ (List.mem_cons_self ..)
 obtain ⟨rfl,hlc,hcm,cur,hb,hcs,htake⟩:=cM hown
 obtain ⟨cur⟩:=cur
 simp only [List.size_toArray] at hcs
 simp only at htake
 have hxl:xs.length=m*size:=hown.1
 have hcl:m*size<=cur.length:=by rw [hcs];exact Nat.mul_le_mul_right _ hlc
 have h1':∀ u∈vs,u.oneCell'=true:=fun u hu=>oneB_spec (List.all_eq_true.1 h1 u hu)
 have hst:=run_storeCells_at cx.P g0 off e vs 0 ⟨cur⟩ w hb (by simp [hvl];omega) h1'
 simp only [Nat.add_zero] at hst
 have hfcw:=hfc w hw'.sep
 have hsw:=hsl w
 have hzw:=cF cx.hT he w
 rw [hsz] at hzw
 have hc:(Builtin.copy_ #[t,t2] o.type #[.slice (some ⟨g0,off,none⟩) dl dc,src]).run cx.P w=.ok (.int .i64 q) (w.setRow g0 (au cur vs off).toArray):=by
  have hq2:Nat.min sl dl=q:=hq.symm
  simp only [Builtin.copy_]
  simp [run_underlying hu,hsw,hzw,hq2,hfcw,hst,au,goInt]
 have hex:(execOp a.eval o).run cx.P w=.ok (.value (.int .i64 q)) (w.setRow g0 (au cur vs off).toArray):=by
  have e1:execOp a.eval o=(do let dd <- resolve a.eval ⟨.builtin .copy,#[x,y],#[t,t2]⟩ o.type;invoke dd.target dd.args:Sem Next):=by unfold execOp;rw [hop]
  rw [e1]
  simp only [resolve,invoke,builtin,Sem.run_bind,Sem.run_pure,Result.andThen_ok,List.map_toArray,List.map_cons,List.map_nil,hs _ _ hx,hs _ _ hy,hc]
 have hlen:(au cur vs off).length=cur.length:=cC (by rw [hvl];omega)
 have hnew:(w.setRow g0 (au cur vs off).toArray).ownsRow 0 e size (.slice (some ⟨g0,0,none⟩) m cap) m (au xs vs off) :=
  ⟨by rw [cC (by rw [hvl];omega)];exact hxl,.inr ⟨g0,cap,_,rfl,Nat.zero_le _,setRow_heap w g0 _ _ e _ hb,hlc,hcm,by simp [hlen,hcs],by
     rw [<- htake];exact dS cur _ off (m*size) (by rw [hvl];omega) hcl⟩⟩
 unfold Oper.wp
 rw [hex]
 exact ⟨.int .i64 q,C,.arr (.slice (some ⟨g0,0,none⟩) m cap) e size m (au xs vs off)::L.eraseIdx j,rfl,Mem.le.refl _,fun h2=>by omega,
  St.turn hw' hnew ⟨rfl,rfl,rfl,by simp,fun k _ hk=>setRow_other w g0 k _ (fun e=>hk (by simp [Value.ownBlock,e]))⟩ (Nat.le_refl _) (.inl rfl),rfl,rfl,rfl⟩

theorem D.copyS {t t2 e g0 off j q dl dc len m cap sl sc:Nat}{x y:Operand}{xs:List Value}{ti te:TI}(hk:k=3)(hd:o.dst=some d)(hg:gOn ds fr o.guard=true)
  (hop:o.op=.call ⟨.builtin .copy,#[x,y],#[t,t2]⟩) (ht:cx.T.get t=some ti) (hte:ti.k=.slice e) (he:cx.T.get e=some te) (hsz:te.size=1)
  (hx:ev fr [] x=some (.slice (some ⟨g0,off,none⟩) dl dc)) (hy:ev fr [] y=some (.slice (some ⟨g0,0,none⟩) sl sc)) (hm:L[j]?=some (.arr (.slice (some ⟨g0,0,none⟩) m cap) e 1 len xs))
  (hq:q=min sl dl) (h1:xs.all oneB=true) (hfit:off+q<=xs.length) (hp:∀ v,aG n ds ((d,[],v)::fr) d=true)
  (h:D cx R its ((d,[],.int .i64 q)::fr) C (.arr (.slice (some ⟨g0,0,none⟩) m cap) e 1 len (au xs (xs.take q) off)::L.eraseIdx j)):D cx R ((i,k,o)::its) fr C L:=by
 refine D.copyCore (vs:=xs.take q) hk hd hg hop ht hte he hsz hx hy hm (sl:=sl) (fun w=>by simp [Builtin.lenOf]) hq (by rw [List.length_take];omega) (fun w hw=>?_)
  (by rw [List.all_eq_true] at h1 ⊢;exact fun u hu=>h1 u (List.mem_of_mem_take hu)) om_ hp h
 have hown:w.ownsRow 0 e 1 (.slice (some ⟨g0,0,none⟩) m cap) len xs:=hw.e _ (List.mem_cons_self ..)
 obtain ⟨rfl,hlc,hcm,cur,hb,hcs,htake⟩:=cM hown
 refine run_firstCells_some (P:=cx.P) w 1 q ⟨g0,0,none⟩ sl sc (xs.take q) (by rw [List.length_take];omega) (fun jj u hu=>?_)
 rw [<- htake,List.take_take,List.getElem?_take] at hu
 split at hu
 ·rw [Addr.add_lit,cell_of_row w g0 _ cur e (0,0) hb];simpa using hu
 ·cases hu

theorem D.copyC {t t2 e g0 off j q dl dc size len m cap:Nat}{x y:Operand}{p:Value}{rows:List (List Value)}{xs:List Value}{ti te:TI}(hk:k=3)(hd:o.dst=some d)(hg:gOn ds fr o.guard=true)
  (hop:o.op=.call ⟨.builtin .copy,#[x,y],#[t,t2]⟩) (ht:cx.T.get t=some ti) (hte:ti.k=.slice e) (he:cx.T.get e=some te) (hsz:te.size=size) (hs0:Nat.beq te.size 0=false)
  (hx:ev fr [] x=some (.slice (some ⟨g0,off,none⟩) dl dc)) (hy:ev fr [] y=some p) (hm:L[j]?=some (.arr (.slice (some ⟨g0,0,none⟩) m cap) e size len xs))
  (hsl:Sl C size p rows) (hq:q=min rows.length dl) (h1:rows.all (fun r=>r.all oneB)=true) (hfit:off+q*size<=xs.length) (hp:∀ v,aG n ds ((d,[],v)::fr) d=true)
  (h:D cx R its ((d,[],.int .i64 q)::fr) C (.arr (.slice (some ⟨g0,0,none⟩) m cap) e size len (au xs (rows.take q).flatten off)::L.eraseIdx j)):D cx R ((i,k,o)::its) fr C L:=by
 obtain ⟨A,c,hpv,hlc,hcm,hrl,hcells⟩:=hsl
 have hpos:0<size:=by rw [<- hsz];exact Nat.pos_of_ne_zero (fun e=>by rw [e] at hs0;cases hs0)
 have hrl':∀ r∈rows.take q,r.length=size:=fun r hr=>hrl r (List.mem_of_mem_take hr)
 have hfl:=aL hrl'
 have hql:(rows.take q).length=q:=by rw [List.length_take];omega
 refine D.copyCore (vs:=(rows.take q).flatten) hk hd hg hop ht hte he hsz hx hy hm (sl:=rows.length) (fun w=>by subst hpv;simp [Builtin.lenOf]) hq (by rw [hfl,hql]) (fun w hw=>?_)
  (by
   rw [List.all_eq_true];intro u hu
   obtain ⟨r,hr,hur⟩:=List.mem_flatten.1 hu
   exact List.all_eq_true.1 (List.all_eq_true.1 h1 r (List.mem_of_mem_take hr)) u hur) hfit hp h
 cases rows with
 | nil =>
  subst hpv
  have hq0:q=0:=by rw [hq];simp
  subst hq0
  cases A <;> simp [Builtin.firstCells,loadCells,loadCellsFrom]
 | cons r rs =>
  obtain ⟨ad,hA,hsp,_⟩:=hcells 0 r (by simp)
  subst hA
  rw [hpv]
  refine run_firstCells_some (P:=cx.P) w size q ad _ c _ (by rw [hfl,hql]) (fun jj u hu=>?_)
  have hqlt:jj<q*size:=by rw [<- hql,<- hfl];exact (List.getElem?_eq_some_iff.1 hu).1
  have hdiv:jj / size<q:=Nat.div_lt_of_lt_mul (by rw [Nat.mul_comm];exact hqlt)
  have hdl:jj / size<(r::rs).length:=by omega
  have hgi:(r::rs)[jj / size]?=some (r::rs)[jj / size]:=List.getElem?_eq_getElem hdl
  have hmod:jj % size<((r::rs)[jj / size]).length:=by rw [hrl _ (List.getElem_mem hdl)];exact Nat.mod_lt _ hpos
  have hgj:=List.getElem?_eq_getElem hmod
  have hgt:((r::rs).take q)[jj / size]?=some (r::rs)[jj / size]:=by rw [List.getElem?_take,if_pos hdiv];exact hgi
  have heq:=getElem?_flatten_rows hrl' hgt hgj
  have hq':jj / size*size+jj % size=jj:=by rw [Nat.mul_comm];exact Nat.div_add_mod jj size
  rw [hq',hu] at heq
  obtain ⟨ad',h3,h4,h5⟩:=hcells _ _ hgi
  cases h3
  have:=h5 _ _ hgj
  rw [hq'] at this
  rw [heq]
  exact this.cell hw
end
end Go.Jog
namespace Go.Jog
open Go

def hAt (l:List Nat)(k:Nat):Nat:=l.getD k 0
def swapL (l:List Nat)(i j:Nat):List Nat:=(l.set i (hAt l j)).set j (hAt l i)
theorem swapL_length {l:List Nat}{i j:Nat}:(swapL l i j).length=l.length:=by simp [swapL]
theorem dP {l:List Nat}{i j k:Nat}(hi:i<l.length)(hj:j<l.length):hAt (swapL l i j) k=if k=j then hAt l i else if k=i then hAt l j else hAt l k:=by
 unfold swapL hAt
 simp only [List.getD_eq_getElem?_getD,List.getElem?_set]
 by_cases h1:j=k
 ·subst h1;simp [hj]
 ·by_cases h2:i=k
  ·subst h2;simp [h1,Ne.symm h1,hi]
  ·simp [h1,h2,Ne.symm h1,Ne.symm h2]
def UpH (l:List Nat)(j:Nat):Prop :=
 (∀ k,1<=k->k<l.length->k≠j->hAt l ((k-1) / 2)<=hAt l k)/\(1<=j->∀ k,1<=k->k<l.length->(k-1) / 2=j->hAt l ((j-1) / 2)<=hAt l k)
def HeapN (n:Nat)(l:List Nat):Prop:=∀ k,1<=k->k<n->hAt l ((k-1) / 2)<=hAt l k
theorem UpH.snoc {l:List Nat}{x:Nat}(h:HeapN l.length l):UpH (l++[x]) l.length:=by
 have e:∀ k,k<l.length->hAt (l++[x]) k=hAt l k:=fun k hk=>by
  simp [hAt,List.getD_eq_getElem?_getD,List.getElem?_append_left hk]
 refine ⟨fun k h1 h2 h3=>?_,fun h0 k h1 h2 h3=>?_⟩
 ·simp only [List.length_append,List.length_singleton] at h2
  rw [e k om_,e _ om_]
  exact h k h1 om_
 ·simp only [List.length_append,List.length_singleton] at h2
  omega
theorem UpH.done {l:List Nat}{j:Nat}(h:UpH l j)(hle:hAt l ((j-1) / 2)<=hAt l j):HeapN l.length l:=fun k h1 h2=>by
 by_cases e:k=j
 ·subst e;exact hle
 ·exact h.1 k h1 h2 e
theorem UpH.step {l:List Nat}{j:Nat}(h:UpH l j)(hj0:1<=j)(hj:j<l.length)(hlt:hAt l j<hAt l ((j-1) / 2)):UpH (swapL l ((j-1) / 2) j) ((j-1) / 2):=by
 have hi:(j-1) / 2<l.length:=by omega
 refine ⟨fun k h1 h2 h3=>?_,fun h0 k h1 h2 h3=>?_⟩
 ·rw [swapL_length] at h2
  rw [dP hi hj,dP hi hj]
  by_cases e:k=j
  ·subst e
   rw [if_pos rfl]
   by_cases e2:(k-1) / 2=k
   ·omega
   ·rw [if_neg e2,if_pos rfl];omega
  ·rw [if_neg e,if_neg h3]
   by_cases e2:(k-1) / 2=j
   ·rw [if_pos e2];exact h.2 hj0 k h1 h2 e2
   ·rw [if_neg e2]
    by_cases e3:(k-1) / 2=(j-1) / 2
    ·rw [if_pos e3]
     have:=h.1 k h1 h2 e
     rw [e3] at this;omega
    ·rw [if_neg e3];exact h.1 k h1 h2 e
 ·rw [swapL_length] at h2
  have hp:=h.1 ((j-1) / 2) h0 hi om_
  rw [dP hi hj,dP hi hj,if_neg (by omega:¬ ((j-1) / 2-1) / 2=j),if_neg (by omega:¬ ((j-1) / 2-1) / 2=(j-1) / 2)]
  by_cases e:k=j
  ·subst e;rw [if_pos rfl];exact hp
  ·rw [if_neg e,if_neg (by omega:¬ k=(j-1) / 2)]
   have:=h.1 k h1 h2 e
   rw [h3] at this;omega

def DownH (n:Nat)(l:List Nat)(i:Nat):Prop :=
 (∀ k,1<=k->k<n->(k-1) / 2≠i->hAt l ((k-1) / 2)<=hAt l k)/\(1<=i->∀ k,1<=k->k<n->(k-1) / 2=i->hAt l ((i-1) / 2)<=hAt l k)
theorem DownH.done {n:Nat}{l:List Nat}{i:Nat}(h:DownH n l i)(hle:∀ k,1<=k->k<n->(k-1) / 2=i->hAt l i<=hAt l k):HeapN n l:=fun k h1 h2=>by
 by_cases e:(k-1) / 2=i
 ·rw [e];exact hle k h1 h2 e
 ·exact h.1 k h1 h2 e
theorem DownH.step {n:Nat}{l:List Nat}{i j:Nat}(h:DownH n l i)(hn:n<=l.length)(hj1:1<=j)(hj:j<n)(hij:(j-1) / 2=i)(hlt:hAt l j<hAt l i)(hmin:∀ k,1<=k->k<n->(k-1) / 2=i->hAt l j<=hAt l k):DownH n (swapL l i j) j:=by
 have hi:i<l.length:=by omega
 have hjl:j<l.length:=by omega
 refine ⟨fun k h1 h2 h3=>?_,fun h0 k h1 h2 h3=>?_⟩
 ·rw [dP hi hjl,dP hi hjl,if_neg h3]
  by_cases e:k=j
  ·subst e
   rw [if_pos rfl,hij,if_pos rfl];omega
  ·rw [if_neg e]
   by_cases e2:(k-1) / 2=i
   ·rw [if_pos e2,if_neg (by omega:¬ k=i)];exact hmin k h1 h2 e2
   ·rw [if_neg e2]
    by_cases e3:k=i
    ·rw [if_pos e3];subst e3;exact h.2 h1 j hj1 hj hij
    ·rw [if_neg e3];exact h.1 k h1 h2 e2
 ·rw [dP hi hjl,dP hi hjl,hij,if_neg (by omega:¬ i=j),if_pos rfl,if_neg (by omega:¬ k=j),if_neg (by omega:¬ k=i)]
  have:=h.1 k h1 h2 om_
  rw [h3] at this;exact this

end Go.Jog
namespace Go.Jog
open Go


section
variable {cx:Cx} {n:Nat} {ds:List (Option Nat)} {R:Rg n ds} {its:List It} {fr:Fr} {C:Mem} {L:List Ent} {i k d:Nat} {o:Oper} {g:GL} {v:Value}
end

section
variable {cx:Cx} {n:Nat} {ds:List (Option Nat)} {R:Rg n ds} {its:List It} {fr:Fr} {C:Mem} {L:List Ent} {i k d:Nat} {o:Oper} {g:GL} {v:Value}
theorem D.quoT {t ty:Nat}{x y:Operand}{ki:IntKind}{p q:Int}(c:Int)(hk:Nat.ble k 1=true)(hd:o.dst=some d)(hop:o.op=.binOp .quo t x y ty)(hg:gOf ds fr o.guard=some g)(hx:ev fr g x=some (.int ki p))(hy:ev fr g y=some (.int ki q))
  (hq:0<q) (hc:p.tdiv q=c) (hr:ki.wrap c=c) (hp:aG n ds ((d,g,.int ki c)::fr) d=true) (hwf:wfG ds fr g=true)
  (h:D cx R its ((d,g,.int ki c)::fr) C L):D cx R ((i,k,o)::its) fr C L :=
 D.run _ hk hd hg (fun _ a hs w=>by
  rw [bY hop (hs _ _ hx) (hs _ _ hy) (fun _ _=>.inl (by simp)) (.inl (by simp)) w]
  have hq0:q≠0:=by omega
  simp [binOp,Op.intDiv,hq0,hc,hr]) hp hwf h
end

section
variable {F:Fx} {k:List KI} {fr:Fr} {C:Mem} {L:List Ent}
theorem G.rowForm {e:Exit}(j:Nat){v:Value}{t s m:Nat}{xs:List Value}(hj:L[j]?=some (.arr v t s (m+1) xs))(h:∀ g c,v=.slice (some ⟨g,0,none⟩) (m+1) c->G F k e fr C L):G F k e fr C L:=fun h0 a w ha hw=>by
 have hw':=St.perm hw (aN hj)
 have hown:w.ownsRow 0 t s v (m+1) xs:=hw'.sep.e _ (List.mem_cons_self ..)
 rcases hown.2 with ⟨_,h1⟩ | ⟨g,cap,cur,h1,_⟩
 ·omega
 ·exact h g cap h1 h0 a w ha hw
theorem G.rowSlice {e:Exit}(j:Nat){v:Value}{t s m:Nat}{xs:List Value}(hj:L[j]?=some (.arr v t s m xs))(h:∀ A c,v=.slice A m c->G F k e fr C L):G F k e fr C L:=fun h0 a w ha hw=>by
 have hw':=St.perm hw (aN hj)
 have hown:w.ownsRow 0 t s v m xs:=hw'.sep.e _ (List.mem_cons_self ..)
 rcases hown.2 with ⟨h1,h2⟩ | ⟨g,cap,cur,h1,_⟩
 ·subst h2;exact h _ _ h1 h0 a w ha hw
 ·exact h _ _ h1 h0 a w ha hw
end
end Go.Jog
namespace Go.Jog
open Go
section
variable {cx:Cx} {n:Nat} {ds:List (Option Nat)} {R:Rg n ds} {its:List It} {fr:Fr} {C:Mem} {L:List Ent} {i k d:Nat} {o:Oper} {g:GL} {v:Value}
end
end Go.Jog
namespace Go.Jog
open Go

def noDefer (ops:Array Oper):Bool:=ops.toList.all fun o=>match o.op with
 | .defer _=>false
 | _=>true
theorem noDefer_at {ops:Array Oper}(h:noDefer ops=true){i:Nat}{o:Oper}(ho:ops[i]?=some o):∀ c,o.op≠.defer c:=by
 intro c hc
 obtain ⟨h1,h2⟩:=Array.getElem?_eq_some_iff.1 ho
 have:=List.all_eq_true.1 h ops[i] (Array.getElem_mem_toList h1)
 rw [h2,hc] at this
 cases this

theorem oper_in {P:Program}{o:Oper}{a:Act}{w:World}{next:Act->World->Prop}{Q:Exit->Act->World->Prop}{l n:Nat}(hd:∀ c,o.op≠.defer c)(h:o.wp P a w next Q):o.wpIn (Fence.wide.inRound l) n P a w next Q:=by
 refine ⟨fun _ _=>trivial, ?_⟩
 show o.uponIn (Fence.wide.inRound l) n P a next Q ((o.semAt (some l) a.eval).run P w)
 rw [Oper.semAt_some l a.eval o hd]
 unfold Oper.wp at h
 revert h
 generalize (execOp a.eval o).run P w=r
 intro h
 cases r with
 | ok x w' =>
  cases x with
  | value v=>exact h
  | skip=>exact h
  | defer d=>exact h
  | enter f args=>exact ⟨(fun h=>(by cases h)),CallsIn.inRound l (callsIn_wide.2 h)⟩
  | row row args =>
   refine ⟨(fun h=>(by cases h)),fun c cs _=>?_⟩
   obtain ⟨v,w2,h1,h2⟩:=h c cs
   exact ⟨v,w2,h1,stepsIn_wide.2 h2⟩
  | _=>exact h.elim
 | halt x w' =>
  cases x <;> exact h

theorem wpOp_in {P:Program}{ops:Array Oper}{N:Act->World->Prop}{l n:Nat}{i:Nat}{K K':Act->World->Prop}{a:Act}{w:World}(hd:noDefer ops=true)(hk:∀ a w,K a w->K' a w)
  (h:wpOp P ops (QN N) i K a w):wpOpIn (Fence.wide.inRound l) n P ops (QN N) i K' a w:=by
 unfold wpOp at h
 unfold wpOpIn
 cases ho:ops[i]? with
 | none=>rw [ho] at h;exact hk _ _ h
 | some o =>
  rw [ho] at h
  simp only at h ⊢
  split
  ·rename_i hw
   rw [if_pos hw] at h
   rcases h with h | ⟨_,a',w',h⟩
   ·exact oper_in (noDefer_at hd ho) (Oper.wp_mono hk h)
   ·exact h.elim
  ·rename_i hw
   rw [if_neg hw] at h
   exact ⟨fun _ _=>trivial,hk _ _ h⟩
theorem wpOps_in {P:Program}{ops:Array Oper}{N:Act->World->Prop}{l n:Nat}(hd:noDefer ops=true):∀ (π:List Nat)(a:Act)(w:World),wpOps P ops (QN N) π a w->wpOpsIn (Fence.wide.inRound l) n P ops (QN N) π a w
 | [],_,_,h=>h
 | i::π,a,w,h=>by
  rw [wpOps_cons] at h
  rw [wpOpsIn_cons]
  exact wpOp_in hd (fun a w=>wpOps_in hd π a w) h
theorem wpAny_in {P:Program}{ops:Array Oper}{N:Act->World->Prop}{l n:Nat}{md:Region.Mode}(hd:noDefer ops=true):∀ (f:Nat)(ls:Array Bool)(a:Act)(w:World),wpAny P md ops (QN N) f ls a w->wpAnyIn (Fence.wide.inRound l) n P md ops (QN N) f ls a w
 | 0,_,_,_,h=>h
 | f+1,_ls,_a,_w,h=>⟨h.1,fun i hi=>wpOp_in hd (fun a w=>wpAny_in hd f _ a w) (h.2 i hi)⟩
end Go.Jog
namespace Go.Jog
open Go
structure RankTo (A:List Arc3)(n:Nat)(pre e:List Nat):Prop where
 len:e.length=n
 sound:∀ v,v<n->∃ u,Walk A (hAt e v) u v
 up:∀ a∈A,a.lo∈pre->hAt e a.lo+1<=hAt e a.up
theorem hAt_setB {l:List Nat}{u v x:Nat}(h:u<l.length):hAt (l.set u x) v=if v=u then x else hAt l v:=by
 unfold hAt
 simp only [List.getD_eq_getElem?_getD,List.getElem?_set]
 by_cases e:u=v
 ·subst e;simp [h]
 ·rw [if_neg e,if_neg (Ne.symm e)]
theorem RankTo.start {A:List Arc3}{n:Nat}:RankTo A n [] (List.replicate n 0):=by
 refine ⟨by simp,fun v hv=>⟨v, ?_⟩,fun a _ h=>by cases h⟩
 have:hAt (List.replicate n 0) v=0:=by simp [hAt,List.getD_eq_getElem?_getD,hv]
 rw [this];exact Walk.zero.2 rfl
theorem RankTo.step {A:List Arc3}{n:Nat}{pre e:List Nat}{a:Arc3}(h:RankTo A n pre e)(ha:a∈A)(hlo:a.lo<n)(hup:a.up<n)(hne:a.up≠a.lo)(hnp:a.up ∉ pre) :
  RankTo A n pre (e.set a.up (max (hAt e a.up) (hAt e a.lo+1)))/\hAt (e.set a.up (max (hAt e a.up) (hAt e a.lo+1))) a.lo=hAt e a.lo /\
   hAt e a.lo+1<=hAt (e.set a.up (max (hAt e a.up) (hAt e a.lo+1))) a.up/\∀ v,hAt e v<=hAt (e.set a.up (max (hAt e a.up) (hAt e a.lo+1))) v:=by
 have hl:=h.len
 have hs:∀ v,hAt (e.set a.up (max (hAt e a.up) (hAt e a.lo+1))) v=if v=a.up then max (hAt e a.up) (hAt e a.lo+1) else hAt e v:=fun v=>hAt_setB om_
 have hge:∀ v,hAt e v<=hAt (e.set a.up (max (hAt e a.up) (hAt e a.lo+1))) v:=fun v=>by
  rw [hs];split
  ·rename_i e1;subst e1;exact Nat.le_max_left _ _
  ·exact Nat.le_refl _
 refine ⟨⟨by simp [hl],fun v hv=>?_,fun b hb hbp=>?_⟩,by rw [hs,if_neg (Ne.symm hne)],by rw [hs,if_pos rfl];exact Nat.le_max_right _ _,hge⟩
 ·rw [hs]
  by_cases e1:v=a.up
  ·subst e1
   rw [if_pos rfl]
   rcases Nat.le_total (hAt e a.up) (hAt e a.lo+1) with h1 | h1
   ·rw [Nat.max_eq_right h1]
    obtain ⟨u,hu⟩:=h.sound a.lo hlo
    exact ⟨u,Walk.snoc.2 ⟨a,ha,rfl,hu⟩⟩
   ·rw [Nat.max_eq_left h1];exact h.sound _ hv
  ·rw [if_neg e1];exact h.sound v hv
 ·have h1:=h.up b hb hbp
  have h2:b.lo≠a.up:=fun e1=>hnp (e1 ▸ hbp)
  rw [hs b.lo,if_neg h2]
  exact Nat.le_trans h1 (hge _)
theorem RankTo.snoc {A:List Arc3}{n i:Nat}{pre e:List Nat}(h:RankTo A n pre e)(hi:∀ a∈nexts A i,hAt e i+1<=hAt e a.up):RankTo A n (pre++[i]) e :=
 ⟨h.len,h.sound,fun a ha hp=>by
  rcases List.mem_append.1 hp with h1 | h1
  ·exact h.up a ha h1
  ·have e1:=List.mem_singleton.1 h1
   have:=hi a (by unfold nexts;rw [List.mem_filter];exact ⟨ha,by simp [e1]⟩)
   rw [e1];exact this⟩
theorem RankTo.done {A:List Arc3}{n:Nat}{pre e:List Nat}(h:RankTo A n pre e)(hb:Below n A)(hall:∀ a∈A,a.lo∈pre){v:Nat}(hv:v<n):LongTo A v (hAt e v):=by
 refine ⟨h.sound v hv, ?_⟩
 intro k
 induction k generalizing v with
 | zero=>intro u _;omega
 | succ k ih =>
  intro u hw
  obtain ⟨a,ha,hu,hw2⟩:=Walk.snoc.1 hw
  subst hu
  have h1:=h.up a ha (hall a ha)
  have h2:=ih (hb a ha).1 _ hw2
  omega

end Go.Jog
namespace Go.Jog
open Go
section
variable {cx:Cx} {n:Nat} {ds:List (Option Nat)} {R:Rg n ds} {its:List It} {fr:Fr} {C:Mem} {L:List Ent} {i k d:Nat} {o:Oper} {g:GL} {v:Value}
theorem D.max {x y:Operand}{ts:Array TypeId}{p q:Int}{ki kj:IntKind}(c:Int)(hk:Nat.ble k 1=true)(hd:o.dst=some d)(hop:o.op=.call ⟨.builtin .max,#[x,y],ts⟩)(hg:gOf ds fr o.guard=some g)(hx:ev fr g x=some (.int ki p))(hy:ev fr g y=some (.int kj q))
  (hc:Max.max p q=c) (hp:aG n ds ((d,g,.int ki c)::fr) d=true) (hwf:wfG ds fr g=true)
  (h:D cx R its ((d,g,.int ki c)::fr) C L):D cx R ((i,k,o)::its) fr C L :=
 D.run _ hk hd hg (fun _ a hs w=>by
  have e1:execOp a.eval o=(do let dd <- resolve a.eval ⟨.builtin .max,#[x,y],ts⟩ o.type;invoke dd.target dd.args:Sem Next):=by unfold execOp;rw [hop]
  rw [e1]
  have hm:(if q > p then q else p)=c:=by rw [<- hc];by_cases hh:q > p <;> simp [hh] <;> omega
  simp [resolve,invoke,builtin,hs _ _ hx,hs _ _ hy,Builtin.max_,Builtin.max2,hm]) hp hwf h
theorem D.min {x y:Operand}{ts:Array TypeId}{p q:Int}{ki kj:IntKind}(c:Int)(hk:Nat.ble k 1=true)(hd:o.dst=some d)(hop:o.op=.call ⟨.builtin .min,#[x,y],ts⟩)(hg:gOf ds fr o.guard=some g)(hx:ev fr g x=some (.int ki p))(hy:ev fr g y=some (.int kj q))
  (hc:Min.min p q=c) (hp:aG n ds ((d,g,.int ki c)::fr) d=true) (hwf:wfG ds fr g=true)
  (h:D cx R its ((d,g,.int ki c)::fr) C L):D cx R ((i,k,o)::its) fr C L :=
 D.run _ hk hd hg (fun _ a hs w=>by
  have e1:execOp a.eval o=(do let dd <- resolve a.eval ⟨.builtin .min,#[x,y],ts⟩ o.type;invoke dd.target dd.args:Sem Next):=by unfold execOp;rw [hop]
  rw [e1]
  have hm:(if q<p then q else p)=c:=by rw [<- hc];by_cases hh:q<p <;> simp [hh] <;> omega
  simp [resolve,invoke,builtin,hs _ _ hx,hs _ _ hy,Builtin.min_,Builtin.min2,hm]) hp hwf h
end
end Go.Jog
namespace Go.Jog
open Go

def Cw.round (P:Program)(l n:Nat):Cw P where
 wp:=fun c Q a w=>c.wpIn (Fence.wide.inRound l) n P Q a w
 nd:=fun ops=>noDefer ops=true
 mono:=fun h q=>wpIn_mono q h
 skip:=wpIn_skip
 ret:=wpIn_ret
 exit:=wpIn_exit
 seq:=wpIn_seq
 block:=wpIn_block
 cond:=wpIn_cond_split
 loop:=wpIn_loop
 region:=fun hd h=>wpIn_mono (wpIn_region (wpOps_in hd _ _ _ h)) (fun e a w q=>by cases e <;> first | exact q | exact q.elim)
 any:=fun hm hd h=>wpIn_mono (wpIn_region_any hm (wpAny_in hd _ _ _ _ h)) (fun e a w q=>by cases e <;> first | exact q | exact q.elim)

theorem Kq_dd (F:Fx)(dd:List Deferred):∀ k,Kq { F with dd:=dd } k=Kq F k
 | []=>rfl
 | .code c::k=>by
  funext e a w
  cases e <;> simp only [Kq,Kq_dd F dd k]
 | .blk id::k=>by
  funext e a w
  cases e <;> simp only [Kq,Kq_dd F dd k]
 | .inv I::k=>by
  funext e a w
  cases e <;> simp only [Kq,Kq_dd F dd k]

def Iter (P:Program)(gf:FuncId)(lb:Array Value)(C:Mem)(vss:List (Value × Value)):Prop :=
 ∀ (l:Nat)(J:Nat->World->Prop)(W:World),
  (∀ k W,J k W->∀ b o,C b=some o->W.heap[b]?=some o)->(∀ k W,J k W->J k W.drew) ->
  (∀ k v W1,J k W1->vss[k]?=some v->YieldAt Fence.wide 1 P l #[v.1,v.2] W1 fun e W'=>e=.returned (.bool true)/\J (k+1) W') ->
  J 0 W->CallsIn Fence.wide 2 P gf (#[.func (.yield l) #[] #[]]++lb) W fun e W'=>(∃ v,e=.returned v)/\J vss.length W'

section
variable {F:Fx} {k:List KI} {fr:Fr} {C:Mem} {L:List Ent}
theorem St.putObj {w0:World}{C0:Mem}{L0:List Ent}{C:Mem}{L:List Ent}{w:World}{b:Nat}{o o':Obj}(h:St w0 C0 L0 C (.obj b o::L) w):St w0 C0 L0 C (.obj b o'::L) (w.putObj b o'):=by
 have hb:w.heap[b]?=some o:=h.sep.e _ (List.mem_cons_self ..)
 exact St.put h (World.putObj_heap_same (Array.getElem?_eq_some_iff.1 hb).1) (fun k hk=>World.putObj_heap_other hk) (World.putObj_size) rfl rfl rfl (Nat.le_refl _)

theorem G.asIn {cx:Cx}{fn:Func}{n l:Nat}{b:Bs}{post:Value->Mem->List Ent->Prop}{last:Exit->Act->World->Prop}{c:Code}(h:G ⟨cx,fn,n,b,post,Cw.round cx.P l 1,[],last⟩ (norm 64 [.code c]) .normal fr C L)
  (hle:b.C0.le C) {a:Act} {w:World} (ha:FrOk n [] [] fr a) (hw:b.cls (C,L) w):c.wpIn (Fence.wide.inRound l) 1 cx.P last a w:=by
 have:=G.bG 64 h hle a w ha hw
 simp only [Kq] at this
 exact wpIn_mono this (fun e a w q=>by cases e <;> exact q)

theorem G.rangeFunc {g:Operand}{p0 p1:Nat}{assign body:Code}{gf:FuncId}{lb:Array Value}{vss:List (Value × Value)}(hW:F.W=Cw.plain F.cx.P)(hd0:F.dd=[])
  (hg:ev fr [] g=some (.func (.func gf) #[] lb)) (hen:Enters F.cx.P gf=true) (hseq:Iter F.cx.P gf lb C vss) (I:Nat->List Ent->Prop) (h0:I 0 L) (_hp:fr.all (fun x=>x.2.1.isEmpty)=true)
  (hok:∀ u v,(aG F.n [] ((p0,[],u)::fr) p0 && aG F.n [] ((p1,[],v)::(p0,[],u)::fr) p1)=true) (frb:Value->Value->Fr)
  (hassign:∀ l u v W1 L',G ⟨F.cx,F.fn,F.n,⟨W1,C,L'⟩,F.post,Cw.round F.cx.P l 1,[],fun e a w'=>e=.normal/\FrOk F.n [] [] (frb u v) a/\St W1 C L' C L' w'⟩ (norm 64 [.code assign]) .normal ((p1,[],v)::(p0,[],u)::fr) C L')
  (hbody:∀ l j u v L' W1,I j L'->vss[j]?=some (u,v) ->
   G ⟨F.cx,F.fn,F.n,⟨W1,C,L'⟩,F.post,Cw.round F.cx.P l 1,[],fun e _ w'=>e=.normal/\∃ L1,I (j+1) L1/\St W1 C L' C L1 w'⟩ (norm 64 [.code body]) .normal (frb u v) C L')
  (hdone:∀ D L',I vss.length L'->G { F with dd:=[{ target:=.collected D,args:=#[] }] } (norm 64 k) .normal fr C (.obj D (.deferred (some []))::L')) :
  G F (.code (.rangeFunc g #[p0,p1] assign body)::k) .normal fr C L:=fun hle a w ha hw=>by
 simp only [Kq,hW]
 show (Code.rangeFunc g #[p0,p1] assign body).wp F.cx.P (Kq F k) a w
 refine (wpIn_wide (n:=3)).1 (wpIn_rangeFunc fun fn _=>?_)
 have hga:a.eval g=.func (.func gf) #[] lb:=bl ha (fun p hp=>by cases hp) hg
 have hdef:a.defers=[]:=ha.defers.trans hd0
 obtain ⟨rec,hrec⟩:∃ rec:LoopState->Loop,rec=fun st=>{ state:=st,pending:=none,fn,tmps:=a.tmps,params:=#[p0,p1],assign,body,defers:=w.heap.size }:=⟨_,rfl⟩
 obtain ⟨W1,hW1⟩:∃ W1,(w.alloc (.deferred (some []))).alloc (.loop (rec .ready))=W1:=⟨_,rfl⟩
 have hS1:St F.b.w0 F.b.C0 F.b.L0 C (.obj (w.heap.size+1) (.loop (rec .ready))::.obj w.heap.size (.deferred (some []))::L) W1:=by
  have:=St.alloc (St.alloc hw (.deferred (some []))) (.loop (rec .ready))
  rw [World.size_alloc] at this
  rw [<- hW1];exact this
 refine ⟨w.heap.size+1,[{ target:=.collected w.heap.size,args:=#[] }],W1,{ target:=.fn (.func gf) lb,args:=#[.func (.yield (w.heap.size+1)) #[] #[]] },W1,gf,
  #[.func (.yield (w.heap.size+1)) #[] #[]]++lb,W1, ?_, ?_,fun _ _=>trivial, ?_,fun _=>by decide, ?_⟩
 ·rw [<- hW1,hrec];exact run_enterLoop_outer _ _ _ _ _
 ·simp only [resolve,hga]
  simp [go_sem]
 ·simp [invoke,go_sem,run_callFunc hen]
 ·refine (hseq (w.heap.size+1) (fun j W=>∃ L',I j L'/\St F.b.w0 F.b.C0 F.b.L0 C (.obj (w.heap.size+1) (.loop (rec .ready))::.obj w.heap.size (.deferred (some []))::L') W) W1
   (fun j W ⟨L',_,hs⟩=>hs.sep.c) (fun j W ⟨L',hi,hs⟩=>⟨L',hi,hs.drew⟩) ?_ ⟨L,h0,hS1⟩).mono ?_
  ·rintro j ⟨u,v⟩ W ⟨L',hi,hs⟩ hj
   have hl:W.heap[w.heap.size+1]?=some (.loop (rec .ready)):=hs.sep.e _ (List.mem_cons_self ..)
   have hy:=run_yield (P:=F.cx.P) (args:=#[u,v]) hl (by rw [hrec];rfl)
   rw [hrec] at hy
   have hz:(#[p0,p1].zip #[u,v]).foldl (fun tmps (x:Nat × Value)=>match x with | (t,a)=>tmps.setIfInBounds t a) a.tmps=(a.tmps.setIfInBounds p0 u).setIfInBounds p1 v:=by simp
   dsimp only at hy
   rw [hz] at hy
   refine ⟨fn,_,assign,body,hy,roundIn_of_wpIn trivial ?_⟩
   have hfr:FrOk F.n [] [] ((p1,[],v)::(p0,[],u)::fr) { tmps:=(a.tmps.setIfInBounds p0 u).setIfInBounds p1 v,defers:=[] }:=by
    have hk:=hok u v
    rw [Bool.and_eq_true] at hk
    have h1:=FrOk.put (u:=u) (FrOk.mk (dd:=[]) ha.size hdef ha.ent:FrOk F.n [] [] fr a) hk.1 ⟨fun _=>rfl,fun hn=>absurd (fun p hp=>by cases hp) hn⟩
    have h2:=FrOk.put (u:=v) h1 hk.2 ⟨fun _=>rfl,fun hn=>absurd (fun p hp=>by cases hp) hn⟩
    exact ⟨h2.size,rfl,h2.ent⟩
   have hA:=G.asIn (hassign (w.heap.size+1) u v W _) (Mem.le.refl _) hfr (St.start hs.sep)
   refine wpIn_mono hA (fun e a1 W2 q=>?_)
   obtain ⟨rfl,hfr1,hs1⟩:=q
   have hs2:=St.call (Lr:=[]) (by rw [List.append_nil];exact hs) hs1
   rw [List.append_nil] at hs2
   have hl2:W2.heap[w.heap.size+1]?=some (.loop (rec .ready)):=hs2.sep.e _ (List.mem_cons_self ..)
   refine ⟨_,run_beginRound hl2 (by rw [hrec]), ?_⟩
   have hs3:St F.b.w0 F.b.C0 F.b.L0 C (.obj (w.heap.size+1) (.loop (rec .busy))::.obj w.heap.size (.deferred (some []))::L') (W2.putObj (w.heap.size+1) (.loop { rec .ready with state:=.busy })):=by
    have:=St.putObj (o':=.loop { rec .ready with state:=.busy }) hs2
    rw [hrec] at this ⊢
    exact this
   have hB:=G.asIn (hbody (w.heap.size+1) j u v L' (W2.putObj (w.heap.size+1) (.loop { rec .ready with state:=.busy })) hi hj) (Mem.le.refl _) hfr1 (St.start hs3.drop.drop.sep)
   refine wpIn_mono hB (fun e a2 W4 q=>?_)
   obtain ⟨rfl,L1,hi1,hs4⟩:=q
   have hs5:=St.call (Lp:=L') (Lr:=[.obj (w.heap.size+1) (.loop (rec .busy)),.obj w.heap.size (.deferred (some []))]) (St.perm hs3 (List.perm_append_comm (l₁:=[_,_]))) hs4
   have hs6:St F.b.w0 F.b.C0 F.b.L0 C (.obj (w.heap.size+1) (.loop (rec .busy))::.obj w.heap.size (.deferred (some []))::L1) W4:=St.perm hs5 (List.perm_append_comm (l₂:=[_,_]))
   have hl4:W4.heap[w.heap.size+1]?=some (.loop (rec .busy)):=hs6.sep.e _ (List.mem_cons_self ..)
   refine ⟨_,_,run_endRound none hl4,rfl,L1,hi1, ?_⟩
   have:=St.putObj (o':=.loop { rec .busy with state:=if (none:Option Code).isNone then .ready else .done,pending:=none }) hs6
   rw [hrec] at this ⊢
   exact this
  ·rintro e W2 ⟨⟨v,rfl⟩,L',hi,hs⟩
   have hl:W2.heap[w.heap.size+1]?=some (.loop (rec .ready)):=hs.sep.e _ (List.mem_cons_self ..)
   refine ⟨none,_,by have:=run_endLoop (P:=F.cx.P) hl (by rw [hrec];simp);rw [hrec] at this;exact this, ?_⟩
   have hs2:St F.b.w0 F.b.C0 F.b.L0 C (.obj w.heap.size (.deferred (some []))::L') (W2.putObj (w.heap.size+1) (.loop { rec .ready with state:=.exhausted })):=(St.putObj hs).drop
   have:=G.bG 64 (hdone w.heap.size L' hi) hle { a with defers:=[{ target:=.collected w.heap.size,args:=#[] }]++a.defers } _ ⟨ha.size,by rw [hdef];rfl,ha.ent⟩ hs2
   rw [Kq_dd] at this
   rw [hrec] at this
   exact this

theorem G.eX {cx:Cx}{fn:Func}{n:Nat}{W1:World}{C C':Mem}{L' L1 L2:List Ent}{post:Value->Mem->List Ent->Prop}{W:Cw cx.P}{R:List Ent->Prop}(hp:L1.Perm L2)(h:R L2) :
  G ⟨cx,fn,n,⟨W1,C,L'⟩,post,W,[],fun e _ w'=>e=.normal/\∃ L1,R L1/\St W1 C L' C L1 w'⟩ [] .normal fr C' L1:=fun hle _ _ _ hw =>
 ⟨rfl,L2,h,St.less (St.perm hw hp) (Mem.le.refl _) hle⟩
theorem G.ff {cx:Cx}{fn:Func}{n:Nat}{W1:World}{C C':Mem}{L':List Ent}{post:Value->Mem->List Ent->Prop}{W:Cw cx.P}{fr':Fr}(hs:Has fr fr') :
  G ⟨cx,fn,n,⟨W1,C,L'⟩,post,W,[],fun e a w'=>e=.normal/\FrOk n [] [] fr' a/\St W1 C L' C L' w'⟩ [] .normal fr C' L':=fun hle _ _ ha hw =>
 ⟨rfl,ha.weaken hs.sub,St.less hw (Mem.le.refl _) hle⟩

theorem Fn.introM {cx:Cx}{f:FuncId}{fn:Func}{c:Code}{args:List Value}{C:Mem}{L:List Ent}{post:Value->Mem->List Ent->Prop}(hen:Enters cx.P f=true)(hf:cx.P.funcs[f]?=some fn)(hb:fn.body=some c)
  (n:Nat) (hnt:fn.ntmps=n) (hn:Nat.ble args.length n=true)
  (h:∀ w0,G ⟨cx,fn,n,⟨w0,C,L⟩,post,Cw.plain cx.P,[],bodyPostM Fence.wide 3 cx.P fn (finOf ⟨w0,C,L⟩ post)⟩ (norm 64 [.code c]) .normal (args0 args 0) C L):Fn cx.P f args C L post:=by
 subst hnt
 refine ⟨hen,fun w hw=>callsIn_wide.1 (callsIn_of_wp_marks (n:=3) hf hb trivial ?_)⟩
 rw [Nat.ble_eq] at hn
 have:=G.bG 64 (h w) (Mem.le.refl _) { tmps:=args.toArray++Array.replicate (fn.ntmps-args.toArray.size) undef,defers:=[] } w
  ⟨by simp;omega,rfl,fun s g v hg=>by
   obtain ⟨rfl,_,hv⟩:=args0_get hg
   refine ⟨fun _=>?_,fun hn=>absurd (fun p hp=>by cases hp) hn⟩
   simp only [Nat.sub_zero] at hv
   have hlt:=(List.getElem?_eq_some_iff.1 hv).1
   simp only [Array.getElem?_append,List.size_toArray,hlt,if_true,List.getElem?_toArray]
   exact hv⟩ (St.start hw)
 simp only [Kq] at this
 refine wpIn_wide.2 (Code.wp_mono (fun e a w q=>?_) this)
 cases e <;> exact q

theorem endsM {cx:Cx}{fn:Func}{n:Nat}{b:Bs}{post:Value->Mem->List Ent->Prop}:(⟨cx,fn,n,b,post,Cw.plain cx.P,[],bodyPostM Fence.wide 3 cx.P fn (finOf b post)⟩:Fx).ends:=by
 refine ⟨fun e a w h=>?_,rfl⟩
 cases e with
 | normal=>obtain ⟨h1,h2⟩:=h;show LeavesInM _ _ _ _ _ _ a.defers _ _;rw [h1];exact h2
 | ret=>obtain ⟨h1,h2⟩:=h;show LeavesInM _ _ _ _ _ _ a.defers _ _;rw [h1];exact h2
 | panic c=>obtain ⟨h1,h2⟩:=h;show LeavesInM _ _ _ _ _ _ a.defers _ _;rw [h1];exact h2
 | outgrown=>exact h
 | exit id=>exact h
 | goto l=>exact h

theorem G.finM {cx:Cx}{fn:Func}{n D:Nat}{b:Bs}{post:Value->Mem->List Ent->Prop}{v:Value}
  (hr:∀ a w,FrOk n [] [{ target:=.collected D,args:=#[] }] fr a->St b.w0 b.C0 b.L0 C L w->(results fn a.tmps).run cx.P w=.ok v w) (h:post v C []) :
  G ⟨cx,fn,n,b,post,Cw.plain cx.P,[{ target:=.collected D,args:=#[] }],bodyPostM Fence.wide 3 cx.P fn (finOf b post)⟩ [] .ret fr C (.obj D (.deferred (some []))::L):=fun hle a w ha hw=>by
 show LeavesInM _ _ _ _ _ _ a.defers _ _
 rw [ha.defers]
 have hD:w.heap[D]?=some (.deferred (some [])):=hw.sep.e _ (List.mem_cons_self ..)
 have hs:=(St.putObj (o':=.deferred none) hw).drop
 exact ⟨by simp,.inl ⟨D,_,rfl,run_takeDeferred hD,v,hr a _ ha hs,v,C,[],rfl,St.dropAll hs,h⟩⟩

theorem G.finR {v:Value}(hr:∀ a w,FrOk F.n [] F.dd fr a->St F.b.w0 F.b.C0 F.b.L0 C L w->(results F.fn a.tmps).run F.cx.P w=.ok v w)(h:F.post v C [])(he:F.ends):G F [] .ret fr C L:=fun _ a w ha hw =>
 he.kq (bodyPost_ret (v:=v) (hr a w ha hw) (ha.defers.trans he.2) ⟨v,C,[],rfl,St.dropAll hw,h⟩)
end
end Go.Jog
namespace Go.Jog
open Go
structure RankS (A:List Arc3)(n:Nat)(S:Arc3->Prop)(e:List Nat):Prop where
 len:e.length=n
 sound:∀ v,v<n->∃ u,Walk A (hAt e v) u v
 up:∀ a∈A,S a->hAt e a.lo+1<=hAt e a.up
theorem RankS.start {A:List Arc3}{n:Nat}:RankS A n (fun _=>False) (List.replicate n 0):=by
 refine ⟨by simp,fun v hv=>⟨v, ?_⟩,fun a _ h=>h.elim⟩
 have:hAt (List.replicate n 0) v=0:=by simp [hAt,List.getD_eq_getElem?_getD,hv]
 rw [this];exact Walk.zero.2 rfl
theorem RankS.mono {A:List Arc3}{n:Nat}{S T:Arc3->Prop}{e:List Nat}(h:RankS A n S e)(hs:∀ a∈A,T a->S a):RankS A n T e :=
 ⟨h.len,h.sound,fun a ha ht=>h.up a ha (hs a ha ht)⟩
theorem RankS.step {A:List Arc3}{n:Nat}{S:Arc3->Prop}{e:List Nat}{a:Arc3}(h:RankS A n S e)(ha:a∈A)(hlo:a.lo<n)(hup:a.up<n)(hne:a.up≠a.lo)(hnp:∀ b∈A,S b->b.lo≠a.up) :
  RankS A n (fun b=>S b∨b=a) (e.set a.up (max (hAt e a.up) (hAt e a.lo+1))):=by
 have hl:=h.len
 have hs:∀ v,hAt (e.set a.up (max (hAt e a.up) (hAt e a.lo+1))) v=if v=a.up then max (hAt e a.up) (hAt e a.lo+1) else hAt e v:=fun v=>hAt_setB om_
 have hge:∀ v,hAt e v<=hAt (e.set a.up (max (hAt e a.up) (hAt e a.lo+1))) v:=fun v=>by
  rw [hs];split
  ·rename_i e1;subst e1;exact Nat.le_max_left _ _
  ·exact Nat.le_refl _
 refine ⟨by simp [hl],fun v hv=>?_,fun b hb hbp=>?_⟩
 ·rw [hs]
  by_cases e1:v=a.up
  ·subst e1
   rw [if_pos rfl]
   rcases Nat.le_total (hAt e a.up) (hAt e a.lo+1) with h1 | h1
   ·rw [Nat.max_eq_right h1]
    obtain ⟨u,hu⟩:=h.sound a.lo hlo
    exact ⟨u,Walk.snoc.2 ⟨a,ha,rfl,hu⟩⟩
   ·rw [Nat.max_eq_left h1];exact h.sound _ hv
  ·rw [if_neg e1];exact h.sound v hv
 ·rcases hbp with hbp | rfl
  ·have h1:=h.up b hb hbp
   rw [hs b.lo,if_neg (hnp b hb hbp)]
   exact Nat.le_trans h1 (hge _)
  ·rw [hs b.lo,if_neg (Ne.symm hne),hs b.up,if_pos rfl]
   exact Nat.le_max_right _ _
theorem RankS.done {A:List Arc3}{n:Nat}{S:Arc3->Prop}{e:List Nat}(h:RankS A n S e)(hb:Below n A)(hall:∀ a∈A,S a){v:Nat}(hv:v<n):LongTo A v (hAt e v):=by
 refine ⟨h.sound v hv, ?_⟩
 intro k
 induction k generalizing v with
 | zero=>intro u _;omega
 | succ k ih =>
  intro u hw
  obtain ⟨a,ha,hu,hw2⟩:=Walk.snoc.1 hw
  subst hu
  have h1:=h.up a ha (hall a ha)
  have h2:=ih (hb a ha).1 _ hw2
  omega

def IsMost (e:List Nat)(xs:List Nat)(m:Nat):Prop:=(∀ x∈xs,hAt e x<=m)/\(m=0∨∃ x∈xs,hAt e x=m)
theorem IsMost.snoc {e xs:List Nat}{m i:Nat}(h:IsMost e xs m):IsMost e (xs++[i]) (max m (hAt e i)):=by
 refine ⟨fun x hx=>?_, ?_⟩
 ·rcases List.mem_append.1 hx with h1 | h1
  ·exact Nat.le_trans (h.1 x h1) (Nat.le_max_left _ _)
  ·rw [List.mem_singleton.1 h1];exact Nat.le_max_right _ _
 ·rcases Nat.le_total m (hAt e i) with h1 | h1
  ·rw [Nat.max_eq_right h1];exact .inr ⟨i,by simp,rfl⟩
  ·rw [Nat.max_eq_left h1]
   rcases h.2 with h2 | ⟨x,hx,h2⟩
   ·exact .inl h2
   ·exact .inr ⟨x,by simp [hx],h2⟩
end Go.Jog
namespace Go.Jog
open Go
theorem Fn.frozen {P:Program}{f:FuncId}{args:List Value}{C:Mem}{L:List Ent}{v:Value}{t size len:Nat}{xs:List Value}{post:Value->Mem->List Ent->Prop}(rows:List (List Value))(hen:Enters P f=true)(hx:xs=rows.flatten)(hl:∀ r∈rows,r.length=size)(hn:rows.length=len)
  (h:∀ C',C.le C'->Sl C' size v rows->Fn P f args C' L post):Fn P f args C (.arr v t size len xs::L) post:=by
 subst hx
 refine ⟨hen,fun w hw=>?_⟩
 obtain ⟨C',h1,h2,h3⟩:=St.freezeArr (St.start hw) hl hn
 refine ((h C' h1 h2).2 w h3.sep).mono fun e w' ⟨v,C'',L'',e1,h4,h5⟩=>⟨v,C'',L'',e1, ?_,h5⟩
 have:=St.call (Lr:=[]) (by rw [List.append_nil];exact h3) h4
 rwa [List.append_nil] at this

section
variable {cx:Cx} {n:Nat} {ds:List (Option Nat)} {R:Rg n ds} {its:List It} {fr:Fr} {C:Mem} {L:List Ent} {i k d:Nat} {o:Oper} {g:GL}
end
end Go.Jog
namespace Go.Jog
open Go
section
variable {cx:Cx} {n:Nat} {ds:List (Option Nat)} {R:Rg n ds} {its:List It} {fr:Fr} {C:Mem} {L:List Ent} {i k d:Nat} {o:Oper} {g:GL}
end
end Go.Jog
namespace Go.Jog
open Go
def cut1 (c:UInt8):List UInt8->List UInt8 × Option (List UInt8)
 | []=>([],none)
 | b::s=>if b=c then ([],some s) else (b::(cut1 c s).1,(cut1 c s).2)
theorem ed (c:UInt8):∀ s:List UInt8,(cut1 c s=(s,none)/\Lib.indexByte s c=-1/\c ∉ s)∨∃ pre post,cut1 c s=(pre,some post)/\s=pre++c::post/\c ∉ pre/\Lib.indexByte s c=pre.length
 | []=>.inl ⟨rfl,rfl,by simp⟩
 | b::s=>by
  by_cases hb:b=c
  ·subst hb
   exact .inr ⟨[],s,by simp [cut1],rfl,by simp,by simp [Lib.indexByte]⟩
  ·rcases ed c s with ⟨h1,h2,h3⟩ | ⟨pre,post,h1,h2,h3,h4⟩
   ·refine .inl ⟨by simp [cut1,hb,h1],by simp [Lib.indexByte,hb,h2],by simp [Ne.symm hb,h3]⟩
   ·refine .inr ⟨b::pre,post,by simp [cut1,hb,h1],by simp [h2],by simp [Ne.symm hb,h3], ?_⟩
    have h5:¬ (pre.length:Int)=-1:=by omega
    simp [Lib.indexByte,hb,h4,h5]
theorem cut1_hit {c:UInt8}{s:List UInt8}(h:0<=Lib.indexByte s c):∃ pre post,cut1 c s=(pre,some post)/\s=pre++c::post/\Lib.indexByte s c=pre.length:=by
 rcases ed c s with ⟨_,h2,_⟩ | ⟨pre,post,h1,h2,_,h4⟩
 ·omega
 ·exact ⟨pre,post,h1,h2,h4⟩
theorem cut1_miss {c:UInt8}{s:List UInt8}(h:¬ 0<=Lib.indexByte s c):cut1 c s=(s,none):=by
 rcases ed c s with ⟨h1,_⟩ | ⟨pre,post,h1,h2,_,h4⟩
 ·exact h1
 ·omega
def okD (s:List UInt8):Bool:=!(s == []) && decide (s.length<=200) && !(s.head? == some 48 && decide (1<s.length)) && s.all digB
theorem okD_can {s:List UInt8}:okD s=true ↔ CanS s/\s.length<=200:=by
 unfold okD CanS
 simp only [Bool.and_eq_true,Bool.not_eq_true',beq_eq_false_iff_ne,ne_eq,decide_eq_true_eq,List.all_eq_true,Bool.and_eq_false_imp,beq_iff_eq,decide_eq_false_iff_not]
 constructor
 ·rintro ⟨⟨⟨h1,h2⟩,h3⟩,h4⟩
  refine ⟨⟨h4,h1,fun h=>?_⟩,h2⟩
  have:=h3 h
  have:0<s.length:=List.length_pos_iff.2 h1
  omega
 ·rintro ⟨⟨h4,h1,h3⟩,h2⟩
  exact ⟨⟨⟨h1,h2⟩,fun h=>by have:=h3 h;omega⟩,h4⟩
theorem decV_tk {s:List UInt8}{i:Nat}{c:UInt8}(h:s[i]?=some c):decV (s.take (i+1))=decV (s.take i)*10+(c.toNat-48):=by
 rw [List.take_add_one,h,Option.toList_some,bN]
 congr 1
 unfold decV decF
 simp
def bq (c:UInt8)(s:List UInt8):List UInt8 × Bool:=if s.head?=some c then (s.tail,true) else (s,false)
end Go.Jog
namespace Go.Jog
end Go.Jog
namespace Go.Jog
open Go
section
variable {F:Fx} {fr:Fr} {C:Mem} {L:List Ent}
end
end Go.Jog
namespace Go.Jog
open Go
section
variable {cx:Cx} {n:Nat} {ds:List (Option Nat)} {R:Rg n ds} {its:List It} {fr:Fr} {C:Mem} {L:List Ent} {i k d:Nat} {o:Oper} {g:GL}
theorem D.remT {t ty:Nat}{x y:Operand}{ki:IntKind}{p q:Int}(c:Int)(hk:Nat.ble k 1=true)(hd:o.dst=some d)(hop:o.op=.binOp .rem t x y ty)(hg:gOf ds fr o.guard=some g)(hx:ev fr g x=some (.int ki p))(hy:ev fr g y=some (.int ki q))
  (hq:0<q) (hc:p.tmod q=c) (hp:aG n ds ((d,g,.int ki c)::fr) d=true) (hwf:wfG ds fr g=true)
  (h:D cx R its ((d,g,.int ki c)::fr) C L):D cx R ((i,k,o)::its) fr C L :=
 D.run _ hk hd hg (fun _ a hs w=>by
  rw [bY hop (hs _ _ hx) (hs _ _ hy) (fun _ _=>.inl (by simp)) (.inl (by simp)) w]
  have hq0:q≠0:=by omega
  simp [binOp,Op.intDiv,hq0,hc]) hp hwf h
end
theorem bZ (n:Nat):Lib.decDigits n=decS n:=by
 induction n using Nat.strongRecOn with
 | ind n ih =>
  rw [Lib.decDigits,decS]
  split
  ·rfl
  ·rw [ih (n / 10) om_]
def txt (z:Int):List UInt8:=if z<0 then 45::decS z.natAbs else decS z.natAbs
theorem itoa_txt (z:Int):Lib.itoa z=txt z:=by
 unfold Lib.itoa txt
 split
 ·rw [bZ]
 ·rename_i h
  rw [bZ]
  congr 1
  omega
theorem itoa_nat (n:Nat):Lib.itoa (n:Int)=decS n:=by rw [Lib.itoa_nonneg,bZ]
theorem tenK {x:Nat}(h:x<10000):decS (10000+x)=49::padS 4 x:=by
 obtain ⟨h1,h2,h3⟩:=padS_ok 4 x h
 have hc:CanS (49::padS 4 x):=⟨fun c hc=>by
  rcases List.mem_cons.1 hc with rfl | hc
  ·decide
  ·exact h2 c hc,by simp,fun he=>by simp at he⟩
 have hv:decV (49::padS 4 x)=10000+x:=by
  rw [bV,h1,h3];rfl
 rw [canS_dec hc,hv]
theorem carry_one {V:Int}{out:List Nat}{i:Nat}{o:Int}(hl:out.length=i)(h:V=(valP out:Nat)+(10000:Int) ^ i*o) :
  V=(valP (out++[(o % 10000).toNat]):Nat)+(10000:Int) ^ (i+1)*((o-o % 10000) / 10000):=by
 obtain ⟨h1,h2,h3⟩:=carry_piece o
 rw [valP_snoc,hl,h]
 have e:((o % 10000).toNat:Int)=o % 10000:=Int.toNat_of_nonneg h1
 rw [Int.natCast_add,Int.natCast_mul,e,Int.natCast_pow,Int.pow_succ]
 have e2:((BP:Nat):Int)=10000:=rfl
 rw [e2]
 conv=>lhs;rw [h3]
 rw [Int.mul_add,Int.mul_assoc]
 omega
theorem over_pos {V:Int}{out:List Nat}{i:Nat}{o:Int}(hl:out.length=i)(hd:DigP out)(hV:0<=V)(h:V=(valP out:Nat)+(10000:Int) ^ i*o):0<=o:=by
 have h1:=valP_lt hd
 rw [hl] at h1
 have h2:((valP out:Nat):Int)<(10000:Int) ^ i:=by
  have:((valP out:Nat):Int)<((BP ^ i:Nat):Int):=by omega
  rwa [Int.natCast_pow] at this
 apply Classical.byContradiction
 intro hn
 have h3:o<=-1:=by omega
 have h4:(10000:Int) ^ i*o<=(10000:Int) ^ i*(-1):=Int.mul_le_mul_of_nonneg_left h3 (Int.pow_nonneg (by decide))
 omega
end Go.Jog
namespace Go.Jog

abbrev B9:Nat:=1000000000
def val9:List Nat->Nat
 | []=>0
 | x::l=>x+B9*val9 l
def Dig9 (l:List Nat):Prop:=∀ x∈l,x<B9
def Can9 (l:List Nat):Prop:=Dig9 l/\l.getLast?≠some 0
theorem dx:∀ (a b:List Nat),val9 (a++b)=val9 a+B9 ^ a.length*val9 b
 | [],b=>by simp [val9]
 | x::a,b=>by
  simp only [List.cons_append,val9,dx a b,List.length_cons,Nat.pow_succ]
  rw [Nat.mul_add,<- Nat.mul_assoc,Nat.mul_comm (B9 ^ a.length) B9,Nat.add_assoc]
theorem val9_snoc (a:List Nat)(x:Nat):val9 (a++[x])=val9 a+B9 ^ a.length*x:=by
 rw [dx];simp [val9]
theorem val9_lt:∀ {l:List Nat},Dig9 l->val9 l<B9 ^ l.length
 | [],_=>by simp [val9]
 | x::l,h=>by
  have h1:=h x (by simp)
  have h2:=val9_lt (l:=l) (fun y hy=>h y (by simp [hy]))
  simp only [val9,List.length_cons,Nat.pow_succ]
  have h3:B9*(val9 l+1)<=B9*B9 ^ l.length:=Nat.mul_le_mul_left _ h2
  rw [Nat.mul_comm (B9 ^ l.length) B9]
  rw [Nat.mul_add] at h3
  omega
theorem val9_take {l:List Nat}{i x:Nat}(h:l[i]?=some x):val9 (l.take (i+1))=val9 (l.take i)+B9 ^ i*x:=by
 have hi:=(List.getElem?_eq_some_iff.1 h).1
 rw [List.take_add_one,h]
 simp only [Option.toList_some]
 rw [val9_snoc,List.length_take,Nat.min_eq_left om_]
theorem Dig9.take {l:List Nat}(h:Dig9 l)(i:Nat):Dig9 (l.take i):=fun x hx=>h x (List.mem_of_mem_take hx)
theorem Dig9.snoc {l:List Nat}(h:Dig9 l){x:Nat}(hx:x<B9):Dig9 (l++[x]):=fun y hy=>by
 rcases List.mem_append.1 hy with hy | hy
 ·exact h y hy
 ·rw [List.mem_singleton.1 hy];exact hx
theorem val9_zeros:∀ {l:List Nat},(∀ x∈l,x=0)->val9 l=0
 | [],_=>rfl
 | x::l,h=>by
  rw [val9,h x (by simp),val9_zeros (fun y hy=>h y (by simp [hy]))];rfl
def cutN9 (l:List Nat):Nat->Nat
 | 0=>0
 | k+1=>if l[k]?=some 0 then cutN9 l k else k+1
def cut9 (l:List Nat):List Nat:=l.take (cutN9 l l.length)
theorem cutN9_last (l:List Nat):∀ k,k<=l.length->(l.take (cutN9 l k)).getLast?≠some 0/\val9 (l.take (cutN9 l k))=val9 (l.take k)
 | 0,_=>by simp [cutN9]
 | k+1,hk=>by
  rw [cutN9]
  obtain ⟨x,hx⟩:∃ x,l[k]?=some x:=⟨l[k],List.getElem?_eq_getElem om_⟩
  split
  ·rename_i h
   obtain ⟨h1,h2⟩:=cutN9_last l k om_
   refine ⟨h1, ?_⟩
   rw [h2,val9_take h];simp
  ·rename_i h
   refine ⟨?_,rfl⟩
   rw [List.take_add_one,hx]
   simp only [Option.toList_some,List.getLast?_append,List.getLast?_singleton]
   intro e
   rw [hx] at h
   simp at e
   exact h (by rw [e])
theorem eF (l:List Nat):val9 (cut9 l)=val9 l:=by
 have:=(cutN9_last l l.length (Nat.le_refl _)).2
 rw [List.take_length] at this;exact this
theorem eG {l:List Nat}(h:Dig9 l):Can9 (cut9 l):=⟨h.take _,(cutN9_last l l.length (Nat.le_refl _)).1⟩
theorem can9_low {l:List Nat}(h:Can9 l)(hl:0<l.length):B9 ^ (l.length-1)<=val9 l:=by
 obtain ⟨x,hx⟩:∃ x,l[l.length-1]?=some x:=⟨l[l.length-1]'om_,List.getElem?_eq_getElem om_⟩
 have h1:=val9_take hx
 rw [show l.length-1+1=l.length by omega,List.take_length] at h1
 have hx0:x≠0:=fun e=>h.2 (by rw [List.getLast?_eq_getElem?,hx,e])
 rw [h1]
 have:B9 ^ (l.length-1)*1<=B9 ^ (l.length-1)*x:=Nat.mul_le_mul_left _ om_
 omega
theorem can9_nil {l:List Nat}(h:Can9 l):val9 l=0 ↔ l=[]:=by
 constructor
 ·intro e
  apply Classical.byContradiction
  intro hn
  have:=can9_low h (List.length_pos_iff.2 hn)
  rw [e] at this
  have hp:0<B9 ^ (l.length-1):=Nat.pow_pos (by decide)
  omega
 ·rintro rfl;rfl
theorem len9_lt {a b:List Nat}(ha:Dig9 a)(hb:Can9 b)(h:a.length<b.length):val9 a<val9 b:=by
 have h1:=val9_lt ha
 have h2:=can9_low hb om_
 have h3:B9 ^ a.length<=B9 ^ (b.length-1):=Nat.pow_le_pow_right (by decide) om_
 omega
theorem at9_lt {a b:List Nat}{i x y:Nat}(ha:Dig9 a)(hl:a.length=b.length)(hx:a[i]?=some x)(hy:b[i]?=some y)(hxy:x<y)(he:a.drop (i+1)=b.drop (i+1)):val9 a<val9 b:=by
 have e1:val9 a=val9 (a.take (i+1))+B9 ^ (i+1)*val9 (a.drop (i+1)):=by
  have hi:=(List.getElem?_eq_some_iff.1 hx).1
  conv=>lhs;rw [<- List.take_append_drop (i+1) a]
  rw [dx,List.length_take,Nat.min_eq_left om_]
 have e2:val9 b=val9 (b.take (i+1))+B9 ^ (i+1)*val9 (b.drop (i+1)):=by
  have hi:=(List.getElem?_eq_some_iff.1 hy).1
  conv=>lhs;rw [<- List.take_append_drop (i+1) b]
  rw [dx,List.length_take,Nat.min_eq_left om_]
 rw [e1,e2,he,val9_take hx,val9_take hy]
 have h1:=val9_lt (ha.take i)
 have h2:(a.take i).length<=i:=by rw [List.length_take];omega
 have h3:B9 ^ (a.take i).length<=B9 ^ i:=Nat.pow_le_pow_right (by decide) h2
 have h4:B9 ^ i*(x+1)<=B9 ^ i*y:=Nat.mul_le_mul_left _ hxy
 rw [Nat.mul_add] at h4
 omega
def g9 (l:List Nat)(i:Nat):Nat:=l.getD i 0
theorem g9_lt {l:List Nat}(h:Dig9 l)(i:Nat):g9 l i<B9:=by
 unfold g9
 rw [List.getD_eq_getElem?_getD]
 cases hx:l[i]? with
 | none=>decide
 | some x=>exact h x (List.mem_of_getElem? hx)
theorem g9_some {l:List Nat}{i x:Nat}(h:l[i]?=some x):g9 l i=x:=by unfold g9;rw [List.getD_eq_getElem?_getD,h];rfl
theorem pow_B9 (j:Nat):10 ^ (9*j)=B9 ^ j:=by rw [Nat.pow_mul]
theorem take9_step {s:List UInt8}{out:List Nat}{e lo j:Nat}(he:e+9*j=s.length)(hl:out.length=j)(hlo:lo<=e)(h:val9 out=decV (s.drop e)) :
  val9 (out++[decV (cutS s lo e)])=decV (s.drop lo):=by
 rw [val9_snoc,hl,h]
 have e1:s.drop lo=cutS s lo e++s.drop e:=by
  unfold cutS
  have:s.drop lo=(s.take e++s.drop e).drop lo:=by rw [List.take_append_drop]
  rw [this,List.drop_append_of_le_length (by rw [List.length_take];omega)]
 rw [e1,bN,List.length_drop,show s.length-e=9*j by omega,pow_B9,Nat.mul_comm,Nat.add_comm]
theorem cutS9_lt {s:List UInt8}{lo e:Nat}(hs:∀ c∈s,digB c=true)(h:e<=lo+9):decV (cutS s lo e)<B9:=by
 have h1:∀ c∈cutS s lo e,digB c=true:=fun c hc=>hs c (List.mem_of_mem_take (List.mem_of_mem_drop hc))
 have h2:=co h1
 have h3:(cutS s lo e).length<=9:=by
  unfold cutS
  rw [List.length_drop,List.length_take];omega
 have h4:10 ^ (cutS s lo e).length<=10 ^ 9:=Nat.pow_le_pow_right (by decide) h3
 have h5:(10:Nat) ^ 9=B9:=rfl
 omega
theorem give9_step {p:List Nat}{s:List UInt8}{i x:Nat}(hd:Dig9 p)(hx:p[i]?=some x)(h:CanS s)(hv:decV s=val9 (p.drop (i+1)))(h0:0<decV s) :
  CanS (s++padS 9 x)/\decV (s++padS 9 x)=val9 (p.drop i)/\0<decV (s++padS 9 x):=by
 have hxl:=hd x (List.mem_of_getElem? hx)
 obtain ⟨h1,h2,h3⟩:=padS_ok 9 x hxl
 have hi:=List.getElem?_eq_some_iff.1 hx
 have e:val9 (p.drop i)=x+B9*val9 (p.drop (i+1)):=by rw [List.drop_eq_getElem_cons hi.1,hi.2];rfl
 have hv2:decV (s++padS 9 x)=val9 (p.drop i):=by
  rw [bN,h1,h3,hv,e,Nat.add_comm,Nat.mul_comm]
 refine ⟨⟨fun c hc=>?_, ?_,fun he=>?_⟩,hv2, ?_⟩
 ·rcases List.mem_append.1 hc with hc | hc
  ·exact h.1 c hc
  ·exact h2 c hc
 ·intro e;exact h.2.1 (List.append_eq_nil_iff.1 e).1
 ·exfalso
  rw [head_app h.2.1] at he
  have h5:=h.2.2 he
  match hs:s,h.2.1 with
  | [c],_ =>
   simp at he
   subst he
   have:decV ([48]:List UInt8)=0:=rfl
   omega
  | c::d::s,_=>simp at h5
 ·rw [bN]
  have:0<decV s*10 ^ (padS 9 x).length:=Nat.mul_pos h0 (Nat.pow_pos (by decide))
  omega
theorem val9_tk (l:List Nat)(i:Nat):val9 (l.take (i+1))=val9 (l.take i)+B9 ^ i*g9 l i:=by
 cases hx:l[i]? with
 | none =>
  have hi:l.length<=i:=List.getElem?_eq_none_iff.1 hx
  have:g9 l i=0:=by unfold g9;rw [List.getD_eq_getElem?_getD,hx];rfl
  rw [this,List.take_of_length_le om_,List.take_of_length_le hi];simp
 | some x=>rw [val9_take hx,g9_some hx]
theorem mul9_dm (P s c B t:Nat)(h:s+B*c=t):P*s+P*B*c=P*t:=by
 rw [<- h,Nat.mul_add,Nat.mul_assoc]
theorem add9_step {a b out:List Nat}{c i:Nat}(hl:out.length=i)(h:val9 out+B9 ^ i*c=val9 (a.take i)+val9 (b.take i)) :
  val9 (out++[(g9 a i+g9 b i+c) % B9])+B9 ^ (i+1)*((g9 a i+g9 b i+c) / B9)=val9 (a.take (i+1))+val9 (b.take (i+1)):=by
 rw [val9_snoc,hl,val9_tk,val9_tk,Nat.pow_succ]
 have h1:=mul9_dm (B9 ^ i) _ _ B9 _ (Nat.mod_add_div (g9 a i+g9 b i+c) B9)
 rw [Nat.mul_add,Nat.mul_add] at h1
 omega
def bor9 (x y c:Nat):Nat:=if x<y+c then 1 else 0
def dif9 (x y c:Nat):Nat:=x+B9*bor9 x y c-y-c
theorem sub9_step {a b out:List Nat}{c i:Nat}(hb:Dig9 b)(hc:c<=1)(hl:out.length=i)(h:val9 out+val9 (b.take i)=val9 (a.take i)+B9 ^ i*c) :
  val9 (out++[dif9 (g9 a i) (g9 b i) c])+val9 (b.take (i+1))=val9 (a.take (i+1))+B9 ^ (i+1)*bor9 (g9 a i) (g9 b i) c:=by
 have hy:=g9_lt hb i
 have h0:dif9 (g9 a i) (g9 b i) c+(g9 b i+c)=g9 a i+B9*bor9 (g9 a i) (g9 b i) c:=by
  unfold dif9 bor9
  split <;> omega
 rw [val9_snoc,hl,val9_tk,val9_tk,Nat.pow_succ]
 have h1:B9 ^ i*dif9 (g9 a i) (g9 b i) c+(B9 ^ i*g9 b i+B9 ^ i*c)=B9 ^ i*g9 a i+B9 ^ i*B9*bor9 (g9 a i) (g9 b i) c:=by
  rw [<- Nat.mul_add,<- Nat.mul_add,h0,Nat.mul_add,Nat.mul_assoc]
 omega
theorem bor9_le (x y c:Nat):bor9 x y c<=1:=by unfold bor9;split <;> omega
theorem dif9_lt {x y c:Nat}(hx:x<B9)(hy:y<B9)(hc:c<=1):dif9 x y c<B9:=by unfold dif9 bor9;split <;> omega
theorem carry9_le {x y c:Nat}(hx:x<B9)(hy:y<B9)(hc:c<=1):(x+y+c) / B9<=1:=by
 have:x+y+c<2*B9:=by omega
 exact Nat.le_of_lt_succ ((Nat.div_lt_iff_lt_mul (by decide)).2 this)
theorem val9_set:∀ {l:List Nat}{i x z:Nat},l[i]?=some x->val9 (l.set i z)+B9 ^ i*x=val9 l+B9 ^ i*z
 | [],_,_,_,h=>by simp at h
 | y::l,0,x,z,h=>by
  simp at h;subst h
  simp only [List.set_cons_zero,val9,Nat.pow_zero,Nat.one_mul];omega
 | y::l,i+1,x,z,h=>by
  have ih:=val9_set (l:=l) (i:=i) (x:=x) (z:=z) (by simpa using h)
  simp only [List.set_cons_succ,val9,Nat.pow_succ]
  have h1:B9*val9 (l.set i z)+B9*(B9 ^ i*x)=B9*val9 l+B9*(B9 ^ i*z):=by rw [<- Nat.mul_add,ih,Nat.mul_add]
  rw [Nat.mul_comm (B9 ^ i) B9,Nat.mul_assoc,Nat.mul_assoc]
  omega
theorem Dig9.set {l:List Nat}(h:Dig9 l){i z:Nat}(hz:z<B9):Dig9 (l.set i z):=fun x hx=>by
 rcases List.mem_or_eq_of_mem_set hx with h1 | h1
 ·exact h x h1
 ·rw [h1];exact hz
theorem mul9_step {out b:List Nat}{V T c x i k:Nat}{o:Nat}(ho:out[i+k]?=some o)(hT:T=val9 (b.take k))(h:val9 out+B9 ^ (i+k)*c=V+B9 ^ i*(x*T)) :
  val9 (out.set (i+k) ((c+x*g9 b k+o) % B9))+B9 ^ (i+(k+1))*((c+x*g9 b k+o) / B9)=V+B9 ^ i*(x*val9 (b.take (k+1))):=by
 have h1:=val9_set (z:=(c+x*g9 b k+o) % B9) ho
 rw [val9_tk,<- hT,show i+(k+1)=i+k+1 by omega,Nat.pow_succ]
 have h2:=mul9_dm (B9 ^ (i+k)) _ _ B9 _ (Nat.mod_add_div (c+x*g9 b k+o) B9)
 rw [Nat.mul_add,Nat.mul_add] at h2
 have h3:B9 ^ i*(x*(T+B9 ^ k*g9 b k))=B9 ^ i*(x*T)+B9 ^ (i+k)*(x*g9 b k):=by
  rw [Nat.mul_add,Nat.mul_add,Nat.pow_add]
  congr 1
  rw [Nat.mul_left_comm x,Nat.mul_assoc]
 omega
theorem mul9_bound {c x y o:Nat}(hc:c<B9)(hx:x<B9)(hy:y<B9)(ho:o<B9):c+x*y+o<B9*B9:=by
 have h1:x*y<=(B9-1)*(B9-1):=Nat.mul_le_mul om_ om_
 have h2:(B9-1)*(B9-1)=999999998000000001:=by decide
 have h3:B9*B9=1000000000000000000:=by decide
 have hB:B9=1000000000:=rfl
 omega
theorem carry9_lt {c x y o:Nat}(hc:c<B9)(hx:x<B9)(hy:y<B9)(ho:o<B9):(c+x*y+o) / B9<B9:=(Nat.div_lt_iff_lt_mul (by decide)).2 (mul9_bound hc hx hy ho)
end Go.Jog
namespace Go.Jog
open Go Go.Proofs Go.Shelf

def VarC (P:Program)(C:Mem)(name:String)(cs:Array Value):Prop:=∃ g e fz,P.globalNamed name=some g/\C g=some (.cells cs e fz)
theorem VarC.mono {P:Program}{C D:Mem}{name:String}{cs:Array Value}(h:VarC P C name cs)(hl:C.le D):VarC P D name cs :=
 let ⟨g,e,fz,h1,h2⟩:=h
 ⟨g,e,fz,h1,hl _ _ h2⟩
theorem VarC.var {P:Program}{C:Mem}{name:String}{cs:Array Value}(h:VarC P C name cs){L:List Ent}{w:World}(hw:Sep C L w):w.var? P name=some cs:=by
 obtain ⟨g,e,fz,h1,h2⟩:=h
 have h3:=hw.c _ _ h2
 simp [World.var?,h1,h3]
theorem VarC.ofWorld {P:Program}{W:World}{name:String}{cs:Array Value}(h:W.var? P name=some cs):VarC P (memOf W) name cs:=by
 unfold World.var? at h
 cases hg:P.globalNamed name with
 | none=>rw [hg] at h;cases h
 | some g =>
  rw [hg] at h
  simp only [Option.bind_some] at h
  split at h
  ·rename_i cs' e fz hb
   simp only [Option.some.injEq] at h
   subst h
   exact ⟨g,e,fz,hg,hb⟩
  ·cases h

theorem St.grown {C:Mem}{w:World}(hw:Sep C [] w)(q:Nat)(os:Array Obj):St w C [] C [] (Sort.grow (w.drewN q) os) :=
 ⟨⟨fun b o hb=>by rw [Sort.heap_grow_old (w.drewN q) os (cI (hw.c b o hb):b<(w.drewN q).heap.size)];exact hw.c b o hb,fun x hx=>(by cases hx),List.Pairwise.nil,hw.n⟩,
  ⟨rfl,rfl,rfl,by simp [Sort.grow],fun k hk _=>Sort.heap_grow_old (w.drewN q) os hk,Nat.le_add_right _ _⟩,Mem.le.refl _,fun _ _ hk=>.inl hk,fun _ hk=>.inr hk⟩

section
variable {P:Program} {ρ:Ren}
theorem itoa_fn (L : LaysM.n171 P ρ) (n : Int) (h0 : -9223372036854775808 <= n) (h1 : n <= 9223372036854775807) (C : Mem) (hT : VarC P C "internal/strconv.uint64pow10" (Lib.pow10Tab.map fun z => Value.int .u64 z).toArray) (hen : Enters P (ρ.f 171) = true) :
  Gives P (ρ.f 171) [.int .i64 n] C (strV (Lib.itoa n)) :=
 ⟨hen,fun w hw=>(Any.strconv_Itoa L n h0 h1 w (hT.var hw)).mono fun e w' ⟨h2,q,os,h3⟩=>by
  subst h3
  exact ⟨_,C,[],h2,St.grown hw q os,rfl,rfl⟩⟩
end
end Go.Jog
namespace Go.Jog
open Go Go.Proofs Go.Shelf

theorem St.bytesW {C:Mem}{w:World}(hw:Sep C [] w)(e:TypeId)(s:ByteArray):St w C [] C [] (Lib.bytesWorld w e s):=by
 refine ((St.start hw).fresh (ob:=_) ⟨?_, ?_, ?_,Lib.bytesWorld_size w e s,fun k hk=>Lib.bytesWorld_at_old w e s k hk,Lib.bytesWorld_at_new w e s, ?_⟩).drop
 ·unfold Lib.bytesWorld World.freeze;split <;> rfl
 ·unfold Lib.bytesWorld World.freeze;split <;> rfl
 ·unfold Lib.bytesWorld World.freeze;split <;> rfl
 ·unfold Lib.bytesWorld World.freeze;split <;> exact Nat.le_succ _
theorem decFrom_dec:∀ (s:List UInt8)(a:Nat),(∀ c∈s,digB c=true)->Lib.decFrom a s=some (s.foldl decF a)
 | [],a,_=>rfl
 | c::s,a,h=>by
  have h1:=h c (by simp)
  simp only [digB,decide_eq_true_eq] at h1
  simp only [Lib.decFrom,Lib.digitVal,if_pos h1,List.foldl_cons]
  rw [decFrom_dec s _ (fun d hd=>h d (by simp [hd]))]
  simp only [decF]
  rw [Nat.mul_comm 10 a]
theorem decNat_dec {s:List UInt8}(h:∀ c∈s,digB c=true)(hn:s≠[]):Lib.decNat s=some (decV s):=by
 unfold Lib.decNat
 cases s with
 | nil=>exact absurd rfl hn
 | cons c s=>simp only [List.isEmpty_cons,Bool.false_eq_true,if_false];exact decFrom_dec _ 0 h
theorem dig_not {c:UInt8}(h:digB c=true):(c == 45)=false/\(c == 43)=false:=by
 simp only [digB,decide_eq_true_eq] at h
 constructor <;> (rw [beq_eq_false_iff_ne];rintro rfl;revert h;decide)
theorem atoi_digs {s:List UInt8}(h:∀ c∈s,digB c=true)(hn:s≠[]):Lib.atoi s=some (decV s:Nat):=by
 cases s with
 | nil=>exact absurd rfl hn
 | cons c s =>
  obtain ⟨h1,h2⟩:=dig_not (h c (by simp))
  simp only [Lib.atoi,h1,h2,Bool.false_eq_true,if_false,decNat_dec h hn]
  rfl
theorem atoi_txt (z:Int):Lib.atoi (txt z)=some z:=by
 obtain ⟨h1,h2⟩:=aO z.natAbs
 unfold txt
 split
 ·rename_i hz
  simp only [Lib.atoi,beq_self_eq_true,if_true,decNat_dec h1.1 h1.2.1,h2]
  show some (-(z.natAbs:Int))=some z
  congr 1;omega
 ·rename_i hz
  rw [atoi_digs h1.1 h1.2.1,h2]
  show some ((z.natAbs:Int))=some z
  congr 1;omega
theorem parseM_dec (M:Nat)(hM:999999999999999999<=M):∀ (s:List UInt8)(a k:Nat),(∀ c∈s,digB c=true)->a<10 ^ k->k+s.length<=18->Lib.parseUintM M a s=.ok (s.foldl decF a)
 | [],a,k,_,_,_=>rfl
 | c::s,a,k,h,ha,hl=>by
  have h1:=h c (by simp)
  simp only [digB,decide_eq_true_eq] at h1
  have hk:10 ^ (k+1)<=10 ^ 18:=Nat.pow_le_pow_right (by decide) (by simp at hl;omega)
  have hk2:10 ^ k<=10 ^ 17:=Nat.pow_le_pow_right (by decide) (by simp at hl;omega)
  have e18:(10:Nat) ^ 18=1000000000000000000:=by decide
  have e17:(10:Nat) ^ 17=100000000000000000:=by decide
  rw [Nat.pow_succ] at hk
  simp only [Lib.parseUintM,if_pos h1]
  rw [if_neg om_,if_neg om_,parseM_dec M hM s (a*10+(c.toNat-48)) (k+1) (fun d hd=>h d (by simp [hd])) (by rw [Nat.pow_succ];omega) (by simp at hl;omega)]
  simp only [List.foldl_cons,decF]
  rw [Nat.mul_comm 10 a]
section
variable {P:Program} {ρ:Ren}
theorem parseU_fn (L:Lays.n287 P ρ)(s:List UInt8)(hd:∀ c∈s,digB c=true)(h0:s≠[])(hl:s.length<=18)(C:Mem)(hen:Enters P (ρ.f 287)=true) :
  Gives P (ρ.f 287) [strV s,.int .i64 10,.int .i64 64] C (.tuple #[.int .u64 (decV s),.nilIface]) :=
 ⟨hen,fun w hw=>(Any.internal_strconv_ParseUint_10_at64 L ⟨s.toArray⟩ (by simp [ByteArray.size];omega) w).mono fun e w' ⟨h2,h3⟩=>by
  have hp:Lib.parseUintB 64 (⟨s.toArray⟩:ByteArray).data.toList=.ok (decV s):=by
   unfold Lib.parseUintB
   rw [if_neg h0]
   exact parseM_dec _ (by decide) s 0 0 hd (by decide) om_
  rw [hp] at h2
  rcases h3 with h3 | h3
  ·subst h3;exact ⟨_,C,[],h2,St.start hw,rfl,rfl⟩
  ·subst h3;exact ⟨_,C,[],h2,St.bytesW hw _ _,rfl,rfl⟩⟩
theorem atoi_fn (L:Lays.n172 P ρ)(z:Int)(hl:(txt z).length<=18)(C:Mem)(hen:Enters P (ρ.f 172)=true):Gives P (ρ.f 172) [strV (txt z)] C (.tuple #[.int .i64 z,.nilIface]) :=
 ⟨hen,fun w hw=>(Any.strconv_Atoi L ⟨(txt z).toArray⟩ z (by simpa [ByteArray.size] using hl) (atoi_txt z) w).mono fun e w' ⟨h2,t,h3⟩=>by
  subst h3;exact ⟨_,C,[],h2,St.bytesW hw _ _,rfl,rfl⟩⟩
theorem scompare_fn (L:Lays.n106 P ρ)(a b:List UInt8)(C:Mem)(hen:Enters P (ρ.f 106)=true):Gives P (ρ.f 106) [strV a,strV b] C (.int .i64 (Lib.compareBytes a b)) :=
 Gives.ofCalls hen (fun w=>Any.strings_Compare L ⟨a.toArray⟩ ⟨b.toArray⟩ w) C
end
end Go.Jog
namespace Go.Jog
open Go Go.Proofs Go.Shelf

theorem run_append_string_at {P:Program}(w:World)(t u ty e:TypeId)(i:TypeInfo)(ht:P.underlying t=some (.slice e))(hu:P.underlying u=some .string)(hi:P.info? e=some i)(hz:i.zero=some (.int .u8 0))
  (hsize:i.size=1) (hby:i.bytes=1) (v:Value) (n:Nat) (xs:List Value) (hown:w.ownsRow 0 e 1 v n xs) (s:ByteArray) (h63:n+s.size<=maxLen) (hbytes:n+s.size<=140737488355328) :
  ∃ v' w',(Builtin.append_ #[t,u] ty #[v,.string s]).run P w=.ok v' w'/\w'.ownsRow 0 e 1 v' (n+s.size) (xs++Lib.strCells s)/\w.grownBy w' v.ownBlock /\
   (v'.ownBlock=v.ownBlock∨v'.ownBlock=some w.heap.size∨v'.ownBlock=none):=by
 obtain ⟨v',w',h1,h2,h3,h4⟩:=Lib.run_append_own_string (P:=P) w 0 t u ty e i ht hu hi hz hsize hby v n xs hown s h63 hbytes (Nat.zero_le _)
 refine ⟨v',w',h1,h2,h3, ?_⟩
 have hxl:xs.length=n:=by simpa using hown.1
 have hsmall:n+s.size<=9223372036854775807:=by simp only [maxLen] at h63;omega
 rcases hown.2 with ⟨rfl,rfl⟩ | ⟨g,cap,cur,rfl,hbg,hg,hnc,hcm,hcs,htake⟩
 ·by_cases hm:s.size=0
  ·rw [h4.2 ⟨rfl,hm⟩];exact .inr (.inr rfl)
  ·have hr:=run_append_nil_string (P:=P) w t u ty e i (.int .u8 0) ht hu hi hz s om_ om_ (by rw [hby];omega)
   rw [hr] at h1
   injection h1 with h1 _
   subst h1
   exact .inr (.inl rfl)
 ·by_cases hroom:n+s.size<=cap
  ·have hcs':cur.size=cap:=by simpa using hcs
   have hr:=Lib.run_append_room_string (P:=P) w t u ty e i ht hu hi hsize g n cap cur hg s hroom om_
   rw [hr] at h1
   injection h1 with h1 _
   subst h1
   exact .inl rfl
  ·have holds:∀ j u,xs[j]?=some u->w.cell? ((⟨g,0,none⟩:Addr).add j)=some u:=hown.cells (g:=g) rfl
   have hr:=Lib.run_append_grow_string (P:=P) w t u ty e i (.int .u8 0) ht hu hi hz ⟨g,0,none⟩ n cap xs (by rw [hsize];simpa using hxl) holds s om_ om_ (by rw [hby];exact growslice_fits om_ om_)
   rw [hr] at h1
   injection h1 with h1 _
   subst h1
   exact .inr (.inl rfl)

section
variable {cx:Cx} {n:Nat} {ds:List (Option Nat)} {R:Rg n ds} {its:List It} {fr:Fr} {C:Mem} {L:List Ent} {i k d:Nat} {o:Oper} {g:GL} {v:Value}

theorem D.appendStr {t u e j m:Nat}{x y:Operand}{ti tu te:TI}{v0:Value}{xs:List Value}{s:List UInt8}(hk:k=3)(hd:o.dst=some d)(hg:gOn ds fr o.guard=true)
  (hop:o.op=.call ⟨.builtin .append,#[x,y],#[t,u]⟩) (ht:cx.T.get t=some ti) (hte:ti.k=.slice e) (hut:cx.T.get u=some tu) (huk:tu.k=.str) (he:cx.T.get e=some te) (hz:te.zv=.int .u8 0) (hs1:te.size=1) (hb1:te.bytes=1)
  (hx:ev fr [] x=some v0) (hy:ev fr [] y=some (strV s)) (hm:L[j]?=some (.arr v0 e 1 m xs))
  (hbytes:m+s.length<=140737488355328) (hp:∀ v,aG n ds ((d,[],v)::fr) d=true)
  (h:∀ A n c,D cx R its ((d,[],.slice A n c)::fr) C (.arr (.slice A n c) e 1 (m+s.length) (xs++s.map fun b=>Value.int .u8 b.toNat)::L.eraseIdx j)):D cx R ((i,k,o)::its) fr C L:=by
 have hu:cx.P.underlying t=some (.slice e):=by
  obtain ⟨kk,s1,b1,z1,g1⟩:=ti
  simp only at hte
  subst hte
  exact bx cx.hT ht
 have hus:cx.P.underlying u=some .string:=by
  obtain ⟨kk,s1,b1,z1,g1⟩:=tu
  simp only at huk
  subst huk
  exact und_str cx.hT hut
 obtain ⟨inf,hi,hsize,hby,hz0,hzc⟩:=(cq cx.hT he).info
 have hsz:(⟨s.toArray⟩:ByteArray).size=s.length:=by simp [ByteArray.size]
 refine D.eg (S:=fun v' C' L'=>(∃ A n c,v'=.slice A n c)/\C'=C/\L'=.arr v' e 1 (m+s.length) (xs++s.map fun b=>Value.int .u8 b.toNat)::L.eraseIdx j) (by subst hk;rfl) hd hg hp (fun a hs w _ hw=>?_) (fun v' C' L' _ ⟨⟨A,n',c,e0⟩,e1,e2⟩=>by subst e0;subst e1;subst e2;exact h A n' c)
 have hw':=St.perm hw (aN hm)
 have hown:w.ownsRow 0 e 1 v0 m xs:=hw'.sep.e _ (List.mem_cons_self ..)
 obtain ⟨v',w',hr1,hr2,hr3,hr5⟩:=run_append_string_at (P:=cx.P) w t u o.type e inf hu hus hi (by rw [hz0,hz]) (by rw [hsize,hs1]) (by rw [hby,hb1]) v0 m xs hown ⟨s.toArray⟩ (by rw [hsz];simp [maxLen];omega) (by rw [hsz];exact hbytes)
 rw [hsz] at hr2
 have hr1':(Builtin.append_ #[t,u] o.type #[v0,strV s]).run cx.P w=.ok v' w':=hr1
 have hrun:(execOp a.eval o).run cx.P w=.ok (.value v') w':=by
  have e1:execOp a.eval o=(do let dd <- resolve a.eval ⟨.builtin .append,#[x,y],#[t,u]⟩ o.type;invoke dd.target dd.args:Sem Next):=by unfold execOp;rw [hop]
  rw [e1]
  simp only [resolve,invoke,builtin,Sem.run_bind,Sem.run_pure,Result.andThen_ok,List.map_toArray,List.map_cons,List.map_nil,hs _ _ hx,hs _ _ hy,hr1']
 unfold Oper.wp
 rw [hrun]
 have hform:∃ A n c,v'=.slice A n c:=by
  rcases hr2.2 with ⟨h1,_⟩ | ⟨g0,cap,cur,h1,_⟩
  ·exact ⟨_,_,_,h1⟩
  ·exact ⟨_,_,_,h1⟩
 exact ⟨v',C,_,rfl,Mem.le.refl _,fun h2=>by omega,St.turn hw' hr2 hr3 (a6 _ hr1) hr5,hform,rfl,rfl⟩

theorem D.sliceData {t g0 m cap:Nat}{x:Operand}(hk:Nat.ble k 1=true)(hd:o.dst=some d)(hop:o.op=.call ⟨.builtin .unsafeSliceData,#[x],#[t]⟩)(hg:gOf ds fr o.guard=some g)(hx:ev fr g x=some (.slice (some ⟨g0,0,none⟩) m cap))(hc:cap≠0)
  (hp:aG n ds ((d,g,.pointer (some ⟨g0,0,none⟩))::fr) d=true) (hwf:wfG ds fr g=true)
  (hh:D cx R its ((d,g,.pointer (some ⟨g0,0,none⟩))::fr) C L):D cx R ((i,k,o)::its) fr C L:=by
 refine D.run _ hk hd hg (fun hG a hs w=>?_) hp hwf hh
 have e1:execOp a.eval o=(do let dd <- resolve a.eval ⟨.builtin .unsafeSliceData,#[x],#[t]⟩ o.type;invoke dd.target dd.args:Sem Next):=by unfold execOp;rw [hop]
 rw [e1]
 simp only [resolve,invoke,builtin,Sem.run_bind,Sem.run_pure,Result.andThen_ok,List.map_toArray,List.map_cons,List.map_nil,hs _ _ hx,Lib.run_unsafeSliceData_row _ _ _ _ _ _ hc]

theorem D.unsafeStr {t u e j g0 m cap:Nat}{x y:Operand}{s:List UInt8}(hk:k=3)(hd:o.dst=some d)(hg:gOn ds fr o.guard=true)
  (hop:o.op=.call ⟨.builtin .unsafeString,#[x,y],#[t,u]⟩) (hpt:cx.P.underlying t=some (.pointer e)) (hce:cx.P.cellsOf e=1)
  (hx:ev fr [] x=some (.pointer (some ⟨g0,0,none⟩))) (hy:ev fr [] y=some (.int .i64 s.length)) (hm:L[j]?=some (.arr (.slice (some ⟨g0,0,none⟩) m cap) e 1 s.length (s.map fun b=>Value.int .u8 b.toNat))) (h0:s≠[])
  (hlen:s.length<=140737488355328) (hp:∀ v,aG n ds ((d,[],v)::fr) d=true)
  (h:D cx R its ((d,[],strV s)::fr) C (L.eraseIdx j)):D cx R ((i,k,o)::its) fr C L:=by
 refine D.eg (S:=fun v' C' L'=>v'=strV s/\C'=C/\L'=L.eraseIdx j) (by subst hk;rfl) hd hg hp (fun a hs w _ hw=>?_) (fun v' C' L' _ ⟨e0,e1,e2⟩=>by subst e0;subst e1;subst e2;exact h)
 have hw':=St.perm hw (aN hm)
 have hown:w.ownsRow 0 e 1 (.slice (some ⟨g0,0,none⟩) m cap) s.length (s.map fun b=>Value.int .u8 b.toNat):=hw'.sep.e _ (List.mem_cons_self ..)
 rcases hown.2 with ⟨hq,_⟩ | ⟨g1,cap1,cur,hq,hbg,hg1,hnc,hcm,hcs,htake⟩
 ·cases hq
 ·cases hq
  have hcs':cur.size=cap:=by simpa using hcs
  have hr:=Lib.run_unsafeString_row (P:=cx.P) w t u o.type e hpt hce g0 cur.size (by simp [World.shape?,hg1]) s h0 om_ om_ (fun j x hj=>hown.cells (g:=g0) rfl j _ (by rw [List.getElem?_map,hj];rfl))
  have hrun:(execOp a.eval o).run cx.P w=.ok (.value (strV s)) (w.freeze ⟨g0,0,none⟩ s.length):=by
   have e1:execOp a.eval o=(do let dd <- resolve a.eval ⟨.builtin .unsafeString,#[x,y],#[t,u]⟩ o.type;invoke dd.target dd.args:Sem Next):=by unfold execOp;rw [hop]
   rw [e1]
   simp only [resolve,invoke,builtin,Sem.run_bind,Sem.run_pure,Result.andThen_ok,List.map_toArray,List.map_cons,List.map_nil,hs _ _ hx,hs _ _ hy,hr]
   rfl
  unfold Oper.wp
  rw [hrun]
  have hlt:g0<w.heap.size:=cI hg1
  have hother:∀ k,k≠g0->(w.freeze ⟨g0,0,none⟩ s.length).heap[k]?=w.heap[k]?:=fun k hk=>by
   unfold World.freeze
   split <;> first | rfl | (simp only [Array.getElem?_modify];rw [if_neg (fun e=>hk e.symm)]) | (simp [Array.getElem?_setIfInBounds,Ne.symm hk])
  have hsz:(w.freeze ⟨g0,0,none⟩ s.length).heap.size=w.heap.size:=by
   unfold World.freeze
   split <;> simp
  obtain ⟨ob',hob'⟩:∃ ob',(w.freeze ⟨g0,0,none⟩ s.length).heap[g0]?=some ob':=⟨_,Array.getElem?_eq_getElem (by rw [hsz];exact hlt)⟩
  have hobj:St _ _ _ C (.obj g0 (.cells cur e (0,0))::L.eraseIdx j) w :=
   ⟨⟨hw'.sep.c,fun x hx=>by
    rcases List.mem_cons.1 hx with rfl | hx
    ·exact hg1
    ·exact hw'.sep.e x (by simp [hx]),by
    have:=List.pairwise_cons.1 hw'.sep.d
    exact List.pairwise_cons.2 ⟨fun y hy k hk=>this.1 y hy k (by simp only [Ent.own] at hk ⊢;simp [Value.ownBlock,hk]),this.2⟩,fun k ⟨x,hx,hk⟩=>by
    rcases List.mem_cons.1 hx with rfl | hx
    ·simp only [Ent.own] at hk
     exact hw'.sep.n k ⟨_,List.mem_cons_self ..,by simp [Ent.own,Value.ownBlock,hk]⟩
    ·exact hw'.sep.n k ⟨x,by simp [hx],hk⟩⟩,hw'.ev,hw'.c0,hw'.cn,fun k ⟨x,hx,hk⟩=>by
    rcases List.mem_cons.1 hx with rfl | hx
    ·simp only [Ent.own] at hk
     exact hw'.ln k ⟨_,List.mem_cons_self ..,by simp [Ent.own,Value.ownBlock,hk]⟩
    ·exact hw'.ln k ⟨x,by simp [hx],hk⟩⟩
  have hput:=hobj.put (w':=w.freeze ⟨g0,0,none⟩ s.length) (o':=ob') hob' hother hsz (by unfold World.freeze;split <;> rfl) (by unfold World.freeze;split <;> rfl) (by unfold World.freeze;split <;> rfl) (by unfold World.freeze;split <;> exact Nat.le_refl _)
  exact ⟨strV s,C,_,rfl,Mem.le.refl _,fun h2=>by omega,hput.drop,rfl,rfl,rfl⟩
end
end Go.Jog
namespace Go.Jog
open Go Go.Proofs Go.Shelf Go.Sort

section
variable {P:Program} {ρ:Ren}
theorem format10_fn (L:Lays.n285 P ρ)(b cap u t:Nat)(cs:List Value)(hu64:u<18446744073709551616)(hz:∀ j,j<Lib.nDigits u->cs[j]?=some (.int .u8 0))(hsz:Lib.nDigits u<4611686018427387904)(C:Mem)(hen:Enters P (ρ.f 285)=true) :
  Fn P (ρ.f 285) [.slice (some ⟨b,0,none⟩) (Lib.nDigits u) cap,.int .u64 u] C [.obj b (.cells ⟨cs⟩ t (0,0))] fun r C' L'=>r=.tuple #[]/\C'=C/\∃ cs',L'=[.obj b (.cells ⟨cs'⟩ t (0,0))]/\cs'.length=cs.length/\∀ (j:Nat) x,(decS u)[j]?=some x->cs'[j]?=some (.int .u8 x.toNat) :=
 ⟨hen,fun w hw=>by
  have hb:w.heap[b]?=some (.cells ⟨cs⟩ t (0,0)):=hw.e _ (List.mem_cons_self ..)
  have hH:Holds (fun (b:UInt8)=>Value.int .u8 (b.toNat:Int)) w b 0 (Array.replicate (Lib.nDigits u) (0:UInt8)):=fun j hj=>by
   have hj':j<Lib.nDigits u:=by simpa using hj
   constructor
   ·simp [World.cell?,hb,hz j hj',hj']
   ·simp [World.frozen?,hb]
  have hfmt:=Any.internal_strconv_formatBase10 L b 0 cap u (Array.replicate (Lib.nDigits u) 0) w hH (by rw [Array.size_replicate];exact Lib.lt_pow_nDigits u) hu64 (by rw [Array.size_replicate];exact hsz)
  rw [Array.size_replicate] at hfmt
  refine hfmt.mono ?_
  rintro e w' ⟨h1,q,v',dk,h2,hF⟩
  subst h2
  have hheap:((putRow (fun (b:UInt8)=>Value.int .u8 (b.toNat:Int)) w b 0 dk).drewN q).heap[b]?=some (.cells ⟨(putCells (fun (b:UInt8)=>Value.int .u8 (b.toNat:Int)) 0 dk ⟨cs⟩).toList⟩ t (0,0)):=by
   simp [putRow,mapBlock,onCells,Array.getElem?_modify,hb]
  refine ⟨_,C,_,h1, ?_,rfl,rfl,(putCells (fun (b:UInt8)=>Value.int .u8 (b.toNat:Int)) 0 dk ⟨cs⟩).toList,rfl, ?_,fun j x hx=>?_⟩
  ·exact (St.start hw).put hheap (fun k hk=>by simp [putRow,mapBlock,Array.getElem?_modify,Ne.symm hk]) (by simp [putRow,mapBlock]) rfl rfl rfl (Nat.le_add_right _ _)
  ·simp [putCells]
  ·rw [<- bZ] at hx
   obtain ⟨hj,hx2⟩:=List.getElem?_eq_some_iff.1 hx
   have hr:=Lib.row_is_numeral hF j hj
   have hj2:j<Lib.nDigits u:=by rw [<- Lib.decDigits_length];exact hj
   have hjc:j<cs.length:=(List.getElem?_eq_some_iff.1 (hz j hj2)).1
   have hds:=hF.size
   simp only [putCells,Array.getElem?_toList,Array.getElem?_mapIdx]
   rw [show ((⟨cs⟩:Array Value)[j]?)=some cs[j] from by simp [hjc]]
   simp only [Option.map_some]
   rw [if_pos ⟨Nat.zero_le _,by omega⟩,Nat.sub_zero,<- hr,hx2]⟩
theorem numDigits_fn (L : LaysM.n284 P ρ) (u : Nat) (h1 : 1 <= u) (h2 : u < 18446744073709551616) (C : Mem) (hT : VarC P C "internal/strconv.uint64pow10" (Lib.pow10Tab.map fun z => Value.int .u64 z).toArray) (hen : Enters P (ρ.f 284) = true) :
  Gives P (ρ.f 284) [.int .u64 u] C (.int .i64 (Lib.nDigits u)) :=
 ⟨hen,fun w hw=>(Any.internal_strconv_numDigits L u h1 h2 w (hT.var hw)).mono fun e w' ⟨h3,h4⟩=>by
  subst h4
  exact ⟨_,C,[],h3,St.start hw,rfl,rfl⟩⟩
end
end Go.Jog
namespace Go.Jog
open Go

section
variable {F:Fx} {k:List KI} {fr:Fr} {C:Mem} {L:List Ent}
theorem res_t1 {cx:Cx}{fn:Func}{n r:Nat}{dd:List Deferred}{w0:World}{C0:Mem}{L0:List Ent}{x:Value}(hres:fn.results=#[.tmp r])
  (hr:ev fr [] (.tmp r)=some x) :
  ∀ a w,FrOk n [] dd fr a->St w0 C0 L0 C L w->(results fn a.tmps).run cx.P w=.ok x w:=fun a w ha _=>by
 have hr':=bl ha (fun p hp=>by cases hp) hr
 simp only [Act.eval,Array.getD_eq_getD_getElem?] at hr'
 simp [results,hres,hr']
end
theorem Fn.give {P:Program}{f:FuncId}{args:List Value}{C:Mem}{L:List Ent}{v:Value}{t size len:Nat}(rows:List (List Value)){post:Value->Mem->List Ent->Prop}(hen:Enters P f=true)(hl:∀ r∈rows,r.length=size)(hn:rows.length=len)
  (h:∀ C',C.le C'->Sl C' size v rows->Fn P f args C' L post):Fn P f args C (.arr v t size len rows.flatten::L) post :=
 ⟨hen,fun w hw=>by
  obtain ⟨C1,h1,h2,h3⟩:=St.freezeArr (St.start hw) hl hn
  refine ((h C1 h1 h2).2 w h3.sep).mono fun e w' ⟨u,C',L',e1,hs,hq⟩=>⟨u,C',L',e1, ?_,hq⟩
  have:=St.call (Lp:=L) (Lr:=[]) (by rw [List.append_nil];exact h3) hs
  rwa [List.append_nil] at this⟩
end Go.Jog
namespace Go.Jog
open Go

section
variable {cx:Cx} {n:Nat} {ds:List (Option Nat)} {R:Rg n ds} {its:List It} {fr:Fr} {C:Mem} {L:List Ent} {i k d:Nat} {o:Oper} {g:GL} {v:Value}

theorem D.ptrNil {t e ty:Nat}{x:Operand}{p:Option Addr}(hk:Nat.ble k 1=true)(hd:o.dst=some d)(hop:o.op=.binOp .eql t x (.const (.pointer none)) ty)(hg:gOf ds fr o.guard=some g)
  (hx:ev fr g x=some (.pointer p)) (hu:cx.P.underlying t=some (.pointer e)) (hu2:cx.P.pointee t=e)
  (hp:aG n ds ((d,g,.bool p.isNone)::fr) d=true) (hwf:wfG ds fr g=true)
  (h:D cx R its ((d,g,.bool p.isNone)::fr) C L):D cx R ((i,k,o)::its) fr C L:=by
 subst hu2
 refine D.run _ hk hd hg (fun _ a hs w=>?_) hp hwf h
 rw [bY hop (hs _ _ hx) rfl (fun _ _=>.inl (by simp)) (.inl (by simp)) w]
 simp only [Act.eval,run_eql_pointer_nil w t p hu,Result.andThen_ok]
theorem D.ptrNeSelf {t e ty:Nat}{x y:Operand}{a0:Addr}(hk:Nat.ble k 1=true)(hd:o.dst=some d)(hop:o.op=.binOp .neq t x y ty)(hg:gOf ds fr o.guard=some g)
  (hx:ev fr g x=some (.pointer (some a0))) (hy:ev fr g y=some (.pointer (some a0))) (hu:cx.P.underlying t=some (.pointer e)) (hi:(cx.P.info? e).isSome=true)
  (hp:aG n ds ((d,g,.bool false)::fr) d=true) (hwf:wfG ds fr g=true)
  (h:D cx R its ((d,g,.bool false)::fr) C L):D cx R ((i,k,o)::its) fr C L:=by
 obtain ⟨j,hj⟩:=Option.isSome_iff_exists.1 hi
 refine D.run _ hk hd hg (fun _ a hs w=>?_) hp hwf h
 rw [bY hop (hs _ _ hx) (hs _ _ hy) (fun _ _=>.inl (by simp)) (.inl (by simp)) w]
 simp only [Lib.run_neq_ptr_same w a0 hu hj,Result.andThen_ok]
theorem D.toUnsafe {src dst t e b:Nat}{x:Operand}{cs:List Value}{fz:Nat × Nat}(hk:k=2)(hd:o.dst=some d)(hop:o.op=.convert src dst x)(hg:gOn ds fr o.guard=true)(hx:ev fr [] x=some (.pointer (some ⟨b,0,none⟩)))
  (hm:Ent.obj b (.cells ⟨cs⟩ e fz)∈L) (hs:cx.P.underlying src=some (.pointer t)) (hdd:cx.P.underlying dst=some .unsafePointer) (ht:((cx.P.info? t).map fun i=>Nat.beq i.size 0)=some false) (hcs:0<cs.length)
  (hp:∀ v,aG n ds ((d,[],v)::fr) d=true)
  (h:D cx R its ((d,[],.pointer (some ⟨b,0,none⟩))::fr) C L):D cx R ((i,k,o)::its) fr C L:=by
 obtain ⟨j,hj,hjs⟩:=Option.map_eq_some_iff.1 ht
 refine D.eg (S:=fun v C' L'=>v=.pointer (some ⟨b,0,none⟩)/\C'=C/\L'=L) (by subst hk;rfl) hd hg hp (fun a hss w _ hw=>?_) (fun v' C' L' _ ⟨e0,e1,e2⟩=>by subst e0;subst e1;subst e2;exact h)
 have hb:w.heap[b]?=some (.cells ⟨cs⟩ e fz):=hw.sep.e _ hm
 have hr:=Lib.run_to_unsafe (P:=cx.P) w (src:=src) (dst:=dst) (e:=e) (cells:=cs.length) ⟨b,0,none⟩ hs hdd hj (fun e=>by rw [e] at hjs;cases hjs) (by simp [World.shape?,hb]) hcs
 have e1:execOp a.eval o=(do Pure.pure (.value (<- convert src dst (a.eval x))):Sem Next):=by unfold execOp;rw [hop]
 unfold Oper.wp
 rw [e1,hss _ _ hx]
 simp only [Sem.run_bind,hr,Result.andThen_ok,Sem.run_pure]
 exact ⟨_,C,L,rfl,Mem.le.refl _,fun _ _ h=>h,hw,rfl,rfl,rfl⟩
theorem D.fromUnsafe {src dst t e b:Nat}{x:Operand}{cs:List Value}{fz:Nat × Nat}(hk:k=2)(hd:o.dst=some d)(hop:o.op=.convert src dst x)(hg:gOn ds fr o.guard=true)(hx:ev fr [] x=some (.pointer (some ⟨b,0,none⟩)))
  (hm:Ent.obj b (.cells ⟨cs⟩ e fz)∈L) (hs:cx.P.underlying src=some .unsafePointer) (hdd:cx.P.underlying dst=some (.pointer t)) (ht:(cx.P.info? t).isSome=true) (hlies:liesAt cx.P cx.P.depth e (cs.length / cx.P.cellsOf e) 0 t 1=true)
  (hp:∀ v,aG n ds ((d,[],v)::fr) d=true)
  (h:D cx R its ((d,[],.pointer (some ⟨b,0,none⟩))::fr) C L):D cx R ((i,k,o)::its) fr C L:=by
 obtain ⟨j,hj⟩:=Option.isSome_iff_exists.1 ht
 refine D.eg (S:=fun v C' L'=>v=.pointer (some ⟨b,0,none⟩)/\C'=C/\L'=L) (by subst hk;rfl) hd hg hp (fun a hss w _ hw=>?_) (fun v' C' L' _ ⟨e0,e1,e2⟩=>by subst e0;subst e1;subst e2;exact h)
 have hb:w.heap[b]?=some (.cells ⟨cs⟩ e fz):=hw.sep.e _ hm
 have hr:=Lib.run_from_unsafe (P:=cx.P) w (src:=src) (dst:=dst) (e:=e) (cells:=cs.length) ⟨b,0,none⟩ hs hdd hj (by simp [World.shape?,hb]) hlies
 have e1:execOp a.eval o=(do Pure.pure (.value (<- convert src dst (a.eval x))):Sem Next):=by unfold execOp;rw [hop]
 unfold Oper.wp
 rw [e1,hss _ _ hx]
 simp only [Sem.run_bind,hr,Result.andThen_ok,Sem.run_pure]
 exact ⟨_,C,L,rfl,Mem.le.refl _,fun _ _ h=>h,hw,rfl,rfl,rfl⟩
theorem D.noEscape {f:FuncId}{fn:Func}{x:Operand}{ts:Array TypeId}{u:Value}(hk:Nat.ble k 1=false)(hd:o.dst=some d)(hop:o.op=.call ⟨.value (.func f),#[x],ts⟩)(hg:gOn ds fr o.guard=true)
  (hx : ev fr [] x = some u) (hf : cx.P.funcs[f]? = some fn) (hname : (fn.name == "runtime.NumGoroutine") = false) (hb : fn.body.isNone = true) (hn : Extern.findNext fn = none) (he : Extern.find fn = some Extern.AbiNoEscape.same)
  (hp:∀ v,aG n ds ((d,[],v)::fr) d=true)
  (h:D cx R its ((d,[],u)::fr) C L):D cx R ((i,k,o)::its) fr C L:=by
 refine D.eg (S:=fun v C' L'=>v=u/\C'=C/\L'=L) hk hd hg hp (fun a hs w _ hw=>?_) (fun v' C' L' _ ⟨e0,e1,e2⟩=>by subst e0;subst e1;subst e2;exact h)
 have e1:execOp a.eval o=(do let dd <- resolve a.eval ⟨.value (.func f),#[x],ts⟩ o.type;invoke dd.target dd.args:Sem Next):=by unfold execOp;rw [hop]
 have e2:a.eval (.func f)=.func (.func f) #[] #[]:=rfl
 unfold Oper.wp
 rw [e1]
 simp only [resolve,e2,Deferred.ofValue,Sem.run_bind,Sem.run_pure,Result.andThen_ok,invoke,List.map_toArray,List.map_cons,List.map_nil,hs _ _ hx]
 rw [run_callFunc_extern hf hname hb hn he]
 simp only [Array.empty_append,Array.append_empty,Lib.run_noEscape,Result.andThen_ok]
 exact ⟨_,C,L,rfl,Mem.le.refl _,fun _ _ h=>h,hw,rfl,rfl,rfl⟩
theorem run_eqGuard_nil {P:Program}{op:BinOp}{t:Nat}{x:Operand}(u:Value)(w:World)(hu:∀ a,u≠.agg a):(eqGuard op t x (.const .nilIface) u .nilIface).run P w=.ok () w:=by
 by_cases h:u=.nilIface
 ·subst h
  cases op <;> first | rfl | (unfold eqGuard;simp)
 ·exact cK w (fun a _=>.inl (hu a)) (.inl h)
theorem D.ifaceNil (b:Bool){op:BinOp}{t ty:Nat}{x:Operand}(hk:Nat.ble k 1=true)(hd:o.dst=some d)(hop:o.op=.binOp op t x (.const .nilIface) ty)(hg:gOf ds fr o.guard=some g)
  (hx:ev fr g x=some .nilIface) (hb:(op=.eql/\b=true)∨(op=.neq/\b=false)) (hu:cx.P.underlying t=some (.interface (cx.P.methodsAt t)))
  (hp:aG n ds ((d,g,.bool b)::fr) d=true) (hwf:wfG ds fr g=true)
  (h:D cx R its ((d,g,.bool b)::fr) C L):D cx R ((i,k,o)::its) fr C L:=by
 refine D.run _ hk hd hg (fun _ a hs w=>?_) hp hwf h
 rw [exec_binOp' hop,hs _ _ hx]
 have e:a.eval (.const .nilIface)=.nilIface:=rfl
 rcases hb with ⟨rfl,rfl⟩ | ⟨rfl,rfl⟩
 ·simp only [e,Sem.run_bind,run_eqGuard_nil .nilIface w (by intro a;simp),Result.andThen_ok,run_eql_nil_nil w t hu,Sem.run_pure]
 ·simp only [e,Sem.run_bind,run_eqGuard_nil .nilIface w (by intro a;simp),Result.andThen_ok,run_neq_nil_nil w t hu,Sem.run_pure]
theorem res_ct {cx:Cx}{fn:Func}{n s t u b:Nat}{fr:Fr}{C:Mem}{L:List Ent}{dd:List Deferred}{w0:World}{C0:Mem}{L0:List Ent}{tb:TypeId}{fz:Nat × Nat}{cs:List Value}{ti:TI}{y z:Value}(hm:Ent.obj b (.cells ⟨cs⟩ tb fz)∈L)(hres:fn.results=#[.cell s t,.tmp u])
  (hs:ev fr [] (.tmp s)=some (.pointer (some ⟨b,0,none⟩))) (hu:ev fr [] (.tmp u)=some z) (ht:cx.T.get t=some ti) (hv:bS ti (cs.take ti.size)=some y) :
  ∀ a w,FrOk n [] dd fr a->St w0 C0 L0 C L w->(results fn a.tmps).run cx.P w=.ok (.tuple #[y,z]) w:=fun a w ha hw=>by
 have hs':=bl ha (fun p hp=>by cases hp) hs
 have hu':=bl ha (fun p hp=>by cases hp) hu
 simp only [Act.eval] at hs' hu'
 have hl:=run_cell (F:=⟨cx,fn,n,⟨w0,C0,L0⟩,fun _ _ _=>True,Cw.plain cx.P,dd,fun _ _ _=>True⟩) ht (hw.sep.e _ hm) hv
 simp only [Array.getD_eq_getD_getElem?] at hs' hu'
 simp [results,hres,hs',hu',asAddr,hl]
theorem D.eQ {t ty:Nat}{x y:Operand}{ki:IntKind}{p q:Int}(c:Int)(hk:Nat.ble k 1=true)(hd:o.dst=some d)(hop:o.op=.binOp .rem t x y ty)(hg:gOf ds fr o.guard=some g)(hx:ev fr g x=some (.int ki p))(hy:ev fr g y=some (.int ki q))
  (hq:q≠0) (hc:p.tmod q=c) (hp:aG n ds ((d,g,.int ki c)::fr) d=true) (hwf:wfG ds fr g=true)
  (h:D cx R its ((d,g,.int ki c)::fr) C L):D cx R ((i,k,o)::its) fr C L :=
 D.run _ hk hd hg (fun _ a hs w=>by
  rw [bY hop (hs _ _ hx) (hs _ _ hy) (fun _ _=>.inl (by simp)) (.inl (by simp)) w]
  simp [binOp,Op.intDiv,hq,hc]) hp hwf h
theorem D.df (p q:Nat){t ty:Nat}{x y:Operand}{ki:IntKind}(hk:Nat.ble k 1=true)(hd:o.dst=some d)(hop:o.op=.binOp .rem t x y ty)(hg:gOf ds fr o.guard=some g)(hx:ev fr g x=some (.int ki (p:Nat)))(hy:ev fr g y=some (.int ki (q:Nat)))
  (hq:0<q) (hp:aG n ds ((d,g,.int ki ((p % q:Nat):Int))::fr) d=true) (hwf:wfG ds fr g=true)
  (h:D cx R its ((d,g,.int ki ((p % q:Nat):Int))::fr) C L):D cx R ((i,k,o)::its) fr C L:=by
 rw [Int.natCast_emod] at hp h
 exact D.rem hk hd hop hg hx hy om_ om_ hp hwf h
theorem D.quoN (p q:Nat){t ty:Nat}{x y:Operand}{ki:IntKind}(hk:Nat.ble k 1=true)(hd:o.dst=some d)(hop:o.op=.binOp .quo t x y ty)(hg:gOf ds fr o.guard=some g)(hx:ev fr g x=some (.int ki (p:Nat)))(hy:ev fr g y=some (.int ki (q:Nat)))
  (hq:0<q) (hm:(ki=.i64/\p<9223372036854775808)∨(ki=.u64/\p<18446744073709551616)) (hp:aG n ds ((d,g,.int ki ((p / q:Nat):Int))::fr) d=true) (hwf:wfG ds fr g=true)
  (h:D cx R its ((d,g,.int ki ((p / q:Nat):Int))::fr) C L):D cx R ((i,k,o)::its) fr C L:=by
 have hr:ki.wrap ((p / q:Nat):Int)=((p / q:Nat):Int):=by
  have hle:=Nat.div_le_self p q
  generalize p / q=z at hle ⊢
  rcases hm with ⟨rfl,hm⟩ | ⟨rfl,hm⟩
  ·rw [IntKind.wrap_i64];omega
  ·rw [IntKind.wrap_u64];omega
 rw [Int.natCast_ediv] at hp h hr
 exact D.quo hk hd hop hg hx hy om_ om_ hr hp hwf h
end
end Go.Jog
namespace Go.Proofs.YtllimhhofkcgpaaGreatDoor
open Go Go.Jog
set_option maxRecDepth 100000

abbrev bPtr (b:Nat):Value:=.pointer (some ⟨b,0,none⟩)
abbrev bObj (b:Nat)(q:Option Addr)(v:Value):Ent:=.obj b (.cells ⟨[.pointer q,v]⟩ 249 (0,0))
abbrev u8s (s:Str):List Value:=s.map fun c=>Value.int .u8 c.toNat
abbrev bArr (v:Value)(s:Str):Ent:=.arr v 5 1 s.length (u8s s)
theorem copyChk_fn (C:Mem)(b:Nat)(q:Option Addr)(v:Value)(hq:q=none∨q=some ⟨b,0,none⟩):Jog.Fn cx.P 184 [bPtr b] C [bObj b q v] fun _ _ L'=>L'=[bObj b (some ⟨b,0,none⟩) v]:=by
 refine Fn.it kr_ Tryz.func184 20 fun w0=>?_
 refine G.aY (L':=[.obj b (.cells ⟨[.pointer q,v]⟩ 249 (0,0))]) rfl ?_
 refine G.rp 3 fun R hR=>?_
 refine D.ae (.head _) ?_
 refine D.ptrNil (e:=249) rfl rfl rfl rfl rfl kr_ kr_ rfl rfl ?_
 refine D.e2 0 6 hR ?_
 refine G.cd (fun h6=>?_) fun h6=>?_
 ·have hq0:q=none:=by simpa using h6
  subst hq0
  refine G.rp 2 fun R hR=>?_
  refine D.toUnsafe (t:=249) rfl rfl rfl rfl rfl (.head _) kr_ kr_ kr_ (by simp) fl_ ?_
  refine D.noEscape (fn:=Tryz.f202) rfl rfl rfl rfl rfl Tryz.func202 kr_ kr_ kr_ kr_ fl_ ?_
  refine D.fromUnsafe (t:=249) rfl rfl rfl rfl rfl (.head _) kr_ kr_ kr_ kr_ fl_ ?_
  refine D.ps 2 ?_
  refine D.ag (j:=0) ?_
  refine D.done [] trivial (hR _ _ _ rfl ?_)
  refine G.end0 rfl ?_
  rfl
 ·have hq1:q=some ⟨b,0,none⟩:=by
   rcases hq with rfl | rfl
   ·simp at h6
   ·rfl
  subst hq1
  refine G.rp 3 fun R hR=>?_
  refine D.ae (.head _) ?_
  refine D.ac ?_
  refine D.ptrNeSelf (e:=249) rfl rfl rfl rfl rfl rfl kr_ kr_ rfl rfl ?_
  refine D.e1 19 hR ?_
  refine G.cd (fun h19=>?_) fun h19=>?_
  ·cases h19
  ·refine G.end0 rfl ?_
   rfl
theorem writeByte_fn (C:Mem)(b:Nat)(q:Option Addr)(v:Value)(s:Str)(c:UInt8)(hq:q=none∨q=some ⟨b,0,none⟩)(hl:s.length<=1000000000):Jog.Fn cx.P 153 [bPtr b,.int .u8 c.toNat] C [bObj b q v,bArr v s] fun _ _ L'=>∃ v',L'=[bObj b (some ⟨b,0,none⟩) v',bArr v' (s++[c])]:=by
 refine Fn.it kr_ Tryz.func153 17 fun w0=>?_
 refine G.aY (L':=[.obj b (.cells ⟨[.pointer q,v]⟩ 249 (0,0)),.arr v 5 1 s.length (u8s s)]) rfl ?_
 refine G.z2 1 0 1 ?_
 refine G.aI [(1,3)] rfl (fun R hR=>?_)
 refine D.ac ?_
 refine D.call (copyChk_fn _ b q v hq) rfl (.inr (by decide)) rfl rfl rfl rfl rfl rfl (List.Perm.refl _) fl_ (fun v6 C6 L6 hle6 hq6=>?_)
 refine D.e2 0 1 hR ?_
 subst hq6
 refine G.aY (L':=[.obj b (.cells ⟨[.pointer (some ⟨b,0,none⟩),v]⟩ 249 (0,0)),.arr v 5 1 s.length (u8s s)]) rfl ?_
 refine G.rp 4 fun R hR=>?_
 refine D.ae (.head _) ?_
 refine D.ac ?_
 refine D.ah [[.int .u8 c.toNat]] (fun p13 C13 hle13 hs13=>?_)
 refine D.aS (j:=1) rfl rfl rfl rfl rfl rfl rfl rfl rfl rfl rfl hs13 rfl (by simp only [List.length_singleton,maxLen];omega) (by simp only [List.length_singleton];omega) fl_ (fun A14 n14 c14=>?_)
 refine D.ps 2 ?_
 refine D.ag (j:=1) ?_
 refine D.done [] trivial (hR _ _ _ rfl ?_)
 refine G.z1 1 4 ?_
 refine G.perm (L':=[.obj b (.cells ⟨[.pointer (some ⟨b,0,none⟩),.slice A14 n14 c14]⟩ 249 (0,0)),.arr (.slice A14 n14 c14) 5 1 (s.length+1) (u8s s++[Value.int .u8 c.toNat])]) (List.Perm.refl _) ?_
 refine G.az (G.fin1 rfl rfl ?_)
 exact ⟨.slice A14 n14 c14,by simp [bArr,u8s]⟩
theorem writeString_fn (C:Mem)(b:Nat)(q:Option Addr)(v:Value)(s t:Str)(hq:q=none∨q=some ⟨b,0,none⟩)(hl:s.length+t.length<=1000000000):Jog.Fn cx.P 155 [bPtr b,strV t] C [bObj b q v,bArr v s] fun _ _ L'=>∃ v',L'=[bObj b (some ⟨b,0,none⟩) v',bArr v' (s++t)]:=by
 refine Fn.it kr_ Tryz.func155 19 fun w0=>?_
 refine G.aY (L':=[.obj b (.cells ⟨[.pointer q,v]⟩ 249 (0,0)),.arr v 5 1 s.length (u8s s)]) rfl ?_
 refine G.z2 2 0 1 ?_
 refine G.aI [(1,3)] rfl (fun R hR=>?_)
 refine D.ac ?_
 refine D.call (copyChk_fn _ b q v hq) rfl (.inr (by decide)) rfl rfl rfl rfl rfl rfl (List.Perm.refl _) fl_ (fun v7 C7 L7 hle7 hq7=>?_)
 refine D.e2 0 1 hR ?_
 subst hq7
 refine G.aY (L':=[.obj b (.cells ⟨[.pointer (some ⟨b,0,none⟩),v]⟩ 249 (0,0)),.arr v 5 1 s.length (u8s s)]) rfl ?_
 refine G.rp 4 fun R hR=>?_
 refine D.ae (.head _) ?_
 refine D.ac ?_
 refine D.appendStr (j:=1) rfl rfl rfl rfl rfl rfl rfl rfl rfl rfl rfl rfl rfl rfl rfl om_ fl_ (fun A2 n2 c2=>?_)
 refine D.ps 2 ?_
 refine D.ag (j:=1) ?_
 refine D.e1 1 hR ?_
 refine G.z2 4 4 5 ?_
 refine G.perm (L':=[.obj b (.cells ⟨[.pointer (some ⟨b,0,none⟩),.slice A2 n2 c2]⟩ 249 (0,0)),.arr (.slice A2 n2 c2) 5 1 (s.length+t.length) (u8s s++t.map fun b=>Value.int .u8 b.toNat)]) (List.Perm.refl _) ?_
 refine G.az (G.aK rfl rfl rfl ?_)
 exact ⟨.slice A2 n2 c2,by simp [bArr,u8s]⟩
theorem bstring_fn (C:Mem)(b:Nat)(q:Option Addr)(v:Value)(s:Str)(h0:s≠[])(hl:s.length<=1000000000):Jog.Fn cx.P 156 [bPtr b] C [bObj b q v,bArr v s] fun u _ L'=>u=strV s/\L'=[]:=by
 refine Fn.it kr_ Tryz.func156 14 fun w0=>?_
 refine G.aY (L':=[.obj b (.cells ⟨[.pointer q,v]⟩ 249 (0,0)),.arr v 5 1 s.length (u8s s)]) rfl ?_
 refine G.form (.tail _ (.head _)) (fun hf hfl=>?_)
 have hp0:=List.length_pos_iff.2 h0
 rcases hf with ⟨h1,h2⟩ | ⟨g0,c0,rfl,hc1,hc2⟩
 ·omega
 refine G.z1 1 0 ?_
 refine G.aH [0,1,2,3,4,5,6,7,8,9,10,11] [(4,0)] rfl kr_ (fun R hB hR=>?_)
 refine D.ps 3 ?_
 refine D.ae (.head _) ?_
 refine D.sliceData rfl rfl rfl rfl rfl om_ rfl rfl ?_
 refine D.ps 3 ?_
 refine D.ae (.head _) ?_
 refine D.ac ?_
 refine D.unsafeStr (j:=1) (e:=5) rfl rfl rfl rfl kr_ kr_ rfl rfl rfl h0 om_ fl_ ?_
 refine D.q1 1 2 hR ?_
 refine G.rf ?_
 exact ⟨rfl,rfl⟩

def encU (x:Nat):List Value:=[.int .u64 x]
theorem cN (x:Nat):(encU x).length=1:=rfl
def NineC (C:Mem)(v:Value)(n:Nat):Prop:=∃ l,Can9 l/\val9 l=n/\Sl C 1 v (l.map encU)
theorem NineC.mono {C D:Mem}{v:Value}{n:Nat}(h:NineC C v n)(hl:C.le D):NineC D v n:=by
 obtain ⟨l,h1,h2,h3⟩:=h
 exact ⟨l,h1,h2,h3.mono hl⟩
theorem trim9_fn (C:Mem)(v:Value)(l:List Nat)(hv:Sl C 1 v (l.map encU)):Pur cx.P 148 [v] C fun u C'=>Sl C' 1 u ((cut9 l).map encU):=by
 obtain ⟨A0,c0,rfl,hlc,_⟩:=id hv
 simp only [List.length_map] at hv hlc ⊢
 refine Fn.it kr_ Tryz.func148 21 fun w0=>?_
 refine G.z1 1 0 ?_
 refine G.loop (fun fr C' L' μ=>∃ (k:Nat)(A:Option Addr)(c:Nat),(k<=l.length/\Sl C' 1 (.slice A k c) ((l.take k).map encU)/\cutN9 l l.length=cutN9 l k)/\fr=[(0,[],.slice A k c)]/\L'=[]/\μ=k+1) (h_1 0) ⟨l.length,A0,c0,⟨Nat.le_refl _,by rw [List.take_length];exact hv,rfl⟩,rfl,rfl,rfl⟩ (fun fr C0' L0' m hle0 hI=>?_)
 obtain ⟨k,A,c,⟨hk,hs,ht⟩,rfl,rfl,rfl⟩:=hI
 obtain ⟨_,c9,hqe,hkc,_⟩:=id hs
 have hmx:maxLen<=9223372036854775807:=by simp [maxLen]
 have hkc2:k<=c:=by
  rw [List.length_map,List.length_take] at hkc
  injection hqe with h1 h2 h3
  omega
 have hrow:0<k->((l.take k).map encU)[((k:Int)-1).toNat]?=some (encU (g9 l (k-1))):=fun h=>by
  rw [show ((k:Int)-1).toNat=k-1 by omega,List.getElem?_map,List.getElem?_take,if_pos om_,List.getElem?_eq_getElem (by omega:k-1<l.length)]
  unfold g9
  rw [List.getD_eq_getElem?_getD,List.getElem?_eq_getElem (by omega:k-1<l.length)];rfl
 refine G.rp 7 fun R hR=>?_
 refine D.am _ ?_
 refine D.index rfl rfl rfl rfl rfl rfl rfl rfl rfl rfl (fun hg=>⟨hs,(by have h:decide ((0:Int)<(k:Int))=true:=hg.1;simp at h;omega),hrow (by have h:decide ((0:Int)<(k:Int))=true:=hg.1;simp at h;omega)⟩) fl_ rfl (fun p11 hp11=>?_)
 refine D.aU rfl rfl rfl rfl rfl rfl hp11 rfl rfl rfl ?_
 refine D.ac ?_
 refine D.aq ?_
 refine D.e2 0 14 hR ?_
 refine G.cd (fun h14=>?_) fun h14=>?_
 ·have hk0:0<k/\g9 l (k-1)=0:=by
   have:(0:Int)<(k:Int)/\((g9 l (k-1):Nat):Int)=0:=by simpa using h14
   omega
  refine G.rp 3 fun R hR=>?_
  refine D.cG (((k-1:Nat):Int)) rfl rfl rfl rfl om_ om_ om_ rfl rfl ?_
  refine D.dr 0 (k-1) c rfl rfl rfl rfl rfl rfl rfl rfl rfl rfl rfl rfl (fun _=>⟨.inl ⟨rfl,rfl⟩,.inr ⟨_,rfl⟩,.inl ⟨rfl,rfl⟩,by omega,by omega,Nat.le_refl _⟩) rfl rfl ?_
  refine D.q1 1 0 hR ?_
  have hsub:=Sl.sub hs (l:=0) (h:=k-1) (m:=c) (Nat.zero_le _) (by simp;omega) om_ (Nat.le_refl _)
  have esub:(((l.take k).map encU).take (k-1)).drop 0=(l.take (k-1)).map encU:=by
   rw [List.drop_zero,<- List.map_take,List.take_take,Nat.min_eq_left om_]
  rw [esub] at hsub
  have etr:cutN9 l l.length=cutN9 l (k-1):=by
   rw [ht]
   obtain ⟨j,rfl⟩:∃ j,k=j+1:=⟨k-1,by omega⟩
   simp only [Nat.add_sub_cancel] at hk0 ⊢
   rw [cutN9,if_pos]
   unfold g9 at hk0
   rw [List.getD_eq_getElem?_getD,List.getElem?_eq_getElem om_] at hk0
   rw [List.getElem?_eq_getElem om_]
   exact congrArg some hk0.2
  refine G.ax (m':=k-1+1) om_ mup (h_1 0) ⟨k-1,_,c,⟨by omega,hsub.mono mup,etr⟩,rfl,rfl,rfl⟩
 ·have hk0:¬ (0<k/\g9 l (k-1)=0):=fun hh=>by
   have h1:(decide ((0:Int)<(k:Int)) && (((g9 l (k-1):Nat):Int) == 0))=true:=by
    rw [hh.2];simp;omega
   rw [h1] at h14
   cases h14
  refine G.z1 2 2 ?_
  refine G.rf ?_
  refine ⟨rfl, ?_⟩
  have e:cutN9 l k=k:=by
   cases k with
   | zero=>rfl
   | succ j =>
    simp only [Nat.add_sub_cancel] at hk0
    rw [cutN9,if_neg]
    intro h
    refine hk0 ⟨by omega, ?_⟩
    unfold g9
    rw [List.getD_eq_getElem?_getD,h];rfl
  unfold cut9
  rw [ht,e]
  exact hs
theorem d7 (C:Mem)(v:Value)(l:List Nat){n:Nat}(hn:l.length=n):Jog.Fn cx.P 148 [v] C [.arr v 238 1 n (l.map encU).flatten] fun u C' L'=>L'=[]/\Sl C' 1 u ((cut9 l).map encU) :=
 Jog.Fn.give (l.map encU) kr_ (by intro r hr;obtain ⟨y,_,rfl⟩:=List.mem_map.1 hr;rfl) (by rw [List.length_map,hn]) (fun C' _ hs=>trim9_fn C' v l hs)
def ordZ (m n:Nat):Int:=if m<n then -1 else if n<m then 1 else 0
theorem ordZ_lt {m n:Nat}:ordZ m n<0 ↔ m<n:=by unfold ordZ;split <;> (try split) <;> omega
theorem ordZ_gt {m n:Nat}:0<ordZ m n ↔ n<m:=by unfold ordZ;split <;> (try split) <;> omega
theorem order9_fn (C:Mem)(va vb:Value)(a b:List Nat)(ha:Sl C 1 va (a.map encU))(hb:Sl C 1 vb (b.map encU))(hca:Can9 a)(hcb:Can9 b):Gives cx.P 149 [va,vb] C (.int .i64 (ordZ (val9 a) (val9 b))):=by
 have hmx:maxLen<=9223372036854775807:=by simp [maxLen]
 obtain ⟨A0,c0,rfl,hla,hla2,_⟩:=id ha
 obtain ⟨B0,d0,rfl,hlb,hlb2,_⟩:=id hb
 simp only [List.length_map] at ha hb hla hlb ⊢
 refine Fn.it kr_ Tryz.func149 41 fun w0=>?_
 refine G.z2 1 0 1 ?_
 refine G.z3 5 0 1 10 ?_
 refine G.cd (fun h10=>?_) fun h10=>?_
 ·have hne:a.length≠b.length:=fun e=>by
   rw [e] at h10;simp at h10
  refine G.z1 5 15 ?_
  refine G.cd (fun h15=>?_) fun h15=>?_
  ·have hlt:a.length<b.length:=by
    have:(a.length:Int)<b.length:=by simpa using h15
    omega
   refine G.z1 1 4 ?_
   refine G.rf ?_
   exact ⟨by rw [show ordZ (val9 a) (val9 b)=-1 from if_pos (len9_lt hca.1 hcb hlt)],rfl⟩
  ·have hlt:b.length<a.length:=by
    have:¬ (a.length:Int)<b.length:=by simpa using h15
    omega
   have hvv:=len9_lt hcb.1 hca hlt
   refine G.z1 1 4 ?_
   refine G.rf ?_
   exact ⟨by rw [show ordZ (val9 a) (val9 b)=1 from by unfold ordZ;rw [if_neg om_,if_pos hvv]],rfl⟩
 ·have hlen:a.length=b.length:=by
   have:(a.length:Int)=b.length:=by simpa using h10
   omega
  refine G.rp 2 fun R hR=>?_
  refine D.am _ ?_
  refine D.q3 1 0 1 5 hR ?_
  refine G.loop (fun fr C' L' μ=>∃ (k:Nat),(k<=a.length/\a.drop k=b.drop k)/\fr=[(0,[],.slice A0 a.length c0),(1,[],.slice B0 b.length d0),(5,[],.int .i64 ((k:Int)-1))]/\L'=[]/\μ=k+1) (h_3 0 1 5) ⟨a.length,⟨Nat.le_refl _,by rw [List.drop_length,hlen,List.drop_length]⟩,rfl,rfl,rfl⟩ (fun fr C0' L0' m hle0 hI=>?_)
  obtain ⟨k,⟨hk,he⟩,rfl,rfl,rfl⟩:=hI
  refine G.z4 2 0 1 5 20 ?_
  refine G.cd (fun h20=>?_) fun h20=>?_
  ·have hk0:0<k:=by
    have:(0:Int)<=(k:Int)-1:=by simpa using h20
    omega
   obtain ⟨j,rfl⟩:∃ j,k=j+1:=⟨k-1,by omega⟩
   obtain ⟨x,hx⟩:∃ x,a[j]?=some x:=⟨a[j],List.getElem?_eq_getElem om_⟩
   obtain ⟨y,hy⟩:∃ y,b[j]?=some y:=⟨b[j],List.getElem?_eq_getElem om_⟩
   have hrx:(a.map encU)[(((j+1:Nat):Int)-1).toNat]?=some (encU x):=by
    rw [show (((j+1:Nat):Int)-1).toNat=j by omega,List.getElem?_map,hx];rfl
   have hry:(b.map encU)[(((j+1:Nat):Int)-1).toNat]?=some (encU y):=by
    rw [show (((j+1:Nat):Int)-1).toNat=j by omega,List.getElem?_map,hy];rfl
   refine G.aH [0,1,2,3,4,5,6,7,8] [] rfl kr_ (fun R hB hR=>?_)
   refine D.ps 2 ?_
   refine D.al (ha.mono mup) rfl rfl rfl rfl rfl rfl rfl rfl rfl rfl om_ hrx fl_ (fun p25 hp25=>?_)
   refine D.aa hp25 ?_
   refine D.ps 2 ?_
   refine D.al (hb.mono mup) rfl rfl rfl rfl rfl rfl rfl rfl rfl rfl om_ hry fl_ (fun p29 hp29=>?_)
   refine D.aa hp29 ?_
   refine D.q4 1 0 1 5 31 hR ?_
   refine G.cd (fun h31=>?_) fun h31=>?_
   ·have hxy:x≠y:=fun h=>by
     subst h;simp at h31
    refine G.aH [0,1,2,3,4,5,6,7,8] [] rfl kr_ (fun R hB hR=>?_)
    refine D.ps 2 ?_
    refine D.al (ha.mono mup) rfl rfl rfl rfl rfl rfl rfl rfl rfl rfl om_ hrx fl_ (fun p34 hp34=>?_)
    refine D.aa hp34 ?_
    refine D.ps 2 ?_
    refine D.al (hb.mono mup) rfl rfl rfl rfl rfl rfl rfl rfl rfl rfl om_ hry fl_ (fun p38 hp38=>?_)
    refine D.aa hp38 ?_
    refine D.q1 1 40 hR ?_
    refine G.cd (fun h40=>?_) fun h40=>?_
    ·have hxy:x<y:=by
      have:(x:Int)<y:=by simpa using h40
      omega
     refine G.z1 1 4 ?_
     refine G.rf ?_
     exact ⟨by rw [show ordZ (val9 a) (val9 b)=-1 from if_pos (at9_lt hca.1 hlen hx hy hxy he)],rfl⟩
    ·have hyx:y<x:=by
      have:¬ (x:Int)<y:=by simpa using h40
      omega
     have hvv:=at9_lt hcb.1 hlen.symm hy hx hyx he.symm
     refine G.z1 1 4 ?_
     refine G.rf ?_
     exact ⟨by rw [show ordZ (val9 a) (val9 b)=1 from by unfold ordZ;rw [if_neg om_,if_pos hvv]],rfl⟩
   ·have hxy2:x=y:=by
     have:(x:Int)=y:=by simpa using h31
     omega
    refine G.rp 1 fun R hR=>?_
    refine D.am _ ?_
    refine D.q3 1 0 1 5 hR ?_
    rw [show ((j+1:Nat):Int)-1-1=(j:Int)-1 by omega]
    refine G.ax (m':=j+1) om_ mup (h_3 0 1 5) ⟨j,⟨by omega,by
     rw [List.drop_eq_getElem_cons (by omega:j<a.length),List.drop_eq_getElem_cons (by omega:j<b.length),he,(List.getElem?_eq_some_iff.1 hx).2,(List.getElem?_eq_some_iff.1 hy).2,hxy2]⟩,rfl,rfl,rfl⟩
  ·have hk0:k=0:=by
    have:¬ (0:Int)<=(k:Int)-1:=by simpa using h20
    omega
   subst hk0
   refine G.z1 1 4 ?_
   refine G.rf ?_
   have hab:a=b:=by simpa using he
   subst hab
   exact ⟨by rw [show ordZ (val9 a) (val9 a)=0 from by unfold ordZ;rw [if_neg om_,if_neg om_]],rfl⟩
end Go.Proofs.YtllimhhofkcgpaaGreatDoor
