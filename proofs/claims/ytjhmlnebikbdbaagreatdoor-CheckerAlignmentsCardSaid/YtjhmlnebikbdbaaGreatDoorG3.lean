/- Laws that the proofs of this seat share, part 3. -/
import Derived.Test.YtjhmlnebikbdbaaGreatDoorG2
import Derived.Test.YtjhmlnebikbdbaaGreatDoorShelf
import Derived.TacticsIn
import Derived.OrdersIn
import Derived.RangeFuncCalls
import Derived.RangeFuncSeq
set_option maxHeartbeats 4000000
namespace Go.Jog

theorem gcd_half {a b g:Nat}(h:Nat.gcd a b=g)(hg:g % 2=1)(ha:a % 2=0):Nat.gcd (a / 2) b=g:=by
 have ha2:a=2*(a / 2):=by omega
 refine Nat.dvd_antisymm ?_ ?_
 ·rw [<- h]
  refine Nat.dvd_gcd ?_ (Nat.gcd_dvd_right _ _)
  have h1:Nat.gcd (a / 2) b ∣ 2*(a / 2):=Nat.dvd_trans (Nat.gcd_dvd_left (a / 2) b) (Nat.dvd_mul_left _ _)
  rw [<- ha2] at h1;exact h1
 ·have h1:g ∣ 2*(a / 2):=by rw [<- ha2,<- h];exact Nat.gcd_dvd_left a b
  have hc:Nat.Coprime g 2:=by
   have h2:=Nat.gcd_dvd_right g 2
   have h3:=Nat.le_of_dvd (by decide) h2
   have h4:Nat.gcd g 2≠2:=fun e=>by
    have:=Nat.gcd_dvd_left g 2
    rw [e] at this
    omega
   have h5:0<Nat.gcd g 2:=Nat.gcd_pos_of_pos_right _ (by decide)
   show Nat.gcd g 2=1
   omega
  exact Nat.dvd_gcd (hc.dvd_of_dvd_mul_left h1) (by rw [<- h];exact Nat.gcd_dvd_right a b)
theorem gcd_sub {a b g:Nat}(h:Nat.gcd a b=g)(hl:b<=a):Nat.gcd (a-b) b=g:=by
 rw [<- h]
 conv=>rhs;rw [show a=(a-b)+b by omega]
 rw [Nat.gcd_add_self_left]
theorem gcd_even {a b:Nat}(ha:a % 2=0)(hb:b % 2=0):Nat.gcd a b=2*Nat.gcd (a / 2) (b / 2):=by
 rw [<- Nat.gcd_mul_left]
 congr 1 <;> omega
theorem gcd_odd {a b:Nat}(h:a % 2=1∨b % 2=1):Nat.gcd a b % 2=1:=by
 apply Classical.byContradiction
 intro hn
 have h2:2 ∣ Nat.gcd a b:=Nat.dvd_of_mod_eq_zero om_
 have ha:=Nat.dvd_trans h2 (Nat.gcd_dvd_left a b)
 have hb:=Nat.dvd_trans h2 (Nat.gcd_dvd_right a b)
 omega
theorem div_bit {t b β:Nat}(hb:0<b)(hβ:β<=1):(2*t+β) / b=2*(t / b)+(if b<=2*(t % b)+β then 1 else 0)/\(2*t+β) % b=(if b<=2*(t % b)+β then 2*(t % b)+β-b else 2*(t % b)+β):=by
 have h1:=Nat.div_add_mod t b
 have h2:=Nat.mod_lt t hb
 obtain ⟨q,hq⟩:∃ q,t / b=q:=⟨_,rfl⟩
 obtain ⟨r,hr⟩:∃ r,t % b=r:=⟨_,rfl⟩
 rw [hq,hr] at h1 ⊢
 rw [hr] at h2
 have e:2*t+β=b*(2*q)+(2*r+β):=by rw [<- h1,Nat.mul_add,Nat.mul_left_comm];omega
 rw [e,Nat.mul_add_div hb,Nat.mul_add_mod]
 split
 ·rename_i h
  have h3:(2*r+β) / b=1:=by
   rw [Nat.div_eq_sub_div hb h,Nat.div_eq_of_lt om_]
  have h4:(2*r+β) % b=2*r+β-b:=by
   rw [Nat.mod_eq_sub_mod h,Nat.mod_eq_of_lt om_]
  rw [h3,h4];exact ⟨rfl,rfl⟩
 ·rename_i h
  rw [Nat.div_eq_of_lt om_,Nat.mod_eq_of_lt om_];exact ⟨rfl,rfl⟩
theorem bit_part {l:List Nat}{i:Nat}(hd:DigD l):valD l / B32 ^ i % B32=gD l i:=by
 have e:valD l=valD (l.take i)+B32 ^ i*valD (l.drop i):=by
  conv=>lhs;rw [<- List.take_append_drop i l]
  rw [dq]
  rcases Nat.lt_or_ge l.length i with h | h
  ·rw [List.drop_eq_nil_of_le om_];simp [valD]
  ·rw [List.length_take,Nat.min_eq_left h]
 have h1:valD (l.take i)<B32 ^ i:=by
  have h2:=valD_lt (hd.take i)
  have h3:B32 ^ (l.take i).length<=B32 ^ i:=Nat.pow_le_pow_right (by decide) (by rw [List.length_take];omega)
  omega
 have hp:0<B32 ^ i:=Nat.pow_pos (by decide)
 rw [e,Nat.add_mul_div_left _ _ hp,Nat.div_eq_of_lt h1,Nat.zero_add]
 unfold gD
 rw [List.getD_eq_getElem?_getD]
 cases hx:l[i]? with
 | none=>rw [List.drop_eq_nil_of_le (List.getElem?_eq_none_iff.1 hx)];rfl
 | some x =>
  have hi:=(List.getElem?_eq_some_iff.1 hx)
  rw [List.drop_eq_getElem_cons hi.1,hi.2]
  show (x+B32*valD (l.drop (i+1))) % B32=x
  rw [Nat.add_mul_mod_self_left,Nat.mod_eq_of_lt (hd x (List.mem_of_getElem? hx))]
end Go.Jog
namespace Go.Jog

abbrev BP:Nat:=10000
def valP:List Nat->Nat
 | []=>0
 | x::l=>x+BP*valP l
def DigP (l:List Nat):Prop:=∀ x∈l,x<BP
def CanP (l:List Nat):Prop:=DigP l/\l.getLast?≠some 0
theorem valP_append:∀ (a b:List Nat),valP (a++b)=valP a+BP ^ a.length*valP b
 | [],b=>by simp [valP]
 | x::a,b=>by
  simp only [List.cons_append,valP,valP_append a b,List.length_cons,Nat.pow_succ]
  rw [Nat.mul_add,<- Nat.mul_assoc,Nat.mul_comm (BP ^ a.length) BP,Nat.add_assoc]
theorem valP_snoc (a:List Nat)(x:Nat):valP (a++[x])=valP a+BP ^ a.length*x:=by
 rw [valP_append];simp [valP]
theorem valP_take {l:List Nat}{i x:Nat}(h:l[i]?=some x):valP (l.take (i+1))=valP (l.take i)+BP ^ i*x:=by
 have hi:=(List.getElem?_eq_some_iff.1 h).1
 rw [List.take_add_one,h]
 simp only [Option.toList_some]
 rw [valP_snoc,List.length_take,Nat.min_eq_left om_]
theorem DigP.take {l:List Nat}(h:DigP l)(i:Nat):DigP (l.take i):=fun x hx=>h x (List.mem_of_mem_take hx)
theorem DigP.snoc {l:List Nat}(h:DigP l){x:Nat}(hx:x<BP):DigP (l++[x]):=fun y hy=>by
 rcases List.mem_append.1 hy with hy | hy
 ·exact h y hy
 ·rw [List.mem_singleton.1 hy];exact hx
theorem canP_low {l:List Nat}(h:CanP l)(hl:0<l.length):BP ^ (l.length-1)<=valP l:=by
 obtain ⟨x,hx⟩:∃ x,l[l.length-1]?=some x:=⟨l[l.length-1]'om_,List.getElem?_eq_getElem om_⟩
 have h1:=valP_take hx
 rw [show l.length-1+1=l.length by omega,List.take_length] at h1
 have hx0:x≠0:=fun e=>h.2 (by rw [List.getLast?_eq_getElem?,hx,e])
 rw [h1]
 have:BP ^ (l.length-1)*1<=BP ^ (l.length-1)*x:=Nat.mul_le_mul_left _ om_
 omega
/-! ### Decimal texts -/
def digB (c:UInt8):Bool:=decide (48<=c.toNat/\c.toNat<=57)
def decF (a:Nat)(c:UInt8):Nat:=10*a+(c.toNat-48)
def decV (s:List UInt8):Nat:=s.foldl decF 0
def CanS (s:List UInt8):Prop:=(∀ c∈s,digB c=true)/\s≠[]/\(s.head?=some 48->s.length=1)
theorem decF_split:∀ (s:List UInt8)(a:Nat),s.foldl decF a=a*10 ^ s.length+decV s
 | [],a=>by simp [decV]
 | c::s,a=>by
  have h1:=decF_split s (decF a c)
  have h2:=decF_split s (decF 0 c)
  simp only [decV,List.foldl_cons] at h1 h2 ⊢
  rw [h1,h2]
  simp only [decF,List.length_cons,Nat.pow_succ,Nat.add_mul]
  simp only [Nat.mul_zero,Nat.zero_mul,Nat.zero_add]
  rw [Nat.mul_comm 10 a,Nat.mul_assoc,Nat.mul_comm 10,Nat.add_assoc]
theorem bR (c:UInt8)(s:List UInt8):decV (c::s)=(c.toNat-48)*10 ^ s.length+decV s:=by
 show s.foldl decF (decF 0 c)=_
 rw [decF_split];simp [decF]
theorem cN (a b:List UInt8):decV (a++b)=decV a*10 ^ b.length+decV b:=by
 show (a++b).foldl decF 0=_
 rw [List.foldl_append,decF_split];rfl
theorem cA:∀ {s:List UInt8},(∀ c∈s,digB c=true)->decV s<10 ^ s.length
 | [],_=>by simp [decV]
 | c::s,h=>by
  have h1:=cA (s:=s) (fun d hd=>h d (by simp [hd]))
  have h2:=h c (by simp)
  simp only [digB,decide_eq_true_eq] at h2
  rw [bR,List.length_cons,Nat.pow_succ]
  have h3:(c.toNat-48)*10 ^ s.length<=9*10 ^ s.length:=Nat.mul_le_mul_right _ om_
  omega
theorem canS_low {s:List UInt8}(h:CanS s)(hl:1<s.length):10 ^ (s.length-1)<=decV s:=by
 obtain ⟨h1,h2,h3⟩:=h
 match s,h2 with
 | c::s,_ =>
  have h4:=h1 c (by simp)
  simp only [digB,decide_eq_true_eq] at h4
  have h5:c≠48:=fun e=>by
   have:=h3 (by simp [e])
   omega
  have h6:c.toNat≠48:=fun e=>h5 (UInt8.toNat_inj.1 (by rw [e];rfl))
  rw [bR]
  simp only [List.length_cons,Nat.add_sub_cancel]
  have:1*10 ^ s.length<=(c.toNat-48)*10 ^ s.length:=Nat.mul_le_mul_right _ om_
  omega
theorem dec_inj:∀ {a b:List UInt8},(∀ c∈a,digB c=true)->(∀ c∈b,digB c=true)->a.length=b.length->decV a=decV b->a=b
 | [],[],_,_,_,_=>rfl
 | [],_::_,_,_,h,_=>by simp at h
 | _::_,[],_,_,h,_=>by simp at h
 | c::a,d::b,ha,hb,hl,hv=>by
  have hl2:a.length=b.length:=by simpa using hl
  have h1:=cA (s:=a) (fun x hx=>ha x (by simp [hx]))
  have h2:=cA (s:=b) (fun x hx=>hb x (by simp [hx]))
  have hc:=ha c (by simp)
  have hd:=hb d (by simp)
  simp only [digB,decide_eq_true_eq] at hc hd
  rw [bR,bR,hl2] at hv
  rw [hl2] at h1
  have hq:c.toNat-48=d.toNat-48:=by
   have e1:(decV a+10 ^ b.length*(c.toNat-48)) / 10 ^ b.length=c.toNat-48:=by
    rw [Nat.add_mul_div_left _ _ (Nat.pow_pos (by decide)),Nat.div_eq_of_lt h1,Nat.zero_add]
   have e2:(decV b+10 ^ b.length*(d.toNat-48)) / 10 ^ b.length=d.toNat-48:=by
    rw [Nat.add_mul_div_left _ _ (Nat.pow_pos (by decide)),Nat.div_eq_of_lt h2,Nat.zero_add]
   rw [<- e1,<- e2,Nat.mul_comm,Nat.add_comm,hv,Nat.mul_comm (10 ^ b.length),Nat.add_comm (decV b)]
  rw [hq] at hv
  have hcd:c=d:=UInt8.toNat_inj.1 om_
  rw [hcd,dec_inj (fun x hx=>ha x (by simp [hx])) (fun x hx=>hb x (by simp [hx])) hl2 om_]
theorem canS_unique {a b:List UInt8}(ha:CanS a)(hb:CanS b)(h:decV a=decV b):a=b:=by
 refine dec_inj ha.1 hb.1 ?_ h
 have hpa:=List.length_pos_iff.2 ha.2.1
 have hpb:=List.length_pos_iff.2 hb.2.1
 rcases Nat.lt_trichotomy a.length b.length with h1 | h1 | h1
 ·have h2:=canS_low hb om_
  have h3:=cA ha.1
  have h4:10 ^ a.length<=10 ^ (b.length-1):=Nat.pow_le_pow_right (by decide) om_
  omega
 ·exact h1
 ·have h2:=canS_low ha om_
  have h3:=cA hb.1
  have h4:10 ^ b.length<=10 ^ (a.length-1):=Nat.pow_le_pow_right (by decide) om_
  omega
end Go.Jog
namespace Go.Jog

theorem head_app {a b:List UInt8}(h:a≠[]):(a++b).head?=a.head?:=by
 cases a with
 | nil=>exact absurd rfl h
 | cons=>rfl
def gP (l:List Nat)(i:Nat):Nat:=l.getD i 0
def cutS (s:List UInt8)(lo hi:Nat):List UInt8:=(s.take hi).drop lo
def padS:Nat->Nat->List UInt8
 | 0,_=>[]
 | k+1,n=>padS k (n / 10)++[UInt8.ofNat (48+n % 10)]
theorem dig_byte {d:Nat}(h:d<10):(UInt8.ofNat (48+d)).toNat=48+d:=by rw [UInt8.toNat_ofNat'];omega
theorem padS_ok:∀ (k n:Nat),n<10 ^ k->(padS k n).length=k/\(∀ c∈padS k n,digB c=true)/\decV (padS k n)=n
 | 0,n,h=>by
  have:n=0:=by simpa using h
  subst this
  exact ⟨rfl,by simp [padS],rfl⟩
 | k+1,n,h=>by
  obtain ⟨h1,h2,h3⟩:=padS_ok k (n / 10) (by rw [Nat.pow_succ] at h;exact (Nat.div_lt_iff_lt_mul (by decide)).2 h)
  have hd:=dig_byte (Nat.mod_lt n (show 0<10 by decide))
  refine ⟨by simp [padS,h1],fun c hc=>?_, ?_⟩
  ·simp only [padS,List.mem_append,List.mem_singleton] at hc
   rcases hc with hc | rfl
   ·exact h2 c hc
   ·have:=Nat.mod_lt n (show 0<10 by decide)
    simp only [digB,hd,decide_eq_true_eq];omega
  ·simp only [padS]
   rw [cN,h3,bR,hd]
   simp [decV]
   omega
def decS (n:Nat):List UInt8:=if n<10 then [UInt8.ofNat (48+n)] else decS (n / 10)++[UInt8.ofNat (48+n % 10)]
 termination_by n
 decreasing_by omega
theorem aV (n:Nat):CanS (decS n)/\decV (decS n)=n:=by
 induction n using Nat.strongRecOn with
 | ind n ih =>
  rw [decS]
  split
  ·rename_i h
   have hd:=dig_byte h
   refine ⟨⟨fun c hc=>?_,by simp,fun _=>rfl⟩, ?_⟩
   ·rw [List.mem_singleton.1 hc];simp only [digB,hd,decide_eq_true_eq];omega
   ·rw [bR,hd];simp [decV]
  ·rename_i h
   obtain ⟨⟨h1,h2,h3⟩,h4⟩:=ih (n / 10) om_
   have hd:=dig_byte (Nat.mod_lt n (show 0<10 by decide))
   refine ⟨⟨fun c hc=>?_,by simp,fun he=>?_⟩, ?_⟩
   ·rcases List.mem_append.1 hc with hc | hc
    ·exact h1 c hc
    ·rw [List.mem_singleton.1 hc]
     have:=Nat.mod_lt n (show 0<10 by decide)
     simp only [digB,hd,decide_eq_true_eq];omega
   ·exfalso
    rw [head_app h2] at he
    have h5:=h3 he
    match hs:decS (n / 10),h2 with
    | [c],_ =>
     rw [hs] at he h4
     simp at he
     subst he
     have:n / 10=0:=by rw [<- h4];rfl
     omega
    | c::d::s,_=>rw [hs] at h5;simp at h5
   ·rw [cN,h4,bR,hd]
    simp [decV]
    omega
theorem canS_dec {s:List UInt8}(h:CanS s):s=decS (decV s):=canS_unique h (aV _).1 (aV _).2.symm
end Go.Jog
namespace Go.Jog

def valI:List Int->Int
 | []=>0
 | x::l=>x+10000*valI l
theorem valI_append:∀ (a b:List Int),valI (a++b)=valI a+(10000:Int) ^ a.length*valI b
 | [],b=>by simp [valI]
 | x::a,b=>by
  simp only [List.cons_append,valI,valI_append a b,List.length_cons,Int.pow_succ]
  rw [Int.mul_add,<- Int.mul_assoc,Int.mul_comm ((10000:Int) ^ a.length) 10000,Int.add_assoc]
theorem valI_snoc (a:List Int)(x:Int):valI (a++[x])=valI a+(10000:Int) ^ a.length*x:=by
 rw [valI_append];simp [valI]
end Go.Jog
namespace Go.Jog

end Go.Jog
namespace Go.Jog

theorem pow_B32 (p:Nat):B32 ^ (p / 32)*2 ^ (p % 32)=2 ^ p:=by
 have e:B32 ^ (p / 32)=2 ^ (32*(p / 32)):=by rw [Nat.pow_mul]
 rw [e,<- Nat.pow_add,Nat.div_add_mod]
theorem bitD {l:List Nat}{p:Nat}(hd:DigD l):gD l (p / 32) / 2 ^ (p % 32) % 2=valD l / 2 ^ p % 2:=by
 have hr:=Nat.mod_lt p (show 0<32 by decide)
 obtain ⟨r,hr0⟩:∃ r,p % 32=r:=⟨_,rfl⟩
 rw [<- bit_part hd,<- pow_B32 p,<- Nat.div_div_eq_div_mul]
 obtain ⟨X,hX⟩:∃ X,valD l / B32 ^ (p / 32)=X:=⟨_,rfl⟩
 rw [hX,hr0]
 rw [hr0] at hr
 have e:B32=2 ^ r*2 ^ (32-r):=by rw [<- Nat.pow_add,show r+(32-r)=32 by omega]
 rw [e,Nat.mod_mul_right_div_self]
 have h2:2 ∣ 2 ^ (32-r):=by
  rw [show 32-r=(31-r)+1 by omega,Nat.pow_succ]
  exact Nat.dvd_mul_left _ _
 exact Nat.mod_mod_of_dvd _ h2
theorem half_pow (A p:Nat):A / 2 ^ p=2*(A / 2 ^ (p+1))+A / 2 ^ p % 2:=by
 rw [Nat.pow_succ,<- Nat.div_div_eq_div_mul]
 have:=Nat.div_add_mod (A / 2 ^ p) 2
 omega
theorem or_bit {x r:Nat}(h:x % 2 ^ (r+1)=0):x ||| 2 ^ r=x+2 ^ r:=by
 have h1:=Nat.div_add_mod x (2 ^ (r+1))
 rw [h,Nat.add_zero] at h1
 have h2:2 ^ r<2 ^ (r+1):=Nat.pow_lt_pow_right (by decide) om_
 rw [<- h1,<- Nat.two_pow_add_eq_or_of_lt h2]
theorem over_bit {A b p V r:Nat}(hb:0<b)(hV:V=2 ^ (p+1)*(A / 2 ^ (p+1) / b))(hr:r=A / 2 ^ (p+1) % b) :
  (b<=2*r+A / 2 ^ p % 2->V+2 ^ p=2 ^ p*(A / 2 ^ p / b)/\2*r+A / 2 ^ p % 2-b=A / 2 ^ p % b) /\
  (¬ b<=2*r+A / 2 ^ p % 2->V=2 ^ p*(A / 2 ^ p / b)/\2*r+A / 2 ^ p % 2=A / 2 ^ p % b):=by
 obtain ⟨h1,h2⟩:=div_bit (t:=A / 2 ^ (p+1)) (β:=A / 2 ^ p % 2) hb om_
 rw [<- half_pow,<- hr] at h1 h2
 have e:∀ q,2 ^ (p+1)*q=2 ^ p*(2*q):=fun q=>by rw [Nat.pow_succ,Nat.mul_assoc]
 constructor
 ·intro h
  rw [if_pos h] at h1 h2
  rw [h1,h2,hV,e,Nat.mul_add,Nat.mul_one]
  exact ⟨rfl,rfl⟩
 ·intro h
  rw [if_neg h] at h1 h2
  rw [h1,h2,hV,e,Nat.add_zero]
  exact ⟨rfl,rfl⟩
theorem part_free {l:List Nat}{p:Nat}(hd:DigD l)(h:2 ^ (p+1) ∣ valD l):gD l (p / 32) % 2 ^ (p % 32+1)=0:=by
 have hr:=Nat.mod_lt p (show 0<32 by decide)
 obtain ⟨k,hk⟩:=h
 rw [<- bit_part hd,hk,Nat.pow_succ,<- pow_B32 p]
 have e:B32 ^ (p / 32)*2 ^ (p % 32)*2*k=B32 ^ (p / 32)*(2 ^ (p % 32+1)*k):=by
  rw [Nat.pow_succ,Nat.mul_assoc,Nat.mul_assoc,Nat.mul_assoc]
 rw [e,Nat.mul_div_cancel_left _ (Nat.pow_pos (by decide))]
 have h2:2 ^ (p % 32+1) ∣ B32:=by
  rw [show B32=2 ^ 32 from rfl]
  exact Nat.pow_dvd_pow 2 om_
 rw [Nat.mod_mod_of_dvd _ h2,Nat.mul_mod_right]
end Go.Jog
namespace Go.Proofs.YtjhmlnebikbdbaaGreatDoor
open Go Go.Jog
set_option maxRecDepth 100000

def encW (x:Nat):List Value:=[.int .u32 x]
theorem bP (x:Nat):(encW x).length=1:=rfl
def NatC (C:Mem)(v:Value)(n:Nat):Prop:=∃ l,CanD l/\valD l=n/\Sl C 1 v (l.map encW)
theorem NatC.mono {C D:Mem}{v:Value}{n:Nat}(h:NatC C v n)(hl:C.le D):NatC D v n:=by
 obtain ⟨l,h1,h2,h3⟩:=h
 exact ⟨l,h1,h2,h3.mono hl⟩
theorem trim_fn (C:Mem)(v:Value)(l:List Nat)(hv:Sl C 1 v (l.map encW)):Pur cx.P 112 [v] C fun u C'=>Sl C' 1 u ((trimD l).map encW):=by
 obtain ⟨A0,c0,rfl,hlc,_⟩:=id hv
 simp only [List.length_map] at hv hlc ⊢
 refine Fn.it kr_ Tryz.func112 21 fun w0=>?_
 refine G.z1 1 0 ?_
 refine G.loop (fun fr C' L' μ=>∃ (k:Nat)(A:Option Addr)(c:Nat),(k<=l.length/\Sl C' 1 (.slice A k c) ((l.take k).map encW)/\trimN l l.length=trimN l k)/\fr=[(0,[],.slice A k c)]/\L'=[]/\μ=k+1) (h_1 0) ⟨l.length,A0,c0,⟨Nat.le_refl _,by rw [List.take_length];exact hv,rfl⟩,rfl,rfl,rfl⟩ (fun fr C0' L0' m hle0 hI=>?_)
 obtain ⟨k,A,c,⟨hk,hs,ht⟩,rfl,rfl,rfl⟩:=hI
 obtain ⟨_,c9,hqe,hkc,_⟩:=id hs
 have hmx:maxLen<=9223372036854775807:=by simp [maxLen]
 have hkc2:k<=c:=by
  rw [List.length_map,List.length_take] at hkc
  injection hqe with h1 h2 h3
  omega
 have hrow:0<k->((l.take k).map encW)[((k:Int)-1).toNat]?=some (encW (gD l (k-1))):=fun h=>by
  rw [show ((k:Int)-1).toNat=k-1 by omega,List.getElem?_map,List.getElem?_take,if_pos om_,List.getElem?_eq_getElem (by omega:k-1<l.length)]
  unfold gD
  rw [List.getD_eq_getElem?_getD,List.getElem?_eq_getElem (by omega:k-1<l.length)];rfl
 refine G.rp 7 fun R hR=>?_
 refine D.ax _ ?_
 refine D.index rfl rfl rfl rfl rfl rfl rfl rfl rfl rfl (fun hg=>⟨hs,(by have h:decide ((0:Int)<(k:Int))=true:=hg.1;simp at h;omega),hrow (by have h:decide ((0:Int)<(k:Int))=true:=hg.1;simp at h;omega)⟩) fl_ rfl (fun p11 hp11=>?_)
 refine D.aD rfl rfl rfl rfl rfl rfl hp11 rfl rfl rfl ?_
 refine D.ae ?_
 refine D.aC rfl rfl rfl rfl rfl rfl rfl rfl ?_
 refine D.e2 0 14 hR ?_
 refine G.cd (fun h14=>?_) fun h14=>?_
 ·have hk0:0<k/\gD l (k-1)=0:=by
   have:(0:Int)<(k:Int)/\((gD l (k-1):Nat):Int)=0:=by simpa using h14
   omega
  refine G.rp 3 fun R hR=>?_
  refine D.i64 (((k-1:Nat):Int)) rfl rfl rfl rfl om_ om_ om_ rfl rfl ?_
  refine D.dH 0 (k-1) c rfl rfl rfl rfl rfl rfl rfl rfl rfl rfl rfl rfl (fun _=>⟨.inl ⟨rfl,rfl⟩,.inr ⟨_,rfl⟩,.inl ⟨rfl,rfl⟩,by omega,by omega,Nat.le_refl _⟩) rfl rfl ?_
  refine D.q1 1 0 hR ?_
  have hsub:=Sl.sub hs (l:=0) (h:=k-1) (m:=c) (Nat.zero_le _) (by simp;omega) om_ (Nat.le_refl _)
  have esub:(((l.take k).map encW).take (k-1)).drop 0=(l.take (k-1)).map encW:=by
   rw [List.drop_zero,<- List.map_take,List.take_take,Nat.min_eq_left om_]
  rw [esub] at hsub
  have etr:trimN l l.length=trimN l (k-1):=by
   rw [ht]
   obtain ⟨j,rfl⟩:∃ j,k=j+1:=⟨k-1,by omega⟩
   simp only [Nat.add_sub_cancel] at hk0 ⊢
   rw [trimN,if_pos]
   unfold gD at hk0
   rw [List.getD_eq_getElem?_getD,List.getElem?_eq_getElem om_] at hk0
   rw [List.getElem?_eq_getElem om_]
   exact congrArg some hk0.2
  refine G.aB (m':=k-1+1) om_ mup (h_1 0) ⟨k-1,_,c,⟨by omega,hsub.mono mup,etr⟩,rfl,rfl,rfl⟩
 ·have hk0:¬ (0<k/\gD l (k-1)=0):=fun hh=>by
   have h1:(decide ((0:Int)<(k:Int)) && (((gD l (k-1):Nat):Int) == 0))=true:=by
    rw [hh.2];simp;omega
   rw [h1] at h14
   cases h14
  refine G.z1 2 2 ?_
  refine G.rf ?_
  refine ⟨rfl, ?_⟩
  have e:trimN l k=k:=by
   cases k with
   | zero=>rfl
   | succ j =>
    simp only [Nat.add_sub_cancel] at hk0
    rw [trimN,if_neg]
    intro h
    refine hk0 ⟨by omega, ?_⟩
    unfold gD
    rw [List.getD_eq_getElem?_getD,h];rfl
  unfold trimD
  rw [ht,e]
  exact hs
def CmpRes (m n:Nat)(z:Int):Prop:=(z<0 ↔ m<n)/\(0<z ↔ n<m)/\-9223372036854775808<=z/\z<=9223372036854775807
theorem compare_fn (C:Mem)(va vb:Value)(a b:List Nat)(ha:Sl C 1 va (a.map encW))(hb:Sl C 1 vb (b.map encW))(hca:CanD a)(hcb:CanD b):Pur cx.P 66 [va,vb] C fun u _=>∃ z:Int,u=.int .i64 z/\CmpRes (valD a) (valD b) z:=by
 have hmx:maxLen<=9223372036854775807:=by simp [maxLen]
 obtain ⟨A0,c0,rfl,hla,hla2,_⟩:=id ha
 obtain ⟨B0,d0,rfl,hlb,hlb2,_⟩:=id hb
 simp only [List.length_map] at ha hb hla hlb ⊢
 refine Fn.it kr_ Tryz.func66 43 fun w0=>?_
 refine G.z2 1 0 1 ?_
 refine G.z3 5 0 1 10 ?_
 refine G.cd (fun h10=>?_) fun h10=>?_
 ·have hne:a.length≠b.length:=fun e=>by
   rw [e] at h10;simp at h10
  refine G.rp 4 fun R hR=>?_
  refine D.ax _ ?_
  refine D.q1 1 4 hR ?_
  refine G.rf ?_
  refine ⟨rfl,_,rfl, ?_⟩
  rcases Nat.lt_or_ge a.length b.length with h | h
  ·have:=len_lt hca.1 hcb h
   refine ⟨?_, ?_, ?_, ?_⟩ <;> omega
  ·have:=len_lt hcb.1 hca om_
   refine ⟨?_, ?_, ?_, ?_⟩ <;> omega
 ·have hlen:a.length=b.length:=by
   have:(a.length:Int)=b.length:=by simpa using h10
   omega
  refine G.rp 2 fun R hR=>?_
  refine D.ax _ ?_
  refine D.q3 1 0 1 5 hR ?_
  refine G.loop (fun fr C' L' μ=>∃ (k:Nat),(k<=a.length/\a.drop k=b.drop k)/\fr=[(0,[],.slice A0 a.length c0),(1,[],.slice B0 b.length d0),(5,[],.int .i64 ((k:Int)-1))]/\L'=[]/\μ=k+1) (h_3 0 1 5) ⟨a.length,⟨Nat.le_refl _,by rw [List.drop_length,hlen,List.drop_length]⟩,rfl,rfl,rfl⟩ (fun fr C0' L0' m hle0 hI=>?_)
  obtain ⟨k,⟨hk,he⟩,rfl,rfl,rfl⟩:=hI
  refine G.z4 2 0 1 5 20 ?_
  refine G.cd (fun h20=>?_) fun h20=>?_
  ·have hk0:0<k:=by
    have:(0:Int)<=(k:Int)-1:=by simpa using h20
    omega
   obtain ⟨j,rfl⟩:∃ j,k=j+1:=⟨k-1,by omega⟩
   obtain ⟨x,hx⟩:∃ x,a[j]?=some x:=⟨a[j],List.getElem?_eq_getElem om_⟩
   obtain ⟨y,hy⟩:∃ y,b[j]?=some y:=⟨b[j],List.getElem?_eq_getElem om_⟩
   have hrx:(a.map encW)[(((j+1:Nat):Int)-1).toNat]?=some (encW x):=by
    rw [show (((j+1:Nat):Int)-1).toNat=j by omega,List.getElem?_map,hx];rfl
   have hry:(b.map encW)[(((j+1:Nat):Int)-1).toNat]?=some (encW y):=by
    rw [show (((j+1:Nat):Int)-1).toNat=j by omega,List.getElem?_map,hy];rfl
   refine G.aI [0,1,2,3,4,5,6,7,8,9] [] rfl kr_ (fun R hB hR=>?_)
   refine D.ps 2 ?_
   refine D.ai (ha.mono mup) rfl rfl rfl rfl rfl rfl rfl rfl rfl rfl om_ hrx fl_ (fun p26 hp26=>?_)
   refine D.aa hp26 ?_
   refine D.ps 2 ?_
   refine D.ai (hb.mono mup) rfl rfl rfl rfl rfl rfl rfl rfl rfl rfl om_ hry fl_ (fun p30 hp30=>?_)
   refine D.aa hp30 ?_
   refine D.q4 2 0 1 5 23 hR ?_
   refine G.cd (fun h23=>?_) fun h23=>?_
   ·have hxy:x<y:=by
     have:(x:Int)<y:=by simpa using h23
     omega
    refine G.z1 1 4 ?_
    refine G.rf ?_
    refine ⟨rfl,_,rfl, ?_⟩
    have:=at_lt hca.1 hlen hx hy hxy he
    refine ⟨?_, ?_, ?_, ?_⟩ <;> omega
   ·have hxy:¬ x<y:=fun h=>by
     have:(x:Int)<y:=by omega
     simp [this] at h23
    refine G.aI [0,1,2,3,4,5,6,7,8,9] [] rfl kr_ (fun R hB hR=>?_)
    refine D.ps 2 ?_
    refine D.ai (ha.mono mup) rfl rfl rfl rfl rfl rfl rfl rfl rfl rfl om_ hrx fl_ (fun p36 hp36=>?_)
    refine D.aa hp36 ?_
    refine D.ps 2 ?_
    refine D.ai (hb.mono mup) rfl rfl rfl rfl rfl rfl rfl rfl rfl rfl om_ hry fl_ (fun p40 hp40=>?_)
    refine D.aa hp40 ?_
    refine D.q4 2 0 1 5 33 hR ?_
    refine G.cd (fun h33=>?_) fun h33=>?_
    ·have hyx:y<x:=by
      have:(y:Int)<x:=by simpa using h33
      omega
     refine G.z1 1 4 ?_
     refine G.rf ?_
     refine ⟨rfl,_,rfl, ?_⟩
     have:=at_lt hcb.1 hlen.symm hy hx hyx he.symm
     refine ⟨?_, ?_, ?_, ?_⟩ <;> omega
    ·have hyx:¬ y<x:=fun h=>by
      have:(y:Int)<x:=by omega
      simp [this] at h33
     refine G.rp 1 fun R hR=>?_
     refine D.ax _ ?_
     refine D.q3 1 0 1 5 hR ?_
     rw [show ((j+1:Nat):Int)-1-1=(j:Int)-1 by omega]
     refine G.aB (m':=j+1) om_ mup (h_3 0 1 5) ⟨j,⟨by omega,by
      have hxy2:x=y:=by omega
      rw [List.drop_eq_getElem_cons (by omega:j<a.length),List.drop_eq_getElem_cons (by omega:j<b.length),he,(List.getElem?_eq_some_iff.1 hx).2,(List.getElem?_eq_some_iff.1 hy).2,hxy2]⟩,rfl,rfl,rfl⟩
  ·have hk0:k=0:=by
    have:¬ (0:Int)<=(k:Int)-1:=by simpa using h20
    omega
   subst hk0
   refine G.z1 1 4 ?_
   refine G.rf ?_
   refine ⟨rfl,_,rfl, ?_⟩
   have:a=b:=by simpa using he
   subst this
   refine ⟨?_, ?_, ?_, ?_⟩ <;> omega
end Go.Proofs.YtjhmlnebikbdbaaGreatDoor
namespace Go.Jog
open Go
section
variable {cx:Cx} {n:Nat} {ds:List (Option Nat)} {R:Rg n ds} {its:List It} {fr:Fr} {C:Mem} {L:List Ent} {i k d:Nat} {o:Oper} {g:GL}
theorem D.shrU (a m:Nat){kj:IntKind}{t ty:Nat}{x y:Operand}{p q:Int}(hk:Nat.ble k 1=true)(hd:o.dst=some d)(hop:o.op=.binOp .shr t x y ty)(hg:gOf ds fr o.guard=some g)(hx:ev fr g x=some (.int .u64 p))(hy:ev fr g y=some (.int kj q))
  (hpa:p=a) (hq:q=m) (hm:m<=63) (hp:aH n ds ((d,g,.int .u64 ((a / 2 ^ m:Nat):Int))::fr) d=true) (hwf:wfG ds fr g=true)
  (h:D cx R its ((d,g,.int .u64 ((a / 2 ^ m:Nat):Int))::fr) C L):D cx R ((i,k,o)::its) fr C L :=
 D.run _ hk hd hg (fun _ A hs w=>by
  subst hpa hq
  rw [ba hop (hs _ _ hx) (hs _ _ hy) (fun _ _=>.inl (by simp)) (.inl (by simp)) w]
  have h0:¬ ((m:Int)<0):=by omega
  have hmin:Min.min m 64=m:=by omega
  have e:(a:Int).fdiv (2 ^ m)=((a / 2 ^ m:Nat):Int):=by
   have e1:(2:Int) ^ m=((2 ^ m:Nat):Int):=by norm_cast
   rw [e1,Int.fdiv_eq_ediv_of_nonneg _ (Int.natCast_nonneg _)]
   exact (Int.natCast_ediv _ _).symm
  simp only [binOp,Op.shift,h0,if_false,Int.toNat_natCast,IntKind.bits,hmin,Sem.run_pure,Result.andThen_ok]
  rw [e]) hp hwf h
theorem D.shrW (a m:Nat){kj:IntKind}{t ty:Nat}{x y:Operand}{p q:Int}(hk:Nat.ble k 1=true)(hd:o.dst=some d)(hop:o.op=.binOp .shr t x y ty)(hg:gOf ds fr o.guard=some g)(hx:ev fr g x=some (.int .u32 p))(hy:ev fr g y=some (.int kj q))
  (hpa:p=a) (hq:q=m) (hm:m<=31) (hp:aH n ds ((d,g,.int .u32 ((a / 2 ^ m:Nat):Int))::fr) d=true) (hwf:wfG ds fr g=true)
  (h:D cx R its ((d,g,.int .u32 ((a / 2 ^ m:Nat):Int))::fr) C L):D cx R ((i,k,o)::its) fr C L :=
 D.run _ hk hd hg (fun _ A hs w=>by
  subst hpa hq
  rw [ba hop (hs _ _ hx) (hs _ _ hy) (fun _ _=>.inl (by simp)) (.inl (by simp)) w]
  have h0:¬ ((m:Int)<0):=by omega
  have hmin:Min.min m 32=m:=by omega
  have e:(a:Int).fdiv (2 ^ m)=((a / 2 ^ m:Nat):Int):=by
   have e1:(2:Int) ^ m=((2 ^ m:Nat):Int):=by norm_cast
   rw [e1,Int.fdiv_eq_ediv_of_nonneg _ (Int.natCast_nonneg _)]
   exact (Int.natCast_ediv _ _).symm
  simp only [binOp,Op.shift,h0,if_false,Int.toNat_natCast,IntKind.bits,hmin,Sem.run_pure,Result.andThen_ok]
  rw [e]) hp hwf h
end
end Go.Jog
namespace Go.Jog
open Go

def hAt (l:List Nat)(k:Nat):Nat:=l.getD k 0
def swapL (l:List Nat)(i j:Nat):List Nat:=(l.set i (hAt l j)).set j (hAt l i)
theorem swapL_length {l:List Nat}{i j:Nat}:(swapL l i j).length=l.length:=by simp [swapL]
theorem dE {l:List Nat}{i j k:Nat}(hi:i<l.length)(hj:j<l.length):hAt (swapL l i j) k=if k=j then hAt l i else if k=i then hAt l j else hAt l k:=by
 unfold swapL hAt
 simp only [List.getD_eq_getElem?_getD,List.getElem?_set]
 by_cases h1:j=k
 ·subst h1;simp [hj]
 ·by_cases h2:i=k
  ·subst h2;simp [h1,Ne.symm h1,hi]
  ·simp [h1,h2,Ne.symm h1,Ne.symm h2]
def UpH (l:List Nat)(j:Nat):Prop :=
 (∀ k,1<=k->k<l.length->k≠j->hAt l ((k-1) / 2)<=hAt l k)/\(1<=j->∀ k,1<=k->k<l.length->(k-1) / 2=j->hAt l ((j-1) / 2)<=hAt l k)
def HeapN (n:Nat)(l:List Nat):Prop:=∀ k,1<=k->k<n->hAt l ((k-1) / 2)<=hAt l k
theorem UpH.snoc {l:List Nat}{x:Nat}(h:HeapN l.length l):UpH (l++[x]) l.length:=by
 have e:∀ k,k<l.length->hAt (l++[x]) k=hAt l k:=fun k hk=>by
  simp [hAt,List.getD_eq_getElem?_getD,List.getElem?_append_left hk]
 refine ⟨fun k h1 h2 h3=>?_,fun h0 k h1 h2 h3=>?_⟩
 ·simp only [List.length_append,List.length_singleton] at h2
  rw [e k om_,e _ om_]
  exact h k h1 om_
 ·simp only [List.length_append,List.length_singleton] at h2
  omega
theorem UpH.done {l:List Nat}{j:Nat}(h:UpH l j)(hle:hAt l ((j-1) / 2)<=hAt l j):HeapN l.length l:=fun k h1 h2=>by
 by_cases e:k=j
 ·subst e;exact hle
 ·exact h.1 k h1 h2 e
theorem UpH.step {l:List Nat}{j:Nat}(h:UpH l j)(hj0:1<=j)(hj:j<l.length)(hlt:hAt l j<hAt l ((j-1) / 2)):UpH (swapL l ((j-1) / 2) j) ((j-1) / 2):=by
 have hi:(j-1) / 2<l.length:=by omega
 refine ⟨fun k h1 h2 h3=>?_,fun h0 k h1 h2 h3=>?_⟩
 ·rw [swapL_length] at h2
  rw [dE hi hj,dE hi hj]
  by_cases e:k=j
  ·subst e
   rw [if_pos rfl]
   by_cases e2:(k-1) / 2=k
   ·omega
   ·rw [if_neg e2,if_pos rfl];omega
  ·rw [if_neg e,if_neg h3]
   by_cases e2:(k-1) / 2=j
   ·rw [if_pos e2];exact h.2 hj0 k h1 h2 e2
   ·rw [if_neg e2]
    by_cases e3:(k-1) / 2=(j-1) / 2
    ·rw [if_pos e3]
     have:=h.1 k h1 h2 e
     rw [e3] at this;omega
    ·rw [if_neg e3];exact h.1 k h1 h2 e
 ·rw [swapL_length] at h2
  have hp:=h.1 ((j-1) / 2) h0 hi om_
  rw [dE hi hj,dE hi hj,if_neg (by omega:¬ ((j-1) / 2-1) / 2=j),if_neg (by omega:¬ ((j-1) / 2-1) / 2=(j-1) / 2)]
  by_cases e:k=j
  ·subst e;rw [if_pos rfl];exact hp
  ·rw [if_neg e,if_neg (by omega:¬ k=(j-1) / 2)]
   have:=h.1 k h1 h2 e
   rw [h3] at this;omega

def DownH (n:Nat)(l:List Nat)(i:Nat):Prop :=
 (∀ k,1<=k->k<n->(k-1) / 2≠i->hAt l ((k-1) / 2)<=hAt l k)/\(1<=i->∀ k,1<=k->k<n->(k-1) / 2=i->hAt l ((i-1) / 2)<=hAt l k)
theorem DownH.done {n:Nat}{l:List Nat}{i:Nat}(h:DownH n l i)(hle:∀ k,1<=k->k<n->(k-1) / 2=i->hAt l i<=hAt l k):HeapN n l:=fun k h1 h2=>by
 by_cases e:(k-1) / 2=i
 ·rw [e];exact hle k h1 h2 e
 ·exact h.1 k h1 h2 e
theorem DownH.step {n:Nat}{l:List Nat}{i j:Nat}(h:DownH n l i)(hn:n<=l.length)(hj1:1<=j)(hj:j<n)(hij:(j-1) / 2=i)(hlt:hAt l j<hAt l i)(hmin:∀ k,1<=k->k<n->(k-1) / 2=i->hAt l j<=hAt l k):DownH n (swapL l i j) j:=by
 have hi:i<l.length:=by omega
 have hjl:j<l.length:=by omega
 refine ⟨fun k h1 h2 h3=>?_,fun h0 k h1 h2 h3=>?_⟩
 ·rw [dE hi hjl,dE hi hjl,if_neg h3]
  by_cases e:k=j
  ·subst e
   rw [if_pos rfl,hij,if_pos rfl];omega
  ·rw [if_neg e]
   by_cases e2:(k-1) / 2=i
   ·rw [if_pos e2,if_neg (by omega:¬ k=i)];exact hmin k h1 h2 e2
   ·rw [if_neg e2]
    by_cases e3:k=i
    ·rw [if_pos e3];subst e3;exact h.2 h1 j hj1 hj hij
    ·rw [if_neg e3];exact h.1 k h1 h2 e2
 ·rw [dE hi hjl,dE hi hjl,hij,if_neg (by omega:¬ i=j),if_pos rfl,if_neg (by omega:¬ k=j),if_neg (by omega:¬ k=i)]
  have:=h.1 k h1 h2 om_
  rw [h3] at this;exact this

theorem HeapN.top {n:Nat}{l:List Nat}(h:HeapN n l):∀ k,k<n->hAt l 0<=hAt l k:=by
 intro k
 induction k using Nat.strongRecOn with
 | _ k ih =>
  intro hk
  rcases Nat.eq_zero_or_pos k with e | e
  ·subst e;exact Nat.le_refl _
  ·exact Nat.le_trans (ih ((k-1) / 2) om_ om_) (h k e hk)

end Go.Jog
namespace Go.Jog
open Go


section
variable {cx:Cx} {n:Nat} {ds:List (Option Nat)} {R:Rg n ds} {its:List It} {fr:Fr} {C:Mem} {L:List Ent} {i k d:Nat} {o:Oper} {g:GL} {v:Value}
end

section
variable {cx:Cx} {n:Nat} {ds:List (Option Nat)} {R:Rg n ds} {its:List It} {fr:Fr} {C:Mem} {L:List Ent} {i k d:Nat} {o:Oper} {g:GL} {v:Value}
theorem D.quoT {t ty:Nat}{x y:Operand}{ki:IntKind}{p q:Int}(c:Int)(hk:Nat.ble k 1=true)(hd:o.dst=some d)(hop:o.op=.binOp .quo t x y ty)(hg:gOf ds fr o.guard=some g)(hx:ev fr g x=some (.int ki p))(hy:ev fr g y=some (.int ki q))
  (hq:0<q) (hc:p.tdiv q=c) (hr:ki.wrap c=c) (hp:aH n ds ((d,g,.int ki c)::fr) d=true) (hwf:wfG ds fr g=true)
  (h:D cx R its ((d,g,.int ki c)::fr) C L):D cx R ((i,k,o)::its) fr C L :=
 D.run _ hk hd hg (fun _ a hs w=>by
  rw [ba hop (hs _ _ hx) (hs _ _ hy) (fun _ _=>.inl (by simp)) (.inl (by simp)) w]
  have hq0:q≠0:=by omega
  simp [binOp,Op.intDiv,hq0,hc,hr]) hp hwf h
end

section
variable {F:Fx} {k:List KI} {fr:Fr} {C:Mem} {L:List Ent}
theorem G.rowForm {e:Exit}(j:Nat){v:Value}{t s m:Nat}{xs:List Value}(hj:L[j]?=some (.arr v t s (m+1) xs))(h:∀ g c,v=.slice (some ⟨g,0,none⟩) (m+1) c->G F k e fr C L):G F k e fr C L:=fun h0 a w ha hw=>by
 have hw':=St.perm hw (af hj)
 have hown:w.ownsRow 0 t s v (m+1) xs:=hw'.sep.e _ (List.mem_cons_self ..)
 rcases hown.2 with ⟨_,h1⟩ | ⟨g,cap,cur,h1,_⟩
 ·omega
 ·exact h g cap h1 h0 a w ha hw
end
end Go.Jog
namespace Go.Jog
open Go
section
variable {cx:Cx} {n:Nat} {ds:List (Option Nat)} {R:Rg n ds} {its:List It} {fr:Fr} {C:Mem} {L:List Ent} {i k d:Nat} {o:Oper} {g:GL} {v:Value}
end
end Go.Jog
namespace Go.Jog
open Go

def dK (ops:Array Oper):Bool:=ops.toList.all fun o=>match o.op with
 | .defer _=>false
 | _=>true
theorem noDefer_at {ops:Array Oper}(h:dK ops=true){i:Nat}{o:Oper}(ho:ops[i]?=some o):∀ c,o.op≠.defer c:=by
 intro c hc
 obtain ⟨h1,h2⟩:=Array.getElem?_eq_some_iff.1 ho
 have:=List.all_eq_true.1 h ops[i] (Array.getElem_mem_toList h1)
 rw [h2,hc] at this
 cases this

theorem oper_in {P:Program}{o:Oper}{a:Act}{w:World}{next:Act->World->Prop}{Q:Exit->Act->World->Prop}{l n:Nat}(hd:∀ c,o.op≠.defer c)(h:o.wp P a w next Q):o.wpIn (Fence.wide.inRound l) n P a w next Q:=by
 refine ⟨fun _ _=>trivial, ?_⟩
 show o.uponIn (Fence.wide.inRound l) n P a next Q ((o.semAt (some l) a.eval).run P w)
 rw [Oper.semAt_some l a.eval o hd]
 unfold Oper.wp at h
 revert h
 generalize (execOp a.eval o).run P w=r
 intro h
 cases r with
 | ok x w' =>
  cases x with
  | value v=>exact h
  | skip=>exact h
  | defer d=>exact h
  | enter f args=>exact ⟨(fun h=>(by cases h)),CallsIn.inRound l (callsIn_wide.2 h)⟩
  | row row args =>
   refine ⟨(fun h=>(by cases h)),fun c cs _=>?_⟩
   obtain ⟨v,w2,h1,h2⟩:=h c cs
   exact ⟨v,w2,h1,stepsIn_wide.2 h2⟩
  | _=>exact h.elim
 | halt x w' =>
  cases x <;> exact h

theorem wpOp_in {P:Program}{ops:Array Oper}{N:Act->World->Prop}{l n:Nat}{i:Nat}{K K':Act->World->Prop}{a:Act}{w:World}(hd:dK ops=true)(hk:∀ a w,K a w->K' a w)
  (h:wpOp P ops (QN N) i K a w):wpOpIn (Fence.wide.inRound l) n P ops (QN N) i K' a w:=by
 unfold wpOp at h
 unfold wpOpIn
 cases ho:ops[i]? with
 | none=>rw [ho] at h;exact hk _ _ h
 | some o =>
  rw [ho] at h
  simp only at h ⊢
  split
  ·rename_i hw
   rw [if_pos hw] at h
   rcases h with h | ⟨_,a',w',h⟩
   ·exact oper_in (noDefer_at hd ho) (Oper.wp_mono hk h)
   ·exact h.elim
  ·rename_i hw
   rw [if_neg hw] at h
   exact ⟨fun _ _=>trivial,hk _ _ h⟩
theorem wpOps_in {P:Program}{ops:Array Oper}{N:Act->World->Prop}{l n:Nat}(hd:dK ops=true):∀ (π:List Nat)(a:Act)(w:World),wpOps P ops (QN N) π a w->wpOpsIn (Fence.wide.inRound l) n P ops (QN N) π a w
 | [],_,_,h=>h
 | i::π,a,w,h=>by
  rw [wpOps_cons] at h
  rw [wpOpsIn_cons]
  exact wpOp_in hd (fun a w=>wpOps_in hd π a w) h
theorem wpAny_in {P:Program}{ops:Array Oper}{N:Act->World->Prop}{l n:Nat}{md:Region.Mode}(hd:dK ops=true):∀ (f:Nat)(ls:Array Bool)(a:Act)(w:World),wpAny P md ops (QN N) f ls a w->wpAnyIn (Fence.wide.inRound l) n P md ops (QN N) f ls a w
 | 0,_,_,_,h=>h
 | f+1,_ls,_a,_w,h=>⟨h.1,fun i hi=>wpOp_in hd (fun a w=>wpAny_in hd f _ a w) (h.2 i hi)⟩
end Go.Jog
namespace Go.Jog
open Go
structure RankTo (A:List Arc3)(n:Nat)(pre e:List Nat):Prop where
 len:e.length=n
 sound:∀ v,v<n->∃ u,Walk A (hAt e v) u v
 up:∀ a∈A,a.lo∈pre->hAt e a.lo+1<=hAt e a.up
theorem hAt_setB {l:List Nat}{u v x:Nat}(h:u<l.length):hAt (l.set u x) v=if v=u then x else hAt l v:=by
 unfold hAt
 simp only [List.getD_eq_getElem?_getD,List.getElem?_set]
 by_cases e:u=v
 ·subst e;simp [h]
 ·rw [if_neg e,if_neg (Ne.symm e)]
theorem RankTo.start {A:List Arc3}{n:Nat}:RankTo A n [] (List.replicate n 0):=by
 refine ⟨by simp,fun v hv=>⟨v, ?_⟩,fun a _ h=>by cases h⟩
 have:hAt (List.replicate n 0) v=0:=by simp [hAt,List.getD_eq_getElem?_getD,hv]
 rw [this];exact Walk.zero.2 rfl
theorem RankTo.step {A:List Arc3}{n:Nat}{pre e:List Nat}{a:Arc3}(h:RankTo A n pre e)(ha:a∈A)(hlo:a.lo<n)(hup:a.up<n)(hne:a.up≠a.lo)(hnp:a.up ∉ pre) :
  RankTo A n pre (e.set a.up (max (hAt e a.up) (hAt e a.lo+1)))/\hAt (e.set a.up (max (hAt e a.up) (hAt e a.lo+1))) a.lo=hAt e a.lo /\
   hAt e a.lo+1<=hAt (e.set a.up (max (hAt e a.up) (hAt e a.lo+1))) a.up/\∀ v,hAt e v<=hAt (e.set a.up (max (hAt e a.up) (hAt e a.lo+1))) v:=by
 have hl:=h.len
 have hs:∀ v,hAt (e.set a.up (max (hAt e a.up) (hAt e a.lo+1))) v=if v=a.up then max (hAt e a.up) (hAt e a.lo+1) else hAt e v:=fun v=>hAt_setB om_
 have hge:∀ v,hAt e v<=hAt (e.set a.up (max (hAt e a.up) (hAt e a.lo+1))) v:=fun v=>by
  rw [hs];split
  ·rename_i e1;subst e1;exact Nat.le_max_left _ _
  ·exact Nat.le_refl _
 refine ⟨⟨by simp [hl],fun v hv=>?_,fun b hb hbp=>?_⟩,by rw [hs,if_neg (Ne.symm hne)],by rw [hs,if_pos rfl];exact Nat.le_max_right _ _,hge⟩
 ·rw [hs]
  by_cases e1:v=a.up
  ·subst e1
   rw [if_pos rfl]
   rcases Nat.le_total (hAt e a.up) (hAt e a.lo+1) with h1 | h1
   ·rw [Nat.max_eq_right h1]
    obtain ⟨u,hu⟩:=h.sound a.lo hlo
    exact ⟨u,Walk.snoc.2 ⟨a,ha,rfl,hu⟩⟩
   ·rw [Nat.max_eq_left h1];exact h.sound _ hv
  ·rw [if_neg e1];exact h.sound v hv
 ·have h1:=h.up b hb hbp
  have h2:b.lo≠a.up:=fun e1=>hnp (e1 ▸ hbp)
  rw [hs b.lo,if_neg h2]
  exact Nat.le_trans h1 (hge _)
theorem RankTo.snoc {A:List Arc3}{n i:Nat}{pre e:List Nat}(h:RankTo A n pre e)(hi:∀ a∈nexts A i,hAt e i+1<=hAt e a.up):RankTo A n (pre++[i]) e :=
 ⟨h.len,h.sound,fun a ha hp=>by
  rcases List.mem_append.1 hp with h1 | h1
  ·exact h.up a ha h1
  ·have e1:=List.mem_singleton.1 h1
   have:=hi a (by unfold nexts;rw [List.mem_filter];exact ⟨ha,by simp [e1]⟩)
   rw [e1];exact this⟩
theorem RankTo.done {A:List Arc3}{n:Nat}{pre e:List Nat}(h:RankTo A n pre e)(hb:Below n A)(hall:∀ a∈A,a.lo∈pre){v:Nat}(hv:v<n):LongTo A v (hAt e v):=by
 refine ⟨h.sound v hv, ?_⟩
 intro k
 induction k generalizing v with
 | zero=>intro u _;omega
 | succ k ih =>
  intro u hw
  obtain ⟨a,ha,hu,hw2⟩:=Walk.snoc.1 hw
  subst hu
  have h1:=h.up a ha (hall a ha)
  have h2:=ih (hb a ha).1 _ hw2
  omega

end Go.Jog
namespace Go.Jog
open Go
section
variable {cx:Cx} {n:Nat} {ds:List (Option Nat)} {R:Rg n ds} {its:List It} {fr:Fr} {C:Mem} {L:List Ent} {i k d:Nat} {o:Oper} {g:GL} {v:Value}
theorem D.max {x y:Operand}{ts:Array TypeId}{p q:Int}{ki kj:IntKind}(c:Int)(hk:Nat.ble k 1=true)(hd:o.dst=some d)(hop:o.op=.call ⟨.builtin .max,#[x,y],ts⟩)(hg:gOf ds fr o.guard=some g)(hx:ev fr g x=some (.int ki p))(hy:ev fr g y=some (.int kj q))
  (hc:Max.max p q=c) (hp:aH n ds ((d,g,.int ki c)::fr) d=true) (hwf:wfG ds fr g=true)
  (h:D cx R its ((d,g,.int ki c)::fr) C L):D cx R ((i,k,o)::its) fr C L :=
 D.run _ hk hd hg (fun _ a hs w=>by
  have e1:execOp a.eval o=(do let dd <- resolve a.eval ⟨.builtin .max,#[x,y],ts⟩ o.type;invoke dd.target dd.args:Sem Next):=by unfold execOp;rw [hop]
  rw [e1]
  have hm:(if q > p then q else p)=c:=by rw [<- hc];by_cases hh:q > p <;> simp [hh] <;> omega
  simp [resolve,invoke,builtin,hs _ _ hx,hs _ _ hy,Builtin.max_,Builtin.max2,hm]) hp hwf h
theorem D.min {x y:Operand}{ts:Array TypeId}{p q:Int}{ki kj:IntKind}(c:Int)(hk:Nat.ble k 1=true)(hd:o.dst=some d)(hop:o.op=.call ⟨.builtin .min,#[x,y],ts⟩)(hg:gOf ds fr o.guard=some g)(hx:ev fr g x=some (.int ki p))(hy:ev fr g y=some (.int kj q))
  (hc:Min.min p q=c) (hp:aH n ds ((d,g,.int ki c)::fr) d=true) (hwf:wfG ds fr g=true)
  (h:D cx R its ((d,g,.int ki c)::fr) C L):D cx R ((i,k,o)::its) fr C L :=
 D.run _ hk hd hg (fun _ a hs w=>by
  have e1:execOp a.eval o=(do let dd <- resolve a.eval ⟨.builtin .min,#[x,y],ts⟩ o.type;invoke dd.target dd.args:Sem Next):=by unfold execOp;rw [hop]
  rw [e1]
  have hm:(if q<p then q else p)=c:=by rw [<- hc];by_cases hh:q<p <;> simp [hh] <;> omega
  simp [resolve,invoke,builtin,hs _ _ hx,hs _ _ hy,Builtin.min_,Builtin.min2,hm]) hp hwf h
end
end Go.Jog
namespace Go.Jog
open Go

def Cw.round (P:Program)(l n:Nat):Cw P where
 wp:=fun c Q a w=>c.wpIn (Fence.wide.inRound l) n P Q a w
 nd:=fun ops=>dK ops=true
 mono:=fun h q=>wpIn_mono q h
 skip:=wpIn_skip
 ret:=wpIn_ret
 exit:=wpIn_exit
 seq:=wpIn_seq
 block:=wpIn_block
 cond:=wpIn_cond_split
 loop:=wpIn_loop
 region:=fun hd h=>wpIn_mono (wpIn_region (wpOps_in hd _ _ _ h)) (fun e a w q=>by cases e <;> first | exact q | exact q.elim)
 any:=fun hm hd h=>wpIn_mono (wpIn_region_any hm (wpAny_in hd _ _ _ _ h)) (fun e a w q=>by cases e <;> first | exact q | exact q.elim)

theorem Kq_dd (F:Fx)(dd:List Deferred):∀ k,Kq { F with dd:=dd } k=Kq F k
 | []=>rfl
 | .code c::k=>by
  funext e a w
  cases e <;> simp only [Kq,Kq_dd F dd k]
 | .blk id::k=>by
  funext e a w
  cases e <;> simp only [Kq,Kq_dd F dd k]
 | .inv I::k=>by
  funext e a w
  cases e <;> simp only [Kq,Kq_dd F dd k]

def Iter (P:Program)(gf:FuncId)(lb:Array Value)(C:Mem)(vss:List (Value × Value)):Prop :=
 ∀ (l:Nat)(J:Nat->World->Prop)(W:World),
  (∀ k W,J k W->∀ b o,C b=some o->W.heap[b]?=some o)->(∀ k W,J k W->J k W.drew) ->
  (∀ k v W1,J k W1->vss[k]?=some v->YieldAt Fence.wide 1 P l #[v.1,v.2] W1 fun e W'=>e=.returned (.bool true)/\J (k+1) W') ->
  J 0 W->CallsIn Fence.wide 2 P gf (#[.func (.yield l) #[] #[]]++lb) W fun e W'=>(∃ v,e=.returned v)/\J vss.length W'

section
variable {F:Fx} {k:List KI} {fr:Fr} {C:Mem} {L:List Ent}
theorem St.putObj {w0:World}{C0:Mem}{L0:List Ent}{C:Mem}{L:List Ent}{w:World}{b:Nat}{o o':Obj}(h:St w0 C0 L0 C (.obj b o::L) w):St w0 C0 L0 C (.obj b o'::L) (w.putObj b o'):=by
 have hb:w.heap[b]?=some o:=h.sep.e _ (List.mem_cons_self ..)
 exact St.put h (World.putObj_heap_same (Array.getElem?_eq_some_iff.1 hb).1) (fun k hk=>World.putObj_heap_other hk) (World.putObj_size) rfl rfl rfl (Nat.le_refl _)

theorem G.asIn {cx:Cx}{fn:Func}{n l:Nat}{b:Bs}{post:Value->Mem->List Ent->Prop}{last:Exit->Act->World->Prop}{c:Code}(h:G ⟨cx,fn,n,b,post,Cw.round cx.P l 1,[],last⟩ (norm 64 [.code c]) .normal fr C L)
  (hle:b.C0.le C) {a:Act} {w:World} (ha:FrOk n [] [] fr a) (hw:b.cls (C,L) w):c.wpIn (Fence.wide.inRound l) 1 cx.P last a w:=by
 have:=G.bm 64 h hle a w ha hw
 simp only [Kq] at this
 exact wpIn_mono this (fun e a w q=>by cases e <;> exact q)

theorem G.rangeFunc {g:Operand}{p0 p1:Nat}{assign body:Code}{gf:FuncId}{lb:Array Value}{vss:List (Value × Value)}(hW:F.W=Cw.plain F.cx.P)(hd0:F.dd=[])
  (hg:ev fr [] g=some (.func (.func gf) #[] lb)) (hen:Enters F.cx.P gf=true) (hseq:Iter F.cx.P gf lb C vss) (I:Nat->List Ent->Prop) (h0:I 0 L) (_hp:fr.all (fun x=>x.2.1.isEmpty)=true)
  (hok:∀ u v,(aH F.n [] ((p0,[],u)::fr) p0 && aH F.n [] ((p1,[],v)::(p0,[],u)::fr) p1)=true) (frb:Value->Value->Fr)
  (hassign:∀ l u v W1 L',G ⟨F.cx,F.fn,F.n,⟨W1,C,L'⟩,F.post,Cw.round F.cx.P l 1,[],fun e a w'=>e=.normal/\FrOk F.n [] [] (frb u v) a/\St W1 C L' C L' w'⟩ (norm 64 [.code assign]) .normal ((p1,[],v)::(p0,[],u)::fr) C L')
  (hbody:∀ l j u v L' W1,I j L'->vss[j]?=some (u,v) ->
   G ⟨F.cx,F.fn,F.n,⟨W1,C,L'⟩,F.post,Cw.round F.cx.P l 1,[],fun e _ w'=>e=.normal/\∃ L1,I (j+1) L1/\St W1 C L' C L1 w'⟩ (norm 64 [.code body]) .normal (frb u v) C L')
  (hdone:∀ D L',I vss.length L'->G { F with dd:=[{ target:=.collected D,args:=#[] }] } (norm 64 k) .normal fr C (.obj D (.deferred (some []))::L')) :
  G F (.code (.rangeFunc g #[p0,p1] assign body)::k) .normal fr C L:=fun hle a w ha hw=>by
 simp only [Kq,hW]
 show (Code.rangeFunc g #[p0,p1] assign body).wp F.cx.P (Kq F k) a w
 refine (wpIn_wide (n:=3)).1 (wpIn_rangeFunc fun fn _=>?_)
 have hga:a.eval g=.func (.func gf) #[] lb:=aT ha (fun p hp=>by cases hp) hg
 have hdef:a.defers=[]:=ha.defers.trans hd0
 obtain ⟨rec,hrec⟩:∃ rec:LoopState->Loop,rec=fun st=>{ state:=st,pending:=none,fn,tmps:=a.tmps,params:=#[p0,p1],assign,body,defers:=w.heap.size }:=⟨_,rfl⟩
 obtain ⟨W1,hW1⟩:∃ W1,(w.alloc (.deferred (some []))).alloc (.loop (rec .ready))=W1:=⟨_,rfl⟩
 have hS1:St F.b.w0 F.b.C0 F.b.L0 C (.obj (w.heap.size+1) (.loop (rec .ready))::.obj w.heap.size (.deferred (some []))::L) W1:=by
  have:=St.alloc (St.alloc hw (.deferred (some []))) (.loop (rec .ready))
  rw [World.size_alloc] at this
  rw [<- hW1];exact this
 refine ⟨w.heap.size+1,[{ target:=.collected w.heap.size,args:=#[] }],W1,{ target:=.fn (.func gf) lb,args:=#[.func (.yield (w.heap.size+1)) #[] #[]] },W1,gf,
  #[.func (.yield (w.heap.size+1)) #[] #[]]++lb,W1, ?_, ?_,fun _ _=>trivial, ?_,fun _=>by decide, ?_⟩
 ·rw [<- hW1,hrec];exact run_enterLoop_outer _ _ _ _ _
 ·simp only [resolve,hga]
  simp [go_sem]
 ·simp [invoke,go_sem,run_callFunc hen]
 ·refine (hseq (w.heap.size+1) (fun j W=>∃ L',I j L'/\St F.b.w0 F.b.C0 F.b.L0 C (.obj (w.heap.size+1) (.loop (rec .ready))::.obj w.heap.size (.deferred (some []))::L') W) W1
   (fun j W ⟨L',_,hs⟩=>hs.sep.c) (fun j W ⟨L',hi,hs⟩=>⟨L',hi,hs.drew⟩) ?_ ⟨L,h0,hS1⟩).mono ?_
  ·rintro j ⟨u,v⟩ W ⟨L',hi,hs⟩ hj
   have hl:W.heap[w.heap.size+1]?=some (.loop (rec .ready)):=hs.sep.e _ (List.mem_cons_self ..)
   have hy:=run_yield (P:=F.cx.P) (args:=#[u,v]) hl (by rw [hrec];rfl)
   rw [hrec] at hy
   have hz:(#[p0,p1].zip #[u,v]).foldl (fun tmps (x:Nat × Value)=>match x with | (t,a)=>tmps.setIfInBounds t a) a.tmps=(a.tmps.setIfInBounds p0 u).setIfInBounds p1 v:=by simp
   dsimp only at hy
   rw [hz] at hy
   refine ⟨fn,_,assign,body,hy,roundIn_of_wpIn trivial ?_⟩
   have hfr:FrOk F.n [] [] ((p1,[],v)::(p0,[],u)::fr) { tmps:=(a.tmps.setIfInBounds p0 u).setIfInBounds p1 v,defers:=[] }:=by
    have hk:=hok u v
    rw [Bool.and_eq_true] at hk
    have h1:=FrOk.put (u:=u) (FrOk.mk (dd:=[]) ha.size hdef ha.ent:FrOk F.n [] [] fr a) hk.1 ⟨fun _=>rfl,fun hn=>absurd (fun p hp=>by cases hp) hn⟩
    have h2:=FrOk.put (u:=v) h1 hk.2 ⟨fun _=>rfl,fun hn=>absurd (fun p hp=>by cases hp) hn⟩
    exact ⟨h2.size,rfl,h2.ent⟩
   have hA:=G.asIn (hassign (w.heap.size+1) u v W _) (Mem.le.refl _) hfr (St.start hs.sep)
   refine wpIn_mono hA (fun e a1 W2 q=>?_)
   obtain ⟨rfl,hfr1,hs1⟩:=q
   have hs2:=St.call (Lr:=[]) (by rw [List.append_nil];exact hs) hs1
   rw [List.append_nil] at hs2
   have hl2:W2.heap[w.heap.size+1]?=some (.loop (rec .ready)):=hs2.sep.e _ (List.mem_cons_self ..)
   refine ⟨_,run_beginRound hl2 (by rw [hrec]), ?_⟩
   have hs3:St F.b.w0 F.b.C0 F.b.L0 C (.obj (w.heap.size+1) (.loop (rec .busy))::.obj w.heap.size (.deferred (some []))::L') (W2.putObj (w.heap.size+1) (.loop { rec .ready with state:=.busy })):=by
    have:=St.putObj (o':=.loop { rec .ready with state:=.busy }) hs2
    rw [hrec] at this ⊢
    exact this
   have hB:=G.asIn (hbody (w.heap.size+1) j u v L' (W2.putObj (w.heap.size+1) (.loop { rec .ready with state:=.busy })) hi hj) (Mem.le.refl _) hfr1 (St.start hs3.drop.drop.sep)
   refine wpIn_mono hB (fun e a2 W4 q=>?_)
   obtain ⟨rfl,L1,hi1,hs4⟩:=q
   have hs5:=St.call (Lp:=L') (Lr:=[.obj (w.heap.size+1) (.loop (rec .busy)),.obj w.heap.size (.deferred (some []))]) (St.perm hs3 (List.perm_append_comm (l₁:=[_,_]))) hs4
   have hs6:St F.b.w0 F.b.C0 F.b.L0 C (.obj (w.heap.size+1) (.loop (rec .busy))::.obj w.heap.size (.deferred (some []))::L1) W4:=St.perm hs5 (List.perm_append_comm (l₂:=[_,_]))
   have hl4:W4.heap[w.heap.size+1]?=some (.loop (rec .busy)):=hs6.sep.e _ (List.mem_cons_self ..)
   refine ⟨_,_,run_endRound none hl4,rfl,L1,hi1, ?_⟩
   have:=St.putObj (o':=.loop { rec .busy with state:=if (none:Option Code).isNone then .ready else .done,pending:=none }) hs6
   rw [hrec] at this ⊢
   exact this
  ·rintro e W2 ⟨⟨v,rfl⟩,L',hi,hs⟩
   have hl:W2.heap[w.heap.size+1]?=some (.loop (rec .ready)):=hs.sep.e _ (List.mem_cons_self ..)
   refine ⟨none,_,by have:=run_endLoop (P:=F.cx.P) hl (by rw [hrec];simp);rw [hrec] at this;exact this, ?_⟩
   have hs2:St F.b.w0 F.b.C0 F.b.L0 C (.obj w.heap.size (.deferred (some []))::L') (W2.putObj (w.heap.size+1) (.loop { rec .ready with state:=.exhausted })):=(St.putObj hs).drop
   have:=G.bm 64 (hdone w.heap.size L' hi) hle { a with defers:=[{ target:=.collected w.heap.size,args:=#[] }]++a.defers } _ ⟨ha.size,by rw [hdef];rfl,ha.ent⟩ hs2
   rw [Kq_dd] at this
   rw [hrec] at this
   exact this

theorem G.roundEnd {cx:Cx}{fn:Func}{n:Nat}{W1:World}{C C':Mem}{L' L1 L2:List Ent}{post:Value->Mem->List Ent->Prop}{W:Cw cx.P}{R:List Ent->Prop}(hp:L1.Perm L2)(h:R L2) :
  G ⟨cx,fn,n,⟨W1,C,L'⟩,post,W,[],fun e _ w'=>e=.normal/\∃ L1,R L1/\St W1 C L' C L1 w'⟩ [] .normal fr C' L1:=fun hle _ _ _ hw =>
 ⟨rfl,L2,h,St.less (St.perm hw hp) (Mem.le.refl _) hle⟩
theorem G.ff {cx:Cx}{fn:Func}{n:Nat}{W1:World}{C C':Mem}{L':List Ent}{post:Value->Mem->List Ent->Prop}{W:Cw cx.P}{fr':Fr}(hs:Has fr fr') :
  G ⟨cx,fn,n,⟨W1,C,L'⟩,post,W,[],fun e a w'=>e=.normal/\FrOk n [] [] fr' a/\St W1 C L' C L' w'⟩ [] .normal fr C' L':=fun hle _ _ ha hw =>
 ⟨rfl,ha.weaken hs.sub,St.less hw (Mem.le.refl _) hle⟩

theorem Fn.introM {cx:Cx}{f:FuncId}{fn:Func}{c:Code}{args:List Value}{C:Mem}{L:List Ent}{post:Value->Mem->List Ent->Prop}(hen:Enters cx.P f=true)(hf:cx.P.funcs[f]?=some fn)(hb:fn.body=some c)
  (n:Nat) (hnt:fn.ntmps=n) (hn:Nat.ble args.length n=true)
  (h:∀ w0,G ⟨cx,fn,n,⟨w0,C,L⟩,post,Cw.plain cx.P,[],bodyPostM Fence.wide 3 cx.P fn (finOf ⟨w0,C,L⟩ post)⟩ (norm 64 [.code c]) .normal (args0 args 0) C L):Fn cx.P f args C L post:=by
 subst hnt
 refine ⟨hen,fun w hw=>callsIn_wide.1 (callsIn_of_wp_marks (n:=3) hf hb trivial ?_)⟩
 rw [Nat.ble_eq] at hn
 have:=G.bm 64 (h w) (Mem.le.refl _) { tmps:=args.toArray++Array.replicate (fn.ntmps-args.toArray.size) undef,defers:=[] } w
  ⟨by simp;omega,rfl,fun s g v hg=>by
   obtain ⟨rfl,_,hv⟩:=args0_get hg
   refine ⟨fun _=>?_,fun hn=>absurd (fun p hp=>by cases hp) hn⟩
   simp only [Nat.sub_zero] at hv
   have hlt:=(List.getElem?_eq_some_iff.1 hv).1
   simp only [Array.getElem?_append,List.size_toArray,hlt,if_true,List.getElem?_toArray]
   exact hv⟩ (St.start hw)
 simp only [Kq] at this
 refine wpIn_wide.2 (Code.wp_mono (fun e a w q=>?_) this)
 cases e <;> exact q

theorem endsM {cx:Cx}{fn:Func}{n:Nat}{b:Bs}{post:Value->Mem->List Ent->Prop}:(⟨cx,fn,n,b,post,Cw.plain cx.P,[],bodyPostM Fence.wide 3 cx.P fn (finOf b post)⟩:Fx).ends:=by
 refine ⟨fun e a w h=>?_,rfl⟩
 cases e with
 | normal=>obtain ⟨h1,h2⟩:=h;show LeavesInM _ _ _ _ _ _ a.defers _ _;rw [h1];exact h2
 | ret=>obtain ⟨h1,h2⟩:=h;show LeavesInM _ _ _ _ _ _ a.defers _ _;rw [h1];exact h2
 | panic c=>obtain ⟨h1,h2⟩:=h;show LeavesInM _ _ _ _ _ _ a.defers _ _;rw [h1];exact h2
 | outgrown=>exact h
 | exit id=>exact h
 | goto l=>exact h

theorem G.finM {cx:Cx}{fn:Func}{n D:Nat}{b:Bs}{post:Value->Mem->List Ent->Prop}{v:Value}
  (hr:∀ a w,FrOk n [] [{ target:=.collected D,args:=#[] }] fr a->St b.w0 b.C0 b.L0 C L w->(results fn a.tmps).run cx.P w=.ok v w) (h:post v C []) :
  G ⟨cx,fn,n,b,post,Cw.plain cx.P,[{ target:=.collected D,args:=#[] }],bodyPostM Fence.wide 3 cx.P fn (finOf b post)⟩ [] .ret fr C (.obj D (.deferred (some []))::L):=fun hle a w ha hw=>by
 show LeavesInM _ _ _ _ _ _ a.defers _ _
 rw [ha.defers]
 have hD:w.heap[D]?=some (.deferred (some [])):=hw.sep.e _ (List.mem_cons_self ..)
 have hs:=(St.putObj (o':=.deferred none) hw).drop
 exact ⟨by simp,.inl ⟨D,_,rfl,run_takeDeferred hD,v,hr a _ ha hs,v,C,[],rfl,St.dropAll hs,h⟩⟩

theorem G.finR {v:Value}(hr:∀ a w,FrOk F.n [] F.dd fr a->St F.b.w0 F.b.C0 F.b.L0 C L w->(results F.fn a.tmps).run F.cx.P w=.ok v w)(h:F.post v C [])(he:F.ends):G F [] .ret fr C L:=fun _ a w ha hw =>
 he.kq (bodyPost_ret (v:=v) (hr a w ha hw) (ha.defers.trans he.2) ⟨v,C,[],rfl,St.dropAll hw,h⟩)
end
end Go.Jog
namespace Go.Jog
open Go

section
variable {F:Fx} {k:List KI} {fr:Fr} {C:Mem} {L:List Ent}
theorem res_t1 {cx:Cx}{fn:Func}{n r:Nat}{dd:List Deferred}{w0:World}{C0:Mem}{L0:List Ent}{x:Value}(hres:fn.results=#[.tmp r])
  (hr:ev fr [] (.tmp r)=some x) :
  ∀ a w,FrOk n [] dd fr a->St w0 C0 L0 C L w->(results fn a.tmps).run cx.P w=.ok x w:=fun a w ha _=>by
 have hr':=aT ha (fun p hp=>by cases hp) hr
 simp only [Act.eval,Array.getD_eq_getD_getElem?] at hr'
 simp [results,hres,hr']
end
theorem Fn.give {P:Program}{f:FuncId}{args:List Value}{C:Mem}{L:List Ent}{v:Value}{t size len:Nat}(rows:List (List Value)){post:Value->Mem->List Ent->Prop}(hen:Enters P f=true)(hl:∀ r∈rows,r.length=size)(hn:rows.length=len)
  (h:∀ C',C.le C'->Sl C' size v rows->Fn P f args C' L post):Fn P f args C (.arr v t size len rows.flatten::L) post :=
 ⟨hen,fun w hw=>by
  obtain ⟨C1,h1,h2,h3⟩:=St.freezeArr (St.start hw) hl hn
  refine ((h C1 h1 h2).2 w h3.sep).mono fun e w' ⟨u,C',L',e1,hs,hq⟩=>⟨u,C',L',e1, ?_,hq⟩
  have:=St.call (Lp:=L) (Lr:=[]) (by rw [List.append_nil];exact h3) hs
  rwa [List.append_nil] at this⟩
end Go.Jog
namespace Go.Proofs.YtjhmlnebikbdbaaGreatDoor
open Go Go.Jog
set_option maxRecDepth 100000

theorem add32_fn (C:Mem)(x y c:Nat)(hx:x<B32)(hy:y<B32)(hc:c<=1):Gives cx.P 118 [.int .u32 x,.int .u32 y,.int .u32 c] C (.tuple #[.int .u32 ((x+y+c) % B32:Nat),.int .u32 ((x+y+c) / B32:Nat)]):=by
 have hB:B32=4294967296:=rfl
 refine Fn.it kr_ Tryz.func118 22 fun w0=>?_
 refine G.z3 2 0 1 2 ?_
 refine G.rp 1 fun R hR=>?_
 refine D.bL (c:=(x:Int)) rfl rfl rfl rfl rfl rfl rfl rfl (by rw [IntKind.wrap_u64];omega) fl_ ?_
 refine D.ae ?_
 refine D.bL (c:=(y:Int)) rfl rfl rfl rfl rfl rfl rfl rfl (by rw [IntKind.wrap_u64];omega) fl_ ?_
 refine D.int (((x+y:Nat):Int)) rfl rfl rfl rfl (by rw [IntKind.wrap_u64];omega) rfl rfl ?_
 refine D.ae ?_
 refine D.bL (c:=(c:Int)) rfl rfl rfl rfl rfl rfl rfl rfl (by rw [IntKind.wrap_u64];omega) fl_ ?_
 refine D.int (((x+y+c:Nat):Int)) rfl rfl rfl rfl (by rw [IntKind.wrap_u64];omega) rfl rfl ?_
 refine D.q1 1 8 hR ?_;clear hR R
 refine G.rp 1 fun R hR=>?_
 refine D.bL (c:=(((x+y+c) % B32:Nat):Int)) rfl rfl rfl rfl rfl rfl rfl rfl (by rw [IntKind.wrap_u32];show _=(((x+y+c) % 4294967296:Nat):Int);omega) fl_ ?_
 refine D.q2 1 6 8 hR ?_;clear hR R
 refine G.rp 1 fun R hR=>?_
 refine D.shrU ((x+y+c)) (32) rfl rfl rfl rfl rfl rfl rfl rfl om_ rfl rfl ?_
 refine D.bL (c:=(((x+y+c) / B32:Nat):Int)) rfl rfl rfl rfl rfl rfl rfl rfl (by rw [IntKind.wrap_u32,show (2:Nat) ^ 32=4294967296 from rfl];show _=(((x+y+c) / 4294967296:Nat):Int);omega) fl_ ?_
 refine D.q2 1 6 7 hR ?_;clear hR R
 refine G.aA (G.dropAll (G.bg rfl rfl rfl ?_))
 exact ⟨rfl,rfl⟩
theorem trimO_fn (C:Mem)(v:Value)(l:List Nat){n:Nat}(hn:l.length=n):Jog.Fn cx.P 112 [v] C [.arr v 169 1 n (l.map encW).flatten] fun u C' L'=>L'=[]/\Sl C' 1 u ((trimD l).map encW) :=
 Jog.Fn.give (l.map encW) kr_ (by intro r hr;obtain ⟨y,_,rfl⟩:=List.mem_map.1 hr;rfl) (by rw [List.length_map,hn]) (fun C' _ hs=>trim_fn C' v l hs)
theorem nadd_fn (C:Mem)(va vb:Value)(a b:List Nat)(ha:Sl C 1 va (a.map encW))(hb:Sl C 1 vb (b.map encW))(hda:DigD a)(hdb:DigD b)(hla:a.length<=100000000)(hlb:b.length<=100000000) :
  Pur cx.P 74 [va,vb] C fun u C'=>NatC C' u (valD a+valD b):=by
 obtain ⟨A0,c0,rfl,_⟩:=id ha
 obtain ⟨B0,d0,rfl,_⟩:=id hb
 simp only [List.length_map] at ha hb ⊢
 refine Fn.it kr_ Tryz.func74 54 fun w0=>?_
 refine G.z2 1 0 1 ?_
 refine G.z3 5 0 1 15 ?_
 refine G.bH (fun fr C' L' μ=>∃ (la lb:List Nat)(A:Option Addr)(c:Nat)(B:Option Addr)(d:Nat),(Sl C' 1 (.slice A la.length c) (la.map encW)/\Sl C' 1 (.slice B lb.length d) (lb.map encW)/\lb.length<=la.length/\valD la+valD lb=valD a+valD b/\DigD la/\DigD lb/\la.length<=100000000)/\fr=[(0,[],.slice A la.length c),(1,[],.slice B lb.length d)]/\L'=[]) ?_ (fun fr C15 L15 μ hle15 hI=>?_)
 ·refine G.cd (fun h15=>?_) fun h15=>?_
  ·have h15':a.length<b.length:=by
    have:(a.length:Int)<b.length:=by simpa using h15
    omega
   refine G.z2 4 0 1 ?_
   refine G.ay 0 (Mem.le.refl _) (h_2 0 1) ⟨b,a,_,_,_,_,⟨hb.mono mup,ha.mono mup,by omega,by omega,hdb,hda,hlb⟩,rfl,rfl⟩
  ·have h15':¬ a.length<b.length:=fun h=>by
    have:(a.length:Int)<b.length:=by omega
    simp [this] at h15
   refine G.ay 0 (Mem.le.refl _) (h_2 0 1) ⟨a,b,_,_,_,_,⟨ha.mono mup,hb.mono mup,by omega,rfl,hda,hdb,hla⟩,rfl,rfl⟩
 ·obtain ⟨la ,lb ,A ,c ,B ,d,⟨hsa,hsb,hll,hvv,hdla,hdlb,hla8⟩,rfl,rfl⟩:=hI
  refine G.rp 2 fun R hR=>?_
  refine D.ax _ ?_
  refine D.a8 rfl rfl rfl rfl rfl rfl rfl rfl rfl (Nat.zero_le _) (by show 4*(la.length+1)<=281474976710656;omega) (by simp only [maxLen];omega) fl_ (fun b21=>?_)
  refine D.q3 1 0 1 5 hR ?_
  refine G.z4 1 0 1 5 6 ?_
  refine G.z6 3 1 5 6 22 23 24 ?_
  refine G.loop (fun fr C' L' μ=>∃ (i:Nat)(out:List Nat)(cy:Nat)(w:Value),(i<=la.length/\out.length=i/\DigD out/\cy<=1/\valD out+B32 ^ i*cy=valD (la.take i)+valD (lb.take i))/\fr=[(1,[],.slice B lb.length d),(5,[],w),(6,[],.int .u32 cy),(22,[],.slice A la.length c),(23,[],.int .i64 la.length),(24,[],.int .i64 i)]/\L'=[.arr w 169 1 i (out.map encW).flatten]/\μ=la.length-i) (h_6 1 5 6 22 23 24) ⟨0,[],0,_,⟨Nat.zero_le _,rfl,(fun x hx=>(by cases hx)),by omega,rfl⟩,rfl,rfl,rfl⟩ (fun fr C0' L0' m hle0 hI=>?_)
  obtain ⟨i,out,cy,w,⟨hi,hol,hod,hcy,hval⟩,rfl,rfl,rfl⟩:=hI
  refine G.z7 1 1 5 6 22 23 24 25 ?_
  refine G.cd (fun h25=>?_) fun h25=>?_
  ·have hil:i<la.length:=by simpa using h25
   have hra:(la.map encW)[i]?=some (encW (gD la i)):=by rw [List.getElem?_map,List.getElem?_eq_getElem hil,dz (List.getElem?_eq_getElem hil)];rfl
   refine G.rp 1 fun R hR=>?_
   refine D.ai (hsa.mono mup) rfl rfl rfl rfl rfl rfl rfl rfl rfl rfl om_ hra fl_ (fun p27 hp27=>?_)
   refine D.aa hp27 ?_
   refine D.q8 2 1 5 6 7 8 22 23 24 hR ?_
   refine G.z9 1 1 5 6 7 8 9 22 23 24 ?_
   refine G.z10 4 1 5 6 7 8 9 22 23 24 32 ?_
   refine G.bH (fun fr C' L' μ=>(True)/\fr=[(1,[],.slice B lb.length d),(5,[],w),(6,[],.int .u32 cy),(8,[],.int .u32 (gD la i)),(9,[],.int .u32 (gD lb i)),(22,[],.slice A la.length c),(23,[],.int .i64 la.length),(24,[],.int .i64 i)]/\L'=[.arr w 169 1 i (out.map encW).flatten]) ?_ (fun fr C32 L32 μ hle32 hI=>?_)
   ·refine G.cd (fun h32=>?_) fun h32=>?_
    ·have hib:i<lb.length:=by simpa using h32
     have hrb:(lb.map encW)[i]?=some (encW (gD lb i)):=by rw [List.getElem?_map,List.getElem?_eq_getElem hib,dz (List.getElem?_eq_getElem hib)];rfl
     refine G.rp 2 fun R hR=>?_
     refine D.ai (hsb.mono mup) rfl rfl rfl rfl rfl rfl rfl rfl rfl rfl om_ hrb fl_ (fun p35 hp35=>?_)
     refine D.aa hp35 ?_
     refine D.q8 1 1 5 6 8 9 22 23 24 hR ?_
     refine G.ay 0 (Mem.le.refl _) (h_8 1 5 6 8 9 22 23 24) ⟨trivial,rfl,rfl⟩
    ·have hz:gD lb i=0:=by
      have h:¬ i<lb.length:=by simpa using h32
      unfold gD
      rw [List.getD_eq_getElem?_getD,List.getElem?_eq_none om_];rfl
     refine G.ay 0 (Mem.le.refl _) (h_8 1 5 6 8 9 22 23 24) ⟨trivial,by rw [hz];rfl,rfl⟩
   ·obtain ⟨htr,rfl,rfl⟩:=hI
    refine G.z8 1 1 5 6 8 9 22 23 24 ?_
    refine G.rp 3 fun R hR=>?_
    refine D.am (add32_fn _ (gD la i) (gD lb i) cy (gD_lt hdla i) (gD_lt hdlb i) hcy) ?_
    refine D.q7 5 1 5 6 10 22 23 24 hR ?_
    refine G.rp 2 fun R hR=>?_
    refine D.ah [encW ((gD la i+gD lb i+cy) % B32)] (fun p46 C46 hle46 hs46=>?_)
    refine D.append (j:=0) rfl rfl rfl rfl rfl rfl rfl rfl rfl rfl rfl hs46 rfl (by simp only [List.length_singleton,maxLen];omega) (by show (i+1)*4<=_;omega) fl_ (fun v47=>?_)
    refine D.q6 1 1 5 6 22 23 24 hR ?_
    refine G.rg fun R hR=>?_
    refine D.ax _ ?_
    refine D.q6 1 1 5 6 22 23 24 hR ?_
    refine G.bv (L':=[.arr v47 169 1 (i+1) ((out++[(gD la i+gD lb i+cy) % B32]).map encW).flatten]) (by simp [encW]) ?_
    refine G.aB (m':=la.length-(i+1)) om_ mup (h_6 1 5 6 22 23 24) ⟨i+1,out++[(gD la i+gD lb i+cy) % B32],(gD la i+gD lb i+cy) / B32,v47,⟨by omega,by simp [hol],hod.snoc (Nat.mod_lt _ (by decide)),carry_le (gD_lt hdla i) (gD_lt hdlb i) hcy,add_step hol hval⟩,rfl,rfl,rfl⟩
  ·have hil:i=la.length:=by
    have:¬ i<la.length:=by simpa using h25
    omega
   refine G.aS [(4,3)] rfl (fun R hR=>?_)
   refine D.ps 2 ?_
   refine D.ah [encW cy] (fun p51 C51 hle51 hs51=>?_)
   refine D.append (j:=0) rfl rfl rfl rfl rfl rfl rfl rfl rfl rfl rfl hs51 rfl (by simp only [List.length_singleton,maxLen];omega) (by show (i+1)*4<=_;omega) fl_ (fun v52=>?_)
   refine D.call (trimO_fn _ _ (out++[cy]) (n:=i+1) (by simp [hol])) rfl (.inr (by decide)) rfl rfl rfl rfl rfl rfl (by rw [List.map_append,List.flatten_append];exact List.Perm.refl _) fl_ (fun v53 C53 L53 hle53 hq53=>?_)
   obtain ⟨rfl,hu⟩:=hq53
   refine D.q1 1 4 hR ?_
   refine G.rf ?_
   refine ⟨rfl,trimD (out++[cy]),dR (hod.snoc (Nat.lt_of_le_of_lt hcy (by decide))), ?_,hu⟩
   rw [dQ,valD_snoc,hol,hval,hil,List.take_length,List.take_of_length_le hll,hvv]
end Go.Proofs.YtjhmlnebikbdbaaGreatDoor
namespace Go.Jog
open Go
theorem ofInt_W {a:Nat}(ha:a<4294967296):(BitVec.ofInt 32 (a:Int)).toNat=a:=by
 rw [BitVec.ofInt_natCast,BitVec.toNat_ofNat];exact Nat.mod_eq_of_lt om_
theorem bits_and_W (a b:Nat)(ha:a<4294967296)(hb:b<4294967296):IntKind.u32.wrap ((BitVec.ofInt 32 (a:Int) &&& BitVec.ofInt 32 (b:Int)).toNat:Int)=((a &&& b:Nat):Int):=by
 have hx:a &&& b<2 ^ 32:=Nat.and_lt_two_pow _ om_
 rw [BitVec.toNat_and,ofInt_W ha,ofInt_W hb,IntKind.wrap_u32]
 omega
theorem bits_or_W (a b:Nat)(ha:a<4294967296)(hb:b<4294967296):IntKind.u32.wrap ((BitVec.ofInt 32 (a:Int) ||| BitVec.ofInt 32 (b:Int)).toNat:Int)=((a ||| b:Nat):Int):=by
 have hx:a ||| b<2 ^ 32:=Nat.or_lt_two_pow om_ om_
 rw [BitVec.toNat_or,ofInt_W ha,ofInt_W hb,IntKind.wrap_u32]
 omega
theorem bits_xor_W (a b:Nat)(ha:a<4294967296)(hb:b<4294967296):IntKind.u32.wrap ((BitVec.ofInt 32 (a:Int) ^^^ BitVec.ofInt 32 (b:Int)).toNat:Int)=((a ^^^ b:Nat):Int):=by
 have hx:a ^^^ b<2 ^ 32:=Nat.xor_lt_two_pow om_ om_
 rw [BitVec.toNat_xor,ofInt_W ha,ofInt_W hb,IntKind.wrap_u32]
 omega
section
variable {cx:Cx} {n:Nat} {ds:List (Option Nat)} {R:Rg n ds} {its:List It} {fr:Fr} {C:Mem} {L:List Ent} {i k d:Nat} {o:Oper} {g:GL}
theorem D.andW (a b:Nat){t ty:Nat}{x y:Operand}{p q:Int}(hk:Nat.ble k 1=true)(hd:o.dst=some d)(hop:o.op=.binOp .and t x y ty)(hg:gOf ds fr o.guard=some g)(hx:ev fr g x=some (.int .u32 p))(hy:ev fr g y=some (.int .u32 q))
  (hpa:p=a) (hqb:q=b) (ha:a<4294967296) (hb:b<4294967296) (hp:aH n ds ((d,g,.int .u32 ((a &&& b:Nat):Int))::fr) d=true) (hwf:wfG ds fr g=true)
  (h:D cx R its ((d,g,.int .u32 ((a &&& b:Nat):Int))::fr) C L):D cx R ((i,k,o)::its) fr C L :=
 D.run _ hk hd hg (fun _ A hs w=>by
  subst hpa hqb
  rw [ba hop (hs _ _ hx) (hs _ _ hy) (fun _ _=>.inl (by simp)) (.inl (by simp)) w]
  have e:IntKind.u32.wrap ((BitVec.ofInt 32 (a:Int) &&& BitVec.ofInt 32 (b:Int)).toNat:Int)=((a &&& b:Nat):Int):=bits_and_W a b ha hb
  simp [binOp,Op.intBits,IntKind.bits]
  exact e) hp hwf h
theorem D.orW (a b:Nat){t ty:Nat}{x y:Operand}{p q:Int}(hk:Nat.ble k 1=true)(hd:o.dst=some d)(hop:o.op=.binOp .or t x y ty)(hg:gOf ds fr o.guard=some g)(hx:ev fr g x=some (.int .u32 p))(hy:ev fr g y=some (.int .u32 q))
  (hpa:p=a) (hqb:q=b) (ha:a<4294967296) (hb:b<4294967296) (hp:aH n ds ((d,g,.int .u32 ((a ||| b:Nat):Int))::fr) d=true) (hwf:wfG ds fr g=true)
  (h:D cx R its ((d,g,.int .u32 ((a ||| b:Nat):Int))::fr) C L):D cx R ((i,k,o)::its) fr C L :=
 D.run _ hk hd hg (fun _ A hs w=>by
  subst hpa hqb
  rw [ba hop (hs _ _ hx) (hs _ _ hy) (fun _ _=>.inl (by simp)) (.inl (by simp)) w]
  have e:IntKind.u32.wrap ((BitVec.ofInt 32 (a:Int) ||| BitVec.ofInt 32 (b:Int)).toNat:Int)=((a ||| b:Nat):Int):=bits_or_W a b ha hb
  simp [binOp,Op.intBits,IntKind.bits]
  exact e) hp hwf h
theorem D.xorW (a b:Nat){t ty:Nat}{x y:Operand}{p q:Int}(hk:Nat.ble k 1=true)(hd:o.dst=some d)(hop:o.op=.binOp .xor t x y ty)(hg:gOf ds fr o.guard=some g)(hx:ev fr g x=some (.int .u32 p))(hy:ev fr g y=some (.int .u32 q))
  (hpa:p=a) (hqb:q=b) (ha:a<4294967296) (hb:b<4294967296) (hp:aH n ds ((d,g,.int .u32 ((a ^^^ b:Nat):Int))::fr) d=true) (hwf:wfG ds fr g=true)
  (h:D cx R its ((d,g,.int .u32 ((a ^^^ b:Nat):Int))::fr) C L):D cx R ((i,k,o)::its) fr C L :=
 D.run _ hk hd hg (fun _ A hs w=>by
  subst hpa hqb
  rw [ba hop (hs _ _ hx) (hs _ _ hy) (fun _ _=>.inl (by simp)) (.inl (by simp)) w]
  have e:IntKind.u32.wrap ((BitVec.ofInt 32 (a:Int) ^^^ BitVec.ofInt 32 (b:Int)).toNat:Int)=((a ^^^ b:Nat):Int):=bits_xor_W a b ha hb
  simp [binOp,Op.intBits,IntKind.bits]
  exact e) hp hwf h
end
end Go.Jog
namespace Go.Proofs.YtjhmlnebikbdbaaGreatDoor
open Go Go.Jog
set_option maxRecDepth 100000

theorem valD_odd (l:List Nat):valD l % 2=gD l 0 % 2:=by
 cases l with
 | nil=>rfl
 | cons x l =>
  show (x+4294967296*valD l) % 2=x % 2
  omega
theorem odd_fn (C:Mem)(v:Value)(l:List Nat)(hv:Sl C 1 v (l.map encW))(hd:DigD l):Gives cx.P 113 [v] C (.bool (decide (valD l % 2=1))):=by
 obtain ⟨A0,c0,rfl,_⟩:=id hv
 simp only [List.length_map] at hv ⊢
 have hg0:=gD_lt hd 0
 have hB:B32=4294967296:=rfl
 have hrow:0<l.length->(l.map encW)[(0:Int).toNat]?=some (encW (gD l 0)):=fun h=>by
  rw [show (0:Int).toNat=0 from rfl,List.getElem?_map,List.getElem?_eq_getElem h,dz (List.getElem?_eq_getElem h)];rfl
 refine Fn.it kr_ Tryz.func113 13 fun w0=>?_
 refine G.z1 1 0 ?_
 refine G.rp 5 fun R hR=>?_
 refine D.index rfl rfl rfl rfl rfl rfl rfl rfl rfl rfl (fun hg=>⟨hv,(by have h:decide ((0:Int)<(l.length:Int))=true:=hg.1;simp at h;omega),hrow (by have h:decide ((0:Int)<(l.length:Int))=true:=hg.1;simp at h;omega)⟩) fl_ rfl (fun p8 hp8=>?_)
 refine D.aD rfl rfl rfl rfl rfl rfl hp8 rfl rfl rfl ?_
 refine D.andW ((gD l 0)) (1) rfl rfl rfl rfl rfl rfl rfl rfl om_ om_ rfl rfl ?_
 refine D.ae ?_
 refine D.aC rfl rfl rfl rfl rfl rfl rfl rfl ?_
 refine D.q1 1 2 hR ?_;clear hR R
 refine G.rf ?_
 refine ⟨?_,rfl⟩
 rw [valD_odd,Nat.and_one_is_mod]
 cases l with
 | nil=>rfl
 | cons x l =>
  have h1:decide ((0:Int)<((x::l).length:Nat))=true:=by simp
  rw [h1,Bool.true_and]
  congr 1
  rw [Bool.eq_iff_iff,beq_iff_eq,decide_eq_true_eq]
  omega
end Go.Proofs.YtjhmlnebikbdbaaGreatDoor
namespace Go.Jog
open Go
section
variable {cx:Cx} {n:Nat} {ds:List (Option Nat)} {R:Rg n ds} {its:List It} {fr:Fr} {C:Mem} {L:List Ent} {i k d:Nat} {o:Oper} {g:GL}
theorem D.shlW (a m:Nat){kj:IntKind}{t ty:Nat}{x y:Operand}{p q:Int}(hk:Nat.ble k 1=true)(hd:o.dst=some d)(hop:o.op=.binOp .shl t x y ty)(hg:gOf ds fr o.guard=some g)(hx:ev fr g x=some (.int .u32 p))(hy:ev fr g y=some (.int kj q))
  (hpa:p=a) (hq:q=m) (hm:m<=31) (hp:aH n ds ((d,g,.int .u32 ((a*2 ^ m % 4294967296:Nat):Int))::fr) d=true) (hwf:wfG ds fr g=true)
  (h:D cx R its ((d,g,.int .u32 ((a*2 ^ m % 4294967296:Nat):Int))::fr) C L):D cx R ((i,k,o)::its) fr C L :=
 D.run _ hk hd hg (fun _ A hs w=>by
  subst hpa hq
  rw [ba hop (hs _ _ hx) (hs _ _ hy) (fun _ _=>.inl (by simp)) (.inl (by simp)) w]
  have h0:¬ ((m:Int)<0):=by omega
  have hmin:Min.min m 32=m:=by omega
  have e:IntKind.u32.wrap ((a:Int)*2 ^ m)=((a*2 ^ m % 4294967296:Nat):Int):=by
   have e1:(a:Int)*2 ^ m=((a*2 ^ m:Nat):Int):=by norm_cast
   rw [e1,IntKind.wrap_u32]
   omega
  simp only [binOp,Op.shift,h0,if_false,Int.toNat_natCast,IntKind.bits,hmin,Sem.run_pure,Result.andThen_ok]
  rw [e]) hp hwf h
end
end Go.Jog
namespace Go.Proofs.YtjhmlnebikbdbaaGreatDoor
open Go Go.Jog
set_option maxRecDepth 100000

abbrev qW (b n c:Nat):Value:=.slice (some ⟨b,0,none⟩) n c
theorem half_or {x y:Nat}(hx:x<4294967296):x / 2 ^ 1 ||| y*2 ^ 31 % 4294967296=x / 2+y % 2*2147483648:=by
 have e:y*2 ^ 31 % 4294967296=2 ^ 31*(y % 2):=by omega
 rw [e,Nat.or_comm,<- Nat.two_pow_add_eq_or_of_lt om_]
 omega
theorem zrow_W (n:Nat):zrow [Value.int .u32 0] n=((List.replicate n 0).map encW).flatten:=by
 rw [bX,List.map_replicate];rfl
theorem set_take {l:List Nat}{i z:Nat}(h:i<l.length):(l.set i z).take (i+1)=l.take i++[z]:=by
 rw [List.take_add_one,List.take_set_of_le (Nat.le_refl _),List.getElem?_set_self h];rfl
theorem half_fn (C:Mem)(v:Value)(l:List Nat)(hv:Sl C 1 v (l.map encW))(hd:DigD l)(hl:l.length<=100000000):Pur cx.P 114 [v] C fun u C'=>NatC C' u (valD l / 2):=by
 obtain ⟨A0,c0,rfl,_⟩:=id hv
 simp only [List.length_map] at hv ⊢
 have hB:B32=4294967296:=rfl
 refine Fn.it kr_ Tryz.func114 41 fun w0=>?_
 refine G.z1 1 0 ?_
 refine G.rp 2 fun R hR=>?_
 refine D.a8 rfl rfl rfl rfl rfl rfl rfl rfl rfl (Nat.le_refl _) (by show 4*l.length<=281474976710656;omega) (by simp only [maxLen];omega) fl_ (fun b8=>?_)
 refine D.q2 1 0 3 hR ?_;clear hR R
 refine G.z5 3 0 3 9 10 11 ?_
 refine G.bv (L':=[.arr (qW b8 l.length l.length) 169 1 l.length ((List.replicate l.length 0).map encW).flatten]) (by rw [<- zrow_W];rfl) ?_
 refine G.loop (fun fr C' L' μ=>∃ (i:Nat)(o:List Nat),(i<=l.length/\o.length=l.length/\DigD o/\2*valD (o.take i)+gD l 0 % 2=valD (l.take i)+B32 ^ i*(gD l i % 2))/\fr=[(0,[],.slice A0 l.length c0),(3,[],qW b8 l.length l.length),(9,[],.slice A0 l.length c0),(10,[],.int .i64 l.length),(11,[],.int .i64 i)]/\L'=[.arr (qW b8 l.length l.length) 169 1 l.length (o.map encW).flatten]/\μ=l.length-i) (h_5 0 3 9 10 11) ⟨0,List.replicate l.length 0,⟨Nat.zero_le _,List.length_replicate,(fun x hx=>by rw [List.eq_of_mem_replicate hx];decide),by simp [valD]⟩,rfl,rfl,rfl⟩ (fun fr C0' L0' m hle0 hI=>?_)
 obtain ⟨i,o,⟨hi,hol,hod,hval⟩,rfl,rfl,rfl⟩:=hI
 refine G.z6 1 0 3 9 10 11 12 ?_
 refine G.cd (fun h12=>?_) fun h12=>?_
 ·have hil:i<l.length:=by simpa using h12
  have hra:(l.map encW)[i]?=some (encW (gD l i)):=by rw [List.getElem?_map,List.getElem?_eq_getElem hil,dz (List.getElem?_eq_getElem hil)];rfl
  have hx:=gD_lt hd i
  have hy:=gD_lt hd (i+1)
  refine G.rp 1 fun R hR=>?_
  refine D.ai (hv.mono mup) rfl rfl rfl rfl rfl rfl rfl rfl rfl rfl om_ hra fl_ (fun p14 hp14=>?_)
  refine D.aa hp14 ?_
  refine D.q7 2 0 3 4 5 9 10 11 hR ?_;clear hR R
  refine G.rp 3 fun R hR=>?_
  refine D.shrW ((gD l i)) (1) rfl rfl rfl rfl rfl rfl rfl rfl om_ rfl rfl ?_
  refine D.aO (i*1) rfl rfl rfl rfl rfl rfl rfl rfl rfl rfl (fun _=>⟨by omega,by omega,rfl⟩) rfl rfl ?_
  refine D.aW (j:=0) rfl rfl rfl rfl rfl rfl rfl rfl rfl rfl rfl (by show i*1+1<=_;rw [bk bP,hol];omega) ?_
  refine D.e6 0 3 4 9 10 11 hR ?_;clear hR R
  refine G.bv (L':=[.arr (qW b8 l.length l.length) 169 1 l.length ((o.set i (gD l i / 2 ^ 1)).map encW).flatten]) (by rw [<- be bP _ (by omega:i<o.length)];rfl) ?_
  refine G.rp 1 fun R hR=>?_
  refine D.ax _ ?_
  refine D.q7 3 0 3 4 9 10 11 25 hR ?_;clear hR R
  refine G.cd (fun h25=>?_) fun h25=>?_
  ·have hil2:i+1<l.length:=by
    have:(i:Int)+1<l.length:=by simpa using h25
    omega
   have hrb:(l.map encW)[((i:Int)+1).toNat]?=some (encW (gD l (i+1))):=by
    rw [show ((i:Int)+1).toNat=i+1 by omega,List.getElem?_map,List.getElem?_eq_getElem hil2,dz (List.getElem?_eq_getElem hil2)];rfl
   have hz:(o.set i (gD l i / 2 ^ 1))[i]?=some (gD l i / 2 ^ 1):=List.getElem?_set_self om_
   refine G.aI [0,1,2,3,4,5,6,7,8,9,10,11,12] [] rfl kr_ (fun R hB hR=>?_)
   refine D.ps 2 ?_
   refine D.aO (i*1) rfl rfl rfl rfl rfl rfl rfl rfl rfl rfl (fun _=>⟨by omega,by omega,rfl⟩) rfl rfl ?_
   refine D.bh (.head _) rfl rfl rfl rfl rfl rfl (fun _=>(by rw [bB bP hz];rfl)) rfl rfl ?_
   refine D.ps 2 ?_
   refine D.ax _ ?_
   refine D.ai (hv.mono mup) rfl rfl rfl rfl rfl rfl rfl rfl rfl rfl om_ hrb fl_ (fun p33 hp33=>?_)
   refine D.aa hp33 ?_
   refine D.shlW ((gD l (i+1))) (31) rfl rfl rfl rfl rfl rfl rfl rfl om_ rfl rfl ?_
   refine D.orW ((gD l i / 2 ^ 1)) ((gD l (i+1)*2 ^ 31 % 4294967296)) rfl rfl rfl rfl rfl rfl rfl rfl om_ om_ rfl rfl ?_
   refine D.aO (i*1) rfl rfl rfl rfl rfl rfl rfl rfl rfl rfl (fun _=>⟨by omega,by omega,rfl⟩) rfl rfl ?_
   refine D.aW (j:=0) rfl rfl rfl rfl rfl rfl rfl rfl rfl rfl rfl (by show i*1+1<=_;rw [bk bP,List.length_set,hol];omega) ?_
   refine D.e5 0 3 9 10 11 hR ?_;clear hR hB R
   refine G.rg fun R hR=>?_
   refine D.ax _ ?_
   refine D.q5 1 0 3 9 10 11 hR ?_;clear hR R
   rw [half_or hx]
   refine G.bv (L':=[.arr (qW b8 l.length l.length) 169 1 l.length (((o.set i (gD l i / 2 ^ 1)).set i (gD l i / 2+gD l (i+1) % 2*2147483648)).map encW).flatten]) (by rw [<- be bP (l:=o.set i (gD l i / 2 ^ 1)) (i:=i) (gD l i / 2+gD l (i+1) % 2*2147483648) (by simp;omega)];rfl) ?_
   rw [List.set_set]
   refine G.aB (m':=l.length-(i+1)) om_ mup (h_5 0 3 9 10 11) ⟨i+1,o.set i (gD l i / 2+gD l (i+1) % 2*2147483648),⟨by omega,by simp [hol],hod.set om_,by rw [set_take om_];exact half_step (by rw [List.length_take];omega) hval⟩,rfl,rfl,rfl⟩
  ·have hz:gD l (i+1)=0:=by
    have h:¬ (i:Int)+1<l.length:=by simpa using h25
    unfold gD
    rw [List.getD_eq_getElem?_getD,List.getElem?_eq_none om_];rfl
   refine G.rg fun R hR=>?_
   refine D.ax _ ?_
   refine D.q5 1 0 3 9 10 11 hR ?_;clear hR R
   rw [show gD l i / 2 ^ 1=gD l i / 2+gD l (i+1) % 2*2147483648 by rw [hz];simp]
   refine G.aB (m':=l.length-(i+1)) om_ mup (h_5 0 3 9 10 11) ⟨i+1,o.set i (gD l i / 2+gD l (i+1) % 2*2147483648),⟨by omega,by simp [hol],hod.set om_,by rw [set_take om_];exact half_step (by rw [List.length_take];omega) hval⟩,rfl,rfl,rfl⟩
 ·have hil:i=l.length:=by
   have:¬ i<l.length:=by simpa using h12
   omega
  refine G.aS [(1,3)] rfl (fun R hR=>?_)
  refine D.ae ?_
  refine D.call (trimO_fn _ _ o hol) rfl (.inr (by decide)) rfl rfl rfl rfl rfl rfl (List.Perm.refl _) fl_ (fun v40 C40 L40 hle40 hq40=>?_)
  obtain ⟨rfl,hu⟩:=hq40
  refine D.q1 1 2 hR ?_;clear hR R
  refine G.rf ?_
  refine ⟨rfl,trimD o,dR hod, ?_,hu⟩
  have hg:gD l l.length=0:=by
   unfold gD
   rw [List.getD_eq_getElem?_getD,List.getElem?_eq_none (Nat.le_refl _)];rfl
  rw [hil,List.take_length,List.take_of_length_le om_,hg] at hval
  rw [dQ]
  simp at hval
  omega
end Go.Proofs.YtjhmlnebikbdbaaGreatDoor
namespace Go.Jog
open Go
theorem bits_not_W (a:Nat)(ha:a<4294967296):IntKind.u32.wrap ((BitVec.ofInt 32 (4294967295:Int) ^^^ BitVec.ofInt 32 (a:Int)).toNat:Int)=((4294967295-a:Nat):Int):=by
 have e:(BitVec.ofInt 32 (4294967295:Int) ^^^ BitVec.ofInt 32 (a:Int)) = ~~~ (BitVec.ofInt 32 (a:Int)):=by
  have h1:BitVec.ofInt 32 (4294967295:Int)=BitVec.allOnes 32:=by decide
  rw [h1,BitVec.allOnes_xor]
 rw [e,BitVec.toNat_not,ofInt_W ha,IntKind.wrap_u32]
 omega
section
variable {cx:Cx} {n:Nat} {ds:List (Option Nat)} {R:Rg n ds} {its:List It} {fr:Fr} {C:Mem} {L:List Ent} {i k d:Nat} {o:Oper} {g:GL}
theorem exec_unOp {P:Program}{a:Act}{o:Oper}{op:UnOp}{t:Nat}{x:Operand}{u:Value}(hop:o.op=.unOp op t x)(hx:a.eval x=u)(w:World) :
  (execOp a.eval o).run P w=((Op.unary op u).run P w).andThen fun r w'=>.ok (.value r) w':=by
 have e1:execOp a.eval o=(Op.unary op (a.eval x) >>= fun r=>Pure.pure (.value r)):=by
  obtain ⟨dst,op',ty',pos,after,guard⟩:=o
  simp only at hop
  subst hop
  rfl
 rw [e1,hx]
 simp only [Sem.run_bind,Sem.run_pure]
theorem D.notW (a:Nat){t:Nat}{x:Operand}{p:Int}(hk:Nat.ble k 1=true)(hd:o.dst=some d)(hop:o.op=.unOp .xor t x)(hg:gOf ds fr o.guard=some g)(hx:ev fr g x=some (.int .u32 p))
  (hpa:p=a) (ha:a<4294967296) (hp:aH n ds ((d,g,.int .u32 ((4294967295-a:Nat):Int))::fr) d=true) (hwf:wfG ds fr g=true)
  (h:D cx R its ((d,g,.int .u32 ((4294967295-a:Nat):Int))::fr) C L):D cx R ((i,k,o)::its) fr C L :=
 D.run _ hk hd hg (fun _ A hs w=>by
  subst hpa
  rw [exec_unOp hop (hs _ _ hx) w]
  have e:=bits_not_W a ha
  simp [Op.unary,Op.intBits,IntKind.bits,IntKind.signed,IntKind.max]
  exact e) hp hwf h
end
theorem top_and (a b:Nat):(a &&& b) / 2 ^ 31=(a / 2 ^ 31) &&& (b / 2 ^ 31):=by
 rw [<- Nat.shiftRight_eq_div_pow,<- Nat.shiftRight_eq_div_pow,<- Nat.shiftRight_eq_div_pow,Nat.shiftRight_and_distrib]
theorem top_or (a b:Nat):(a ||| b) / 2 ^ 31=(a / 2 ^ 31) ||| (b / 2 ^ 31):=by
 rw [<- Nat.shiftRight_eq_div_pow,<- Nat.shiftRight_eq_div_pow,<- Nat.shiftRight_eq_div_pow,Nat.shiftRight_or_distrib]
theorem top_xor (a b:Nat):(a ^^^ b) / 2 ^ 31=(a / 2 ^ 31) ^^^ (b / 2 ^ 31):=by
 rw [<- Nat.shiftRight_eq_div_pow,<- Nat.shiftRight_eq_div_pow,<- Nat.shiftRight_eq_div_pow,Nat.shiftRight_xor_distrib]
theorem borrow_bit {x y c:Nat}(hx:x<B32)(hy:y<B32)(hc:c<=1) :
  (((4294967295-x) &&& y) ||| ((4294967295-(x ^^^ y)) &&& difD x y c)) / 2 ^ 31=borD x y c:=by
 have hxy:x ^^^ y<2 ^ 32:=Nat.xor_lt_two_pow (show x<2 ^ 32 from hx) (show y<2 ^ 32 from hy)
 have hd:=difD_lt hx hy hc
 rw [top_or,top_and,top_and]
 have e1:(4294967295-(x ^^^ y)) / 2 ^ 31=1-(x / 2 ^ 31 ^^^ y / 2 ^ 31):=by
  rw [<- top_xor];omega
 have e2:(4294967295-x) / 2 ^ 31=1-x / 2 ^ 31:=by
  have:x<4294967296:=hx
  omega
 rw [e1,e2]
 have hX:x / 2 ^ 31<=1:=by have:x<4294967296:=hx;omega
 have hY:y / 2 ^ 31<=1:=by have:y<4294967296:=hy;omega
 have hD:difD x y c / 2 ^ 31<=1:=by have:difD x y c<4294967296:=hd;omega
 have hb:borD x y c=if x<y+c then 1 else 0:=rfl
 have hdv:difD x y c=x+4294967296*borD x y c-y-c:=rfl
 generalize difD x y c=d at *
 have hx':x<4294967296:=hx
 have hy':y<4294967296:=hy
 rcases Nat.le_one_iff_eq_zero_or_eq_one.1 hX with h1 | h1 <;> rcases Nat.le_one_iff_eq_zero_or_eq_one.1 hY with h2 | h2 <;> rcases Nat.le_one_iff_eq_zero_or_eq_one.1 hD with h3 | h3 <;> rw [h1,h2,h3] <;> simp only [Nat.reduceSub,Nat.reduceXor,Nat.reduceAnd,Nat.reduceOr] <;> split at hb <;> omega
def Sm (k n:Nat):Prop:=n<B32 ^ k
theorem Sm.mono {k n m:Nat}(h:Sm k n)(hm:m<=n):Sm k m:=Nat.lt_of_le_of_lt hm h
theorem Sm.le {k j n:Nat}(h:Sm k n)(hk:k<=j):Sm j n:=Nat.lt_of_lt_of_le h (Nat.pow_le_pow_right (by decide) hk)
theorem Sm.mul {j k m n:Nat}(hm:Sm j m)(hn:Sm k n):Sm (j+k) (m*n):=by
 unfold Sm at *
 rw [Nat.pow_add]
 exact Nat.mul_lt_mul'' hm hn
theorem Sm.add {k m n:Nat}(hm:Sm k m)(hn:Sm k n):Sm (k+1) (m+n):=by
 unfold Sm at *
 rw [Nat.pow_succ]
 have:B32 ^ k*2<=B32 ^ k*B32:=Nat.mul_le_mul_left _ (by decide)
 omega
theorem Sm.len {k:Nat}{l:List Nat}(h:Sm k (valD l))(hl:CanD l):l.length<=k:=by
 apply Classical.byContradiction
 intro hh
 have h1:=can_low hl om_
 have h2:B32 ^ k<=B32 ^ (l.length-1):=Nat.pow_le_pow_right (by decide) om_
 unfold Sm at h
 omega
theorem Sm.one {n:Nat}(h:n<B32):Sm 1 n:=by unfold Sm;rw [Nat.pow_one];exact h
theorem Sm.pos {k n:Nat}(h:Sm k n)(hn:0<n):0<k:=by
 cases k with
 | zero=>unfold Sm at h;rw [Nat.pow_zero] at h;omega
 | succ k=>omega
end Go.Jog
namespace Go.Jog
def ratB (b:Bool)(n d:Nat):Rat:=mkRat (if b then -(n:Int) else n) d
theorem sgn_abs (b:Bool)(n:Nat):(if b then -(n:Int) else n).natAbs=n:=by cases b <;> simp
theorem ratB_num {b:Bool}{n d:Nat}(hd:d≠0):(ratB b n d).num=if b then -((n / Nat.gcd n d:Nat):Int) else ((n / Nat.gcd n d:Nat):Int):=by
 unfold ratB
 rw [Rat.num_mkRat,if_neg hd,sgn_abs,Nat.gcd_comm]
 cases b with
 | false=>simp
 | true =>
  simp only [if_true]
  rw [Int.neg_ediv_of_dvd (Int.natCast_dvd_natCast.2 (Nat.gcd_dvd_left n d)),Int.natCast_ediv]
theorem ratB_abs {b:Bool}{n d:Nat}(hd:d≠0):(ratB b n d).num.natAbs=n / Nat.gcd n d:=by
 rw [ratB_num hd,sgn_abs]
theorem ratB_den {b:Bool}{n d:Nat}(hd:d≠0):(ratB b n d).den=d / Nat.gcd n d:=by
 unfold ratB
 rw [Rat.den_mkRat,if_neg hd,sgn_abs,Nat.gcd_comm]
theorem ratB_neg {b:Bool}{n d:Nat}(hd:d≠0)(hn:n≠0):decide ((ratB b n d).num<0)=b:=by
 have h1:0<n / Nat.gcd n d:=Nat.div_pos (Nat.le_of_dvd om_ (Nat.gcd_dvd_left n d)) (Nat.gcd_pos_of_pos_left _ om_)
 rw [ratB_num hd]
 cases b <;> simp <;> omega
theorem ratB_zero (b:Bool)(d:Nat):ratB b 0 d=0:=by unfold ratB;cases b <;> simp
def sgI (b:Bool)(n:Nat):Int:=if b then -(n:Int) else n
theorem num_sg (q:Rat):q.num=sgI (decide (q.num<0)) q.num.natAbs:=by
 unfold sgI
 by_cases h:q.num<0
 ·simp only [h,decide_true,if_true];omega
 ·simp only [h,decide_false];simp;omega
theorem sgI_mul (b:Bool)(n m:Nat):sgI b n*m=sgI b (n*m):=by unfold sgI;cases b <;> simp [Int.neg_mul]
theorem sgI_mul2 (a b:Bool)(n m:Nat):sgI a n*sgI b m=sgI (a != b) (n*m):=by
 unfold sgI;cases a <;> cases b <;> simp [Int.neg_mul,Int.mul_neg]
theorem add_same {p q:Rat}(h:decide (p.num<0)=decide (q.num<0)):ratB (decide (p.num<0)) (p.num.natAbs*q.den+q.num.natAbs*p.den) (p.den*q.den)=p+q:=by
 rw [Rat.add_def']
 unfold ratB
 congr 1
 rw [num_sg p,num_sg q,sgI_mul,sgI_mul]
 simp only [<- num_sg]
 rw [<- h]
 unfold sgI
 cases decide (p.num<0) <;> simp <;> omega
theorem bne_not {a b:Bool}(h:¬ a=b):b=!a:=by cases a <;> cases b <;> simp_all
theorem add_up {p q:Rat}(h:¬ decide (p.num<0)=decide (q.num<0))(hl:q.num.natAbs*p.den<=p.num.natAbs*q.den):ratB (decide (p.num<0)) (p.num.natAbs*q.den-q.num.natAbs*p.den) (p.den*q.den)=p+q:=by
 rw [Rat.add_def']
 unfold ratB
 congr 1
 rw [num_sg p,num_sg q,sgI_mul,sgI_mul]
 simp only [<- num_sg]
 rw [bne_not h]
 unfold sgI
 cases decide (p.num<0) <;> simp <;> omega
theorem add_down {p q:Rat}(h:¬ decide (p.num<0)=decide (q.num<0))(hl:p.num.natAbs*q.den<=q.num.natAbs*p.den):ratB (decide (q.num<0)) (q.num.natAbs*p.den-p.num.natAbs*q.den) (p.den*q.den)=p+q:=by
 rw [Rat.add_def']
 unfold ratB
 congr 1
 rw [num_sg p,num_sg q,sgI_mul,sgI_mul]
 simp only [<- num_sg]
 rw [bne_not h]
 unfold sgI
 cases decide (p.num<0) <;> simp <;> omega
theorem mul_parts (p q:Rat):ratB (decide (p.num<0) != decide (q.num<0)) (p.num.natAbs*q.num.natAbs) (p.den*q.den)=p*q:=by
 rw [Rat.mul_def']
 unfold ratB
 congr 1
 conv=>rhs;rw [num_sg p,num_sg q,sgI_mul2]
 rfl
theorem num_nil {q:Rat}:q.num.natAbs=0 ↔ q=0:=by rw [Int.natAbs_eq_zero,Rat.num_eq_zero]
def SmQ (k:Nat)(q:Rat):Prop:=Sm k q.num.natAbs/\Sm k q.den
theorem SmQ.le {k j:Nat}{q:Rat}(h:SmQ k q)(hk:k<=j):SmQ j q:=⟨h.1.le hk,h.2.le hk⟩
theorem SmQ.ratB {k n d:Nat}(b:Bool)(hd:d≠0)(hn:Sm k n)(hm:Sm k d):SmQ k (ratB b n d):=by
 refine ⟨?_, ?_⟩
 ·rw [ratB_abs hd];exact hn.mono (Nat.div_le_self _ _)
 ·rw [ratB_den hd];exact hm.mono (Nat.div_le_self _ _)
theorem SmQ.neg {k:Nat}{q:Rat}(h:SmQ k q):SmQ k (-q):=by
 refine ⟨?_,h.2⟩
 rw [Rat.neg_num,Int.natAbs_neg];exact h.1
theorem den_ne (p q:Rat):p.den*q.den≠0:=Nat.mul_ne_zero p.den_nz q.den_nz
theorem Sm.mulAdd {j k a b c d:Nat}(ha:Sm j a)(hb:Sm k b)(hc:Sm k c)(hd:Sm j d):Sm (j+k+1) (a*b+c*d):=(ha.mul hb).add (by rw [Nat.mul_comm];exact hd.mul hc)
theorem SmQ.add {j k:Nat}{p q:Rat}(hp:SmQ j p)(hq:SmQ k q):SmQ (j+k+1) (p+q):=by
 have hD:Sm (j+k+1) (p.den*q.den):=(hp.2.mul hq.2).le om_
 have h1:Sm (j+k+1) (p.num.natAbs*q.den+q.num.natAbs*p.den):=Sm.mulAdd hp.1 hq.2 hq.1 hp.2
 by_cases h:decide (p.num<0)=decide (q.num<0)
 ·rw [<- add_same h];exact SmQ.ratB _ (den_ne p q) h1 hD
 ·rcases Nat.le_total (q.num.natAbs*p.den) (p.num.natAbs*q.den) with hl | hl
  ·rw [<- add_up h hl];exact SmQ.ratB _ (den_ne p q) (h1.mono om_) hD
  ·rw [<- add_down h hl];exact SmQ.ratB _ (den_ne p q) (h1.mono om_) hD
theorem SmQ.mul {j k:Nat}{p q:Rat}(hp:SmQ j p)(hq:SmQ k q):SmQ (j+k) (p*q):=by
 rw [<- mul_parts]
 exact SmQ.ratB _ (den_ne p q) (hp.1.mul hq.1) (hp.2.mul hq.2)
theorem SmQ.sub {j k:Nat}{p q:Rat}(hp:SmQ j p)(hq:SmQ k q):SmQ (j+k+1) (p-q):=by
 rw [Rat.sub_eq_add_neg];exact hp.add hq.neg
end Go.Jog
namespace Go.Proofs.YtjhmlnebikbdbaaGreatDoor
open Go Go.Jog
set_option maxRecDepth 100000

theorem sub32_fn (C:Mem)(x y c:Nat)(hx:x<B32)(hy:y<B32)(hc:c<=1):Gives cx.P 119 [.int .u32 x,.int .u32 y,.int .u32 c] C (.tuple #[.int .u32 (difD x y c:Nat),.int .u32 (borD x y c:Nat)]):=by
 have hB:B32=4294967296:=rfl
 have hd:=difD_lt hx hy hc
 have hxy:x ^^^ y<2 ^ 32:=Nat.xor_lt_two_pow (show x<2 ^ 32 from hx) (show y<2 ^ 32 from hy)
 have hx1:4294967295-x<2 ^ 32:=by omega
 have hx2:4294967295-(x ^^^ y)<2 ^ 32:=by omega
 have ha1:(4294967295-x) &&& y<2 ^ 32:=Nat.and_lt_two_pow _ (show y<2 ^ 32 from hy)
 have ha2:(4294967295-(x ^^^ y)) &&& difD x y c<2 ^ 32:=Nat.and_lt_two_pow _ (show difD x y c<2 ^ 32 from hd)
 refine Fn.it kr_ Tryz.func119 25 fun w0=>?_
 refine G.z3 2 0 1 2 ?_
 refine G.rp 2 fun R hR=>?_
 refine D.int ((((x+4294967296-y) % 4294967296:Nat):Int)) rfl rfl rfl rfl (by rw [IntKind.wrap_u32];omega) rfl rfl ?_
 refine D.ae ?_
 refine D.int (((difD x y c:Nat):Int)) rfl rfl rfl rfl (by rw [IntKind.wrap_u32];unfold difD borD;split <;> omega) rfl rfl ?_
 refine D.q3 1 0 1 6 hR ?_;clear hR R
 refine G.rp 1 fun R hR=>?_
 refine D.notW (x) rfl rfl rfl rfl rfl rfl om_ rfl rfl ?_
 refine D.ae ?_
 refine D.andW ((4294967295-x)) (y) rfl rfl rfl rfl rfl rfl rfl rfl om_ om_ rfl rfl ?_
 refine D.ps 2 ?_
 refine D.xorW (x) (y) rfl rfl rfl rfl rfl rfl rfl rfl om_ om_ rfl rfl ?_
 refine D.notW ((x ^^^ y)) rfl rfl rfl rfl rfl rfl om_ rfl rfl ?_
 refine D.ae ?_
 refine D.andW ((4294967295-(x ^^^ y))) ((difD x y c)) rfl rfl rfl rfl rfl rfl rfl rfl om_ om_ rfl rfl ?_
 refine D.orW (((4294967295-x) &&& y)) (((4294967295-(x ^^^ y)) &&& difD x y c)) rfl rfl rfl rfl rfl rfl rfl rfl om_ om_ rfl rfl ?_
 refine D.shrW ((((4294967295-x) &&& y) ||| ((4294967295-(x ^^^ y)) &&& difD x y c))) (31) rfl rfl rfl rfl rfl rfl rfl rfl om_ rfl rfl ?_
 refine D.q2 1 6 7 hR ?_;clear hR R
 refine G.aA (G.dropAll (G.bg rfl rfl rfl ?_))
 exact ⟨by rw [borrow_bit hx hy hc],rfl⟩
theorem nsub_fn (C:Mem)(va vb:Value)(a b:List Nat)(ha:Sl C 1 va (a.map encW))(hb:Sl C 1 vb (b.map encW))(hda:DigD a)(hdb:DigD b)(hla:a.length<=100000000)(hlb:b.length<=a.length)(hle:valD b<=valD a) :
  Pur cx.P 75 [va,vb] C fun u C'=>NatC C' u (valD a-valD b):=by
 obtain ⟨A0,c0,rfl,_⟩:=id ha
 obtain ⟨B0,d0,rfl,_⟩:=id hb
 simp only [List.length_map] at ha hb ⊢
 refine Fn.it kr_ Tryz.func75 43 fun w0=>?_
 refine G.z2 1 0 1 ?_
 refine G.rp 2 fun R hR=>?_
 refine D.a8 rfl rfl rfl rfl rfl rfl rfl rfl rfl (Nat.zero_le _) (by show 4*a.length<=281474976710656;omega) (by simp only [maxLen];omega) fl_ (fun b13=>?_)
 refine D.q3 1 0 1 5 hR ?_
 refine G.z4 1 0 1 5 6 ?_
 refine G.z6 3 1 5 6 14 15 16 ?_
 refine G.loop (fun fr C' L' μ=>∃ (i:Nat)(out:List Nat)(cy:Nat)(w:Value),(i<=a.length/\out.length=i/\DigD out/\cy<=1/\valD out+valD (b.take i)=valD (a.take i)+B32 ^ i*cy)/\fr=[(1,[],.slice B0 b.length d0),(5,[],w),(6,[],.int .u32 cy),(14,[],.slice A0 a.length c0),(15,[],.int .i64 a.length),(16,[],.int .i64 i)]/\L'=[.arr w 169 1 i (out.map encW).flatten]/\μ=a.length-i) (h_6 1 5 6 14 15 16) ⟨0,[],0,_,⟨Nat.zero_le _,rfl,(fun x hx=>(by cases hx)),by omega,rfl⟩,rfl,rfl,rfl⟩ (fun fr C0' L0' m hle0 hI=>?_)
 obtain ⟨i,out,cy,w,⟨hi,hol,hod,hcy,hval⟩,rfl,rfl,rfl⟩:=hI
 refine G.z7 1 1 5 6 14 15 16 17 ?_
 refine G.cd (fun h17=>?_) fun h17=>?_
 ·have hil:i<a.length:=by simpa using h17
  have hra:(a.map encW)[i]?=some (encW (gD a i)):=by rw [List.getElem?_map,List.getElem?_eq_getElem hil,dz (List.getElem?_eq_getElem hil)];rfl
  refine G.rp 1 fun R hR=>?_
  refine D.ai (ha.mono mup) rfl rfl rfl rfl rfl rfl rfl rfl rfl rfl om_ hra fl_ (fun p19 hp19=>?_)
  refine D.aa hp19 ?_
  refine D.q8 2 1 5 6 7 8 14 15 16 hR ?_
  refine G.z9 1 1 5 6 7 8 9 14 15 16 ?_
  refine G.z10 4 1 5 6 7 8 9 14 15 16 24 ?_
  refine G.bH (fun fr C' L' μ=>(True)/\fr=[(1,[],.slice B0 b.length d0),(5,[],w),(6,[],.int .u32 cy),(8,[],.int .u32 (gD a i)),(9,[],.int .u32 (gD b i)),(14,[],.slice A0 a.length c0),(15,[],.int .i64 a.length),(16,[],.int .i64 i)]/\L'=[.arr w 169 1 i (out.map encW).flatten]) ?_ (fun fr C24 L24 μ hle24 hI=>?_)
  ·refine G.cd (fun h24=>?_) fun h24=>?_
   ·have hib:i<b.length:=by simpa using h24
    have hrb:(b.map encW)[i]?=some (encW (gD b i)):=by rw [List.getElem?_map,List.getElem?_eq_getElem hib,dz (List.getElem?_eq_getElem hib)];rfl
    refine G.rp 2 fun R hR=>?_
    refine D.ai (hb.mono mup) rfl rfl rfl rfl rfl rfl rfl rfl rfl rfl om_ hrb fl_ (fun p27 hp27=>?_)
    refine D.aa hp27 ?_
    refine D.q8 1 1 5 6 8 9 14 15 16 hR ?_
    refine G.ay 0 (Mem.le.refl _) (h_8 1 5 6 8 9 14 15 16) ⟨trivial,rfl,rfl⟩
   ·have hz:gD b i=0:=by
     have h:¬ i<b.length:=by simpa using h24
     unfold gD
     rw [List.getD_eq_getElem?_getD,List.getElem?_eq_none om_];rfl
    refine G.ay 0 (Mem.le.refl _) (h_8 1 5 6 8 9 14 15 16) ⟨trivial,by rw [hz];rfl,rfl⟩
  ·obtain ⟨htr,rfl,rfl⟩:=hI
   refine G.z8 1 1 5 6 8 9 14 15 16 ?_
   refine G.rp 3 fun R hR=>?_
   refine D.am (sub32_fn _ (gD a i) (gD b i) cy (gD_lt hda i) (gD_lt hdb i) hcy) ?_
   refine D.q7 5 1 5 6 10 14 15 16 hR ?_
   refine G.rp 2 fun R hR=>?_
   refine D.ah [encW (difD (gD a i) (gD b i) cy)] (fun p38 C38 hle38 hs38=>?_)
   refine D.append (j:=0) rfl rfl rfl rfl rfl rfl rfl rfl rfl rfl rfl hs38 rfl (by simp only [List.length_singleton,maxLen];omega) (by show (i+1)*4<=_;omega) fl_ (fun v39=>?_)
   refine D.q6 1 1 5 6 14 15 16 hR ?_
   refine G.rg fun R hR=>?_
   refine D.ax _ ?_
   refine D.q6 1 1 5 6 14 15 16 hR ?_
   refine G.bv (L':=[.arr v39 169 1 (i+1) ((out++[difD (gD a i) (gD b i) cy]).map encW).flatten]) (by simp [encW]) ?_
   refine G.aB (m':=a.length-(i+1)) om_ mup (h_6 1 5 6 14 15 16) ⟨i+1,out++[difD (gD a i) (gD b i) cy],borD (gD a i) (gD b i) cy,v39,⟨by omega,by simp [hol],hod.snoc (difD_lt (gD_lt hda i) (gD_lt hdb i) hcy),borD_le _ _ _,sub_step hdb hcy hol hval⟩,rfl,rfl,rfl⟩
 ·have hil:i=a.length:=by
   have:¬ i<a.length:=by simpa using h17
   omega
  refine G.aS [(1,3)] rfl (fun R hR=>?_)
  refine D.ae ?_
  refine D.call (trimO_fn _ _ out (n:=i) hol) rfl (.inr (by decide)) rfl rfl rfl rfl rfl rfl (List.Perm.refl _) fl_ (fun v42 C42 L42 hle42 hq42=>?_)
  obtain ⟨rfl,hu⟩:=hq42
  refine D.q1 1 4 hR ?_
  refine G.rf ?_
  refine ⟨rfl,trimD out,dR hod, ?_,hu⟩
  rw [hil,List.take_length,List.take_of_length_le hlb] at hval
  have h0:=valD_lt hod
  rw [hol,hil] at h0
  have hc0:cy=0:=by
   rcases Nat.le_one_iff_eq_zero_or_eq_one.1 hcy with h | h
   ·exact h
   ·rw [h,Nat.mul_one] at hval;omega
  rw [hc0,Nat.mul_zero] at hval
  rw [dQ]
  omega

theorem gD_set_ne {l:List Nat}{i j z:Nat}(h:i≠j):gD (l.set i z) j=gD l j:=by
 unfold gD;rw [List.getD_eq_getElem?_getD,List.getD_eq_getElem?_getD,List.getElem?_set_ne h]
theorem gD_get {l:List Nat}{i:Nat}(h:i<l.length):l[i]?=some (gD l i):=by rw [List.getElem?_eq_getElem h,dz (List.getElem?_eq_getElem h)]
theorem gD_zeros (n j:Nat):gD (List.replicate n 0) j=0:=by
 unfold gD;rw [List.getD_eq_getElem?_getD,List.getElem?_replicate];split <;> rfl
theorem nmul_fn (C:Mem)(va vb:Value)(a b:List Nat)(ha:Sl C 1 va (a.map encW))(hb:Sl C 1 vb (b.map encW))(hda:DigD a)(hdb:DigD b)(hla:a.length<=10000000)(hlb:b.length<=10000000) :
  Pur cx.P 72 [va,vb] C fun u C'=>NatC C' u (valD a*valD b):=by
 obtain ⟨A0,c0,rfl,_⟩:=id ha
 obtain ⟨B0,d0,rfl,_⟩:=id hb
 simp only [List.length_map] at ha hb ⊢
 have hB:B32=4294967296:=rfl
 refine Fn.it kr_ Tryz.func72 67 fun w0=>?_
 refine G.z2 1 0 1 ?_
 refine G.rp 4 fun R hR=>?_
 refine D.i64 (((a.length+b.length:Nat):Int)) rfl rfl rfl rfl om_ om_ om_ rfl rfl ?_
 refine D.a8 rfl rfl rfl rfl rfl rfl rfl rfl rfl (Nat.le_refl _) (by show 4*(a.length+b.length)<=281474976710656;omega) (by simp only [maxLen];omega) fl_ (fun b16=>?_)
 refine D.q3 1 0 1 5 hR ?_;clear hR R
 refine G.z5 3 1 5 17 18 19 ?_
 refine G.bv (L':=[.arr (qW b16 (a.length+b.length) (a.length+b.length)) 169 1 (a.length+b.length) ((List.replicate (a.length+b.length) 0).map encW).flatten]) (by rw [<- zrow_W];rfl) ?_
 refine G.loop (fun fr C' L' μ=>∃ (i:Nat)(o:List Nat),(i<=a.length/\o.length=a.length+b.length/\DigD o/\valD o=valD (a.take i)*valD b/\∀ j,i+b.length<=j->gD o j=0)/\fr=[(1,[],.slice B0 b.length d0),(5,[],qW b16 (a.length+b.length) (a.length+b.length)),(17,[],.slice A0 a.length c0),(18,[],.int .i64 a.length),(19,[],.int .i64 i)]/\L'=[.arr (qW b16 (a.length+b.length) (a.length+b.length)) 169 1 (a.length+b.length) (o.map encW).flatten]/\μ=a.length-i) (h_5 1 5 17 18 19) ⟨0,List.replicate (a.length+b.length) 0,⟨Nat.zero_le _,List.length_replicate,(fun x hx=>by rw [List.eq_of_mem_replicate hx];decide),by rw [valD_zeros (fun x hx=>List.eq_of_mem_replicate hx)];simp [valD],fun j _=>gD_zeros _ j⟩,rfl,rfl,rfl⟩ (fun fr C0' L0' m hle0 hI=>?_)
 obtain ⟨i,o,⟨hi,hol,hod,hval,hz⟩,rfl,rfl,rfl⟩:=hI
 refine G.z6 1 1 5 17 18 19 20 ?_
 refine G.cd (fun h20=>?_) fun h20=>?_
 ·have hil:i<a.length:=by simpa using h20
  have hra:(a.map encW)[i]?=some (encW (gD a i)):=by rw [List.getElem?_map,List.getElem?_eq_getElem hil,dz (List.getElem?_eq_getElem hil)];rfl
  have hx:=gD_lt hda i
  refine G.rp 1 fun R hR=>?_
  refine D.ai (ha.mono mup) rfl rfl rfl rfl rfl rfl rfl rfl rfl rfl om_ hra fl_ (fun p22 hp22=>?_)
  refine D.aa hp22 ?_
  refine D.q7 2 1 5 6 7 17 18 19 hR ?_;clear hR R
  refine G.z8 1 1 5 6 7 8 17 18 19 ?_
  refine G.z11 3 1 5 6 7 8 17 18 19 24 25 26 ?_
  refine G.loop (fun fr C' L' μ=>∃ (k:Nat)(q:List Nat)(c:Nat),(k<=b.length/\q.length=a.length+b.length/\DigD q/\c<B32/\valD q+B32 ^ (i+k)*c=valD o+B32 ^ i*(gD a i*valD (b.take k))/\∀ j,i+b.length<=j->gD q j=0)/\fr=[(1,[],.slice B0 b.length d0),(5,[],qW b16 (a.length+b.length) (a.length+b.length)),(6,[],.int .i64 i),(7,[],.int .u32 (gD a i)),(8,[],.int .u64 c),(17,[],.slice A0 a.length c0),(18,[],.int .i64 a.length),(19,[],.int .i64 i),(24,[],.slice B0 b.length d0),(25,[],.int .i64 b.length),(26,[],.int .i64 k)]/\L'=[.arr (qW b16 (a.length+b.length) (a.length+b.length)) 169 1 (a.length+b.length) (q.map encW).flatten]/\μ=b.length-k) (h_11 1 5 6 7 8 17 18 19 24 25 26) ⟨0,o,0,⟨Nat.zero_le _,hol,hod,by decide,by simp [valD],hz⟩,rfl,rfl,rfl⟩ (fun fr C1' L1' m hle1 hI=>?_)
  obtain ⟨k,q,c,⟨hk,hql,hqd,hc,hqv,hqz⟩,rfl,rfl,rfl⟩:=hI
  refine G.z12 1 1 5 6 7 8 17 18 19 24 25 26 27 ?_
  refine G.cd (fun h27=>?_) fun h27=>?_
  ·have hkl:k<b.length:=by simpa using h27
   have hrb:(b.map encW)[k]?=some (encW (gD b k)):=by rw [List.getElem?_map,List.getElem?_eq_getElem hkl,dz (List.getElem?_eq_getElem hkl)];rfl
   have hy:=gD_lt hdb k
   have ho:=gD_lt hqd (i+k)
   have hget:q[i+k]?=some (gD q (i+k)):=gD_get om_
   have hbound:=mul_bound hc hx hy ho
   rw [show B32*B32=18446744073709551616 from rfl] at hbound
   refine G.rp 1 fun R hR=>?_
   refine D.ai (hb.mono mup) rfl rfl rfl rfl rfl rfl rfl rfl rfl rfl om_ hrb fl_ (fun p29 hp29=>?_)
   refine D.aa hp29 ?_
   refine D.q13 2 1 5 6 7 8 9 10 17 18 19 24 25 26 hR ?_;clear hR R
   refine G.rp 2 fun R hR=>?_
   refine D.bL (c:=((gD a i:Nat):Int)) rfl rfl rfl rfl rfl rfl rfl rfl (by rw [IntKind.wrap_u64];omega) fl_ ?_
   refine D.ae ?_
   refine D.bL (c:=((gD b k:Nat):Int)) rfl rfl rfl rfl rfl rfl rfl rfl (by rw [IntKind.wrap_u64];omega) fl_ ?_
   refine D.int (((gD a i*gD b k:Nat):Int)) rfl rfl rfl rfl (by rw [<- Int.natCast_mul,IntKind.wrap_u64];omega) rfl rfl ?_
   refine D.ps 3 ?_
   refine D.i64 (((i+k:Nat):Int)) rfl rfl rfl rfl om_ om_ om_ rfl rfl ?_
   refine D.aO ((i+k)*1) rfl rfl rfl rfl rfl rfl rfl rfl rfl rfl (fun _=>⟨by omega,by omega,rfl⟩) rfl rfl ?_
   refine D.bh (.head _) rfl rfl rfl rfl rfl rfl (fun _=>(by rw [bB bP hget];rfl)) rfl rfl ?_
   refine D.bL (c:=((gD q (i+k):Nat):Int)) rfl rfl rfl rfl rfl rfl rfl rfl (by rw [IntKind.wrap_u64];omega) fl_ ?_
   refine D.int (((gD a i*gD b k+gD q (i+k):Nat):Int)) rfl rfl rfl rfl (by rw [IntKind.wrap_u64];omega) rfl rfl ?_
   refine D.int (((c+gD a i*gD b k+gD q (i+k):Nat):Int)) rfl rfl rfl rfl (by rw [IntKind.wrap_u64];omega) rfl rfl ?_
   refine D.q12 1 1 5 6 7 8 9 17 18 19 24 25 26 hR ?_;clear hR R
   refine G.rp 3 fun R hR=>?_
   refine D.i64 (((i+k:Nat):Int)) rfl rfl rfl rfl om_ om_ om_ rfl rfl ?_
   refine D.ae ?_
   refine D.bL (c:=(((c+gD a i*gD b k+gD q (i+k)) % 4294967296:Nat):Int)) rfl rfl rfl rfl rfl rfl rfl rfl (by rw [IntKind.wrap_u32];omega) fl_ ?_
   refine D.aO ((i+k)*1) rfl rfl rfl rfl rfl rfl rfl rfl rfl rfl (fun _=>⟨by omega,by omega,rfl⟩) rfl rfl ?_
   refine D.aW (j:=0) rfl rfl rfl rfl rfl rfl rfl rfl rfl rfl rfl (by show (i+k)*1+1<=_;rw [bk bP,hql];omega) ?_
   refine D.e11 1 5 6 7 8 17 18 19 24 25 26 hR ?_;clear hR R
   refine G.rp 1 fun R hR=>?_
   refine D.shrU ((c+gD a i*gD b k+gD q (i+k))) (32) rfl rfl rfl rfl rfl rfl rfl rfl om_ rfl rfl ?_
   refine D.q11 1 1 5 6 7 8 17 18 19 24 25 26 hR ?_;clear hR R
   refine G.rg fun R hR=>?_
   refine D.ax _ ?_
   refine D.q11 1 1 5 6 7 8 17 18 19 24 25 26 hR ?_;clear hR R
   refine G.bv (L':=[.arr (qW b16 (a.length+b.length) (a.length+b.length)) 169 1 (a.length+b.length) ((q.set (i+k) ((c+gD a i*gD b k+gD q (i+k)) % B32)).map encW).flatten]) (by rw [<- be bP _ (by omega:i+k<q.length)];rfl) ?_
   refine G.aB (m':=b.length-(k+1)) om_ mup (h_11 1 5 6 7 8 17 18 19 24 25 26) ⟨k+1,q.set (i+k) ((c+gD a i*gD b k+gD q (i+k)) % B32),(c+gD a i*gD b k+gD q (i+k)) / B32,⟨by omega,by simp [hql],hqd.set (Nat.mod_lt _ (by decide)),carry_lt hc hx hy ho,mul_step hget rfl hqv,fun j hj=>by rw [gD_set_ne om_];exact hqz j hj⟩,rfl,rfl,rfl⟩
  ·have hkl:k=b.length:=by
    have:¬ k<b.length:=by simpa using h27
    omega
   have hget:q[i+b.length]?=some 0:=by rw [<- hqz _ (Nat.le_refl _)];exact gD_get om_
   refine G.rp 4 fun R hR=>?_
   refine D.i64 (((i+b.length:Nat):Int)) rfl rfl rfl rfl om_ om_ om_ rfl rfl ?_
   refine D.ae ?_
   refine D.bL (c:=((c:Nat):Int)) rfl rfl rfl rfl rfl rfl rfl rfl (by rw [IntKind.wrap_u32];omega) fl_ ?_
   refine D.aO ((i+b.length)*1) rfl rfl rfl rfl rfl rfl rfl rfl rfl rfl (fun _=>⟨by omega,by omega,rfl⟩) rfl rfl ?_
   refine D.aW (j:=0) rfl rfl rfl rfl rfl rfl rfl rfl rfl rfl rfl (by show (i+b.length)*1+1<=_;rw [bk bP,hql];omega) ?_
   refine D.e5 1 5 17 18 19 hR ?_;clear hR R
   refine G.rg fun R hR=>?_
   refine D.ax _ ?_
   refine D.q5 1 1 5 17 18 19 hR ?_;clear hR R
   refine G.bv (L':=[.arr (qW b16 (a.length+b.length) (a.length+b.length)) 169 1 (a.length+b.length) ((q.set (i+b.length) c).map encW).flatten]) (by rw [<- be bP _ (by omega:i+b.length<q.length)];rfl) ?_
   refine G.aB (m':=a.length-(i+1)) om_ mup (h_5 1 5 17 18 19) ⟨i+1,q.set (i+b.length) c,⟨by omega,by simp [hql],hqd.set hc,by
    have h1:=valD_set (z:=c) hget
    rw [hkl,List.take_length] at hqv
    rw [valD_tk,Nat.add_mul,<- hval,Nat.mul_assoc]
    omega,fun j hj=>by rw [gD_set_ne om_];exact hqz j om_⟩,rfl,rfl,rfl⟩
 ·have hil:i=a.length:=by
   have:¬ i<a.length:=by simpa using h20
   omega
  refine G.aS [(1,3)] rfl (fun R hR=>?_)
  refine D.ae ?_
  refine D.call (trimO_fn _ _ o hol) rfl (.inr (by decide)) rfl rfl rfl rfl rfl rfl (List.Perm.refl _) fl_ (fun v66 C66 L66 hle66 hq66=>?_)
  obtain ⟨rfl,hu⟩:=hq66
  refine D.q1 1 4 hR ?_;clear hR R
  refine G.rf ?_
  refine ⟨rfl,trimD o,dR hod, ?_,hu⟩
  rw [dQ,hval,hil,List.take_length]

theorem NatC.one {C:Mem}{v:Value}{l:List Nat}(hc:CanD l)(h:Sl C 1 v (l.map encW)):NatC C v (valD l):=⟨l,hc,rfl,h⟩
theorem natAdd {C:Mem}{u v:Value}{m n k:Nat}(hu:NatC C u m)(hv:NatC C v n)(hm:Sm k m)(hn:Sm k n)(hk:k<=10000000):Pur cx.P 74 [u,v] C fun w D=>NatC D w (m+n):=by
 obtain ⟨a,ha,rfl,hsa⟩:=hu
 obtain ⟨b,hb,rfl,hsb⟩:=hv
 exact nadd_fn C u v a b hsa hsb ha.1 hb.1 (by have:=hm.len ha;omega) (by have:=hn.len hb;omega)
theorem natSub {C:Mem}{u v:Value}{m n k:Nat}(hu:NatC C u m)(hv:NatC C v n)(hm:Sm k m)(hn:n<=m)(hk:k<=10000000):Pur cx.P 75 [u,v] C fun w D=>NatC D w (m-n):=by
 obtain ⟨a,ha,rfl,hsa⟩:=hu
 obtain ⟨b,hb,rfl,hsb⟩:=hv
 refine nsub_fn C u v a b hsa hsb ha.1 hb.1 (by have:=hm.len ha;omega) ?_ hn
 rcases Nat.lt_or_ge a.length b.length with h | h
 ·have:=len_lt ha.1 hb h;omega
 ·exact h
theorem natMul {C:Mem}{u v:Value}{m n j k:Nat}(hu:NatC C u m)(hv:NatC C v n)(hm:Sm j m)(hn:Sm k n)(hj:j<=10000000)(hk:k<=10000000):Pur cx.P 72 [u,v] C fun w D=>NatC D w (m*n):=by
 obtain ⟨a,ha,rfl,hsa⟩:=hu
 obtain ⟨b,hb,rfl,hsb⟩:=hv
 exact nmul_fn C u v a b hsa hsb ha.1 hb.1 (by have:=hm.len ha;omega) (by have:=hn.len hb;omega)
theorem natHalf {C:Mem}{u:Value}{m k:Nat}(hu:NatC C u m)(hm:Sm k m)(hk:k<=10000000):Pur cx.P 114 [u] C fun w D=>NatC D w (m / 2):=by
 obtain ⟨a,ha,rfl,hsa⟩:=hu
 exact half_fn C u a hsa ha.1 (by have:=hm.len ha;omega)
theorem natOdd {C:Mem}{u:Value}{m:Nat}(hu:NatC C u m):Gives cx.P 113 [u] C (.bool (decide (m % 2=1))):=by
 obtain ⟨a,ha,rfl,hsa⟩:=hu
 exact odd_fn C u a hsa ha.1
theorem natCmp {C:Mem}{u v:Value}{m n:Nat}(hu:NatC C u m)(hv:NatC C v n):Pur cx.P 66 [u,v] C fun w _=>∃ z:Int,w=.int .i64 z/\CmpRes m n z:=by
 obtain ⟨a,ha,rfl,hsa⟩:=hu
 obtain ⟨b,hb,rfl,hsb⟩:=hv
 exact compare_fn C u v a b hsa hsb ha hb
theorem NatC.form {C:Mem}{v:Value}{n:Nat}(h:NatC C v n):∃ A k c,v=.slice A k c/\(k=0 ↔ n=0)/\k<=9223372036854775807:=by
 obtain ⟨l,hl,rfl,hs⟩:=h
 obtain ⟨A,c,rfl,h1,h2,_⟩:=id hs
 refine ⟨A,l.length,c,by simp, ?_, ?_⟩
 ·rw [can_nil hl,List.length_eq_zero_iff]
 ·have hmx:maxLen<=9223372036854775807:=by simp [maxLen]
  simp only [List.length_map] at h1
  omega
theorem pow_sm {k m t x:Nat}(h:Sm k m)(hx:0<x)(hm:2 ^ t*x<=m):t<32*k:=by
 unfold Sm at h
 have e:B32 ^ k=2 ^ (32*k):=by rw [Nat.pow_mul]
 rw [e] at h
 have h1:2 ^ t*1<=2 ^ t*x:=Nat.mul_le_mul_left _ hx
 exact (Nat.pow_lt_pow_iff_right (by decide)).1 (by omega:2 ^ t<2 ^ (32*k))
theorem natGcd {C:Mem}{u v:Value}{m n k:Nat}(hu:NatC C u m)(hv:NatC C v n)(hm:Sm k m)(hn:Sm k n)(hk:k<=1000000)(hm0:0<m)(hn0:0<n):Pur cx.P 67 [u,v] C fun w D=>NatC D w (Nat.gcd m n):=by
 refine Fn.it kr_ Tryz.func67 50 fun w0=>?_
 refine G.z2 1 0 1 ?_
 refine G.z3 1 0 1 5 ?_
 refine G.loop (fun fr C' L' μ=>∃ (va vb:Value)(x y t:Nat),(NatC C' va x/\NatC C' vb y/\0<x/\0<y/\2 ^ t*Nat.gcd x y=Nat.gcd m n/\2 ^ t*x<=m/\x<=m/\y<=n)/\fr=[(0,[],va),(1,[],vb),(5,[],.int .i64 t)]/\L'=[]/\μ=x+1) (h_3 0 1 5) ⟨u,v,m,n,0,⟨hu,hv,hm0,hn0,by simp,by simp,Nat.le_refl _,Nat.le_refl _⟩,rfl,rfl,rfl⟩ (fun fr C0' L0' m hle0 hI=>?_)
 obtain ⟨va,vb,x,y,t,⟨hva,hvb,hx0,hy0,hg,hxm,hxm2,hyn⟩,rfl,rfl,rfl⟩:=hI
 have ht:=pow_sm hm hx0 hxm
 refine G.rp 1 fun R hR=>?_
 refine D.am (natOdd (hva.mono mup)) ?_
 refine D.ps 3 ?_
 refine D.aP (fun _=>(natOdd (hvb.mono mup))) ?_
 refine D.ae ?_
 refine D.aC rfl rfl rfl rfl rfl rfl rfl rfl ?_
 refine D.e4 0 1 5 13 hR ?_
 refine G.cd (fun h13=>?_) fun h13=>?_
 ·have hxe:x % 2=0/\y % 2=0:=by
   simp at h13;omega
  refine G.rp 1 fun R hR=>?_
  refine D.ap (natHalf (hva.mono mup) (hm.mono hxm2) om_) rfl rfl rfl rfl rfl rfl rfl fl_ (fun v15 C15 hle15 hq15=>?_)
  refine D.ae ?_
  refine D.ap (natHalf (hvb.mono mup) (hn.mono hyn) om_) rfl rfl rfl rfl rfl rfl rfl fl_ (fun v17 C17 hle17 hq17=>?_)
  refine D.q3 2 0 1 5 hR ?_
  refine G.rp 1 fun R hR=>?_
  refine D.ax _ ?_
  refine D.q3 1 0 1 5 hR ?_
  refine G.aB (m':=x / 2+1) om_ mup (h_3 0 1 5) ⟨v15,v17,x / 2,y / 2,t+1,⟨hq15.mono mup,hq17.mono mup,by omega,by omega,by rw [Nat.pow_succ,Nat.mul_assoc,<- gcd_even hxe.1 hxe.2];exact hg,by rw [Nat.pow_succ,Nat.mul_assoc,show 2*(x / 2)=x by omega];exact hxm,by omega,by omega⟩,rfl,rfl,rfl⟩
 ·have hxo:x % 2=1∨y % 2=1:=by
   simp at h13;omega
  have hgo:=gcd_odd hxo
  obtain ⟨g,hgd⟩:∃ g,Nat.gcd x y=g:=⟨_,rfl⟩
  rw [hgd] at hg hgo
  refine G.loop (fun fr C' L' μ=>∃ (wa wb:Value)(p q:Nat),(NatC C' wa p/\NatC C' wb q/\0<q/\Nat.gcd p q=g/\Sm k p/\Sm k q)/\fr=[(0,[],wa),(1,[],wb),(5,[],.int .i64 t)]/\L'=[]/\μ=p+q) (h_3 0 1 5) ⟨va,vb,x,y,⟨hva.mono mup,hvb.mono mup,hy0,hgd,hm.mono hxm2,hn.mono hyn⟩,rfl,rfl,rfl⟩ (fun fr C1' L1' m hle1 hI=>?_)
  obtain ⟨wa,wb,p,q,⟨hwa,hwb,hq0,hpq,hsp,hsq⟩,rfl,rfl,rfl⟩:=hI
  obtain ⟨A0,z0,c0,rfl,hz0,hz1⟩:=hwa.form
  refine G.z4 3 0 1 5 22 ?_
  refine G.cd (fun h22=>?_) fun h22=>?_
  ·have hp0:0<p:=by
    have:(0:Int)<(z0:Int):=by simpa using h22
    have:=mt hz0.2
    omega
   refine G.loop (fun fr C' L' μ=>∃ (wp:Value)(p2:Nat),(NatC C' wp p2/\0<p2/\p2<=p/\Nat.gcd p2 q=g)/\fr=[(0,[],wp),(1,[],wb),(5,[],.int .i64 t)]/\L'=[]/\μ=p2+1) (h_3 0 1 5) ⟨_,p,⟨hwa.mono mup,hp0,Nat.le_refl _,hpq⟩,rfl,rfl,rfl⟩ (fun fr C2' L2' m hle2 hI=>?_)
   obtain ⟨wp,p2,⟨hwp,hp20,hp2p,hp2g⟩,rfl,rfl,rfl⟩:=hI
   refine G.rp 1 fun R hR=>?_
   refine D.am (natOdd (hwp.mono mup)) ?_
   refine D.q4 1 0 1 5 25 hR ?_
   refine G.cd (fun h25=>?_) fun h25=>?_
   ·have hpe:p2 % 2=0:=by
     simp at h25;omega
    refine G.rp 1 fun R hR=>?_
    refine D.ap (natHalf (hwp.mono mup) (hsp.mono hp2p) om_) rfl rfl rfl rfl rfl rfl rfl fl_ (fun v27 C27 hle27 hq27=>?_)
    refine D.q3 1 0 1 5 hR ?_
    refine G.aB (m':=p2 / 2+1) om_ mup (h_3 0 1 5) ⟨v27,p2 / 2,⟨hq27.mono mup,by omega,by omega,gcd_half hp2g hgo hpe⟩,rfl,rfl,rfl⟩
   ·refine G.loop (fun fr C' L' μ=>∃ (wq:Value)(q2:Nat),(NatC C' wq q2/\0<q2/\q2<=q/\Nat.gcd p2 q2=g)/\fr=[(0,[],wp),(1,[],wq),(5,[],.int .i64 t)]/\L'=[]/\μ=q2+1) (h_3 0 1 5) ⟨_,q,⟨hwb.mono mup,hq0,Nat.le_refl _,hp2g⟩,rfl,rfl,rfl⟩ (fun fr C3' L3' m hle3 hI=>?_)
    obtain ⟨wq,q2,⟨hwq,hq20,hq2q,hq2g⟩,rfl,rfl,rfl⟩:=hI
    refine G.rp 1 fun R hR=>?_
    refine D.am (natOdd (hwq.mono mup)) ?_
    refine D.q4 1 0 1 5 30 hR ?_
    refine G.cd (fun h30=>?_) fun h30=>?_
    ·have hqe:q2 % 2=0:=by
      simp at h30;omega
     refine G.rp 1 fun R hR=>?_
     refine D.ap (natHalf (hwq.mono mup) (hsq.mono hq2q) om_) rfl rfl rfl rfl rfl rfl rfl fl_ (fun v32 C32 hle32 hq32=>?_)
     refine D.q3 1 0 1 5 hR ?_
     refine G.aB (m':=q2 / 2+1) om_ mup (h_3 0 1 5) ⟨v32,q2 / 2,⟨hq32.mono mup,by omega,by omega,by rw [Nat.gcd_comm];exact gcd_half (by rw [Nat.gcd_comm];exact hq2g) hgo hqe⟩,rfl,rfl,rfl⟩
    ·refine G.rp 2 fun R hR=>?_
     refine D.aJ (natCmp (hwp.mono mup) (hwq.mono mup)) (fun v35 C35 hle35 hq35=>?_)
     obtain ⟨z,rfl,hz⟩:=hq35
     refine D.q4 1 0 1 5 36 hR ?_
     refine G.cd (fun h36=>?_) fun h36=>?_
     ·have hlt:p2<q2:=hz.1.1 (by simpa using h36)
      refine G.z3 4 0 1 5 ?_
      refine G.rp 2 fun R hR=>?_
      refine D.ap (natSub (hwq.mono mup) (hwp.mono mup) (hsq.mono hq2q) (Nat.le_of_lt hlt) om_) rfl rfl rfl rfl rfl rfl rfl fl_ (fun v41 C41 hle41 hq41=>?_)
      refine D.q3 1 0 1 5 hR ?_
      refine G.aB (m':=q2-p2+p2) om_ mup (h_3 0 1 5) ⟨v41,wp,q2-p2,p2,⟨hq41.mono mup,hwp.mono mup,hp20,gcd_sub (by rw [Nat.gcd_comm];exact hq2g) (Nat.le_of_lt hlt),hsq.mono om_,hsp.mono hp2p⟩,rfl,rfl,rfl⟩
     ·have hlt:q2<=p2:=by
       have h1:¬ z<0:=by simpa using h36
       have:=mt hz.1.2 h1
       omega
      refine G.rp 2 fun R hR=>?_
      refine D.ap (natSub (hwp.mono mup) (hwq.mono mup) (hsp.mono hp2p) hlt om_) rfl rfl rfl rfl rfl rfl rfl fl_ (fun v41 C41 hle41 hq41=>?_)
      refine D.q3 1 0 1 5 hR ?_
      refine G.aB (m':=p2-q2+q2) om_ mup (h_3 0 1 5) ⟨v41,wq,p2-q2,q2,⟨hq41.mono mup,hwq.mono mup,hq20,gcd_sub hq2g hlt,hsp.mono om_,hsq.mono hq2q⟩,rfl,rfl,rfl⟩
  ·have hp0:p=0:=by
    have:¬ (0:Int)<(z0:Int):=by simpa using h22
    exact hz0.1 om_
   have hqg:q=g:=by rw [<- hpq,hp0,Nat.gcd_zero_left]
   refine G.z3 2 1 42 43 ?_
   refine G.loop (fun fr C' L' μ=>∃ (i:Nat)(wr:Value),(i<=t/\NatC C' wr (2 ^ i*g))/\fr=[(1,[],wr),(42,[],.int .i64 t),(43,[],.int .i64 i)]/\L'=[]/\μ=t-i) (h_3 1 42 43) ⟨0,_,⟨Nat.zero_le _,by rw [Nat.pow_zero,Nat.one_mul,<- hqg];exact hwb.mono mup⟩,rfl,rfl,rfl⟩ (fun fr C4' L4' m hle4 hI=>?_)
   obtain ⟨i,wr,⟨hit,hwr⟩,rfl,rfl,rfl⟩:=hI
   refine G.z4 1 1 42 43 44 ?_
   refine G.cd (fun h44=>?_) fun h44=>?_
   ·have hit2:i<t:=by simpa using h44
    have hsm:Sm k (2 ^ i*g):=by
     refine hm.mono (Nat.le_trans ?_ (Nat.gcd_le_left n hm0))
     rw [<- hg]
     exact Nat.mul_le_mul_right _ (Nat.pow_le_pow_right (by decide) hit)
    refine G.rp 2 fun R hR=>?_
    refine D.ap (natAdd (hwr.mono mup) (hwr.mono mup) hsm hsm om_) rfl rfl rfl rfl rfl rfl rfl fl_ (fun v47 C47 hle47 hq47=>?_)
    refine D.q3 1 1 42 43 hR ?_
    refine G.rg fun R hR=>?_
    refine D.ax _ ?_
    refine D.q3 1 1 42 43 hR ?_
    refine G.aB (m':=t-(i+1)) om_ mup (h_3 1 42 43) ⟨i+1,v47,⟨by omega,by rw [Nat.pow_succ,show 2 ^ i*2*g=2 ^ i*g+2 ^ i*g by rw [Nat.mul_assoc,Nat.mul_left_comm];omega];exact hq47.mono mup⟩,rfl,rfl,rfl⟩
   ·have hit2:i=t:=by
     have:¬ i<t:=by simpa using h44
     omega
    refine G.z1 2 4 ?_
    refine G.rf ?_
    rw [<- hg,<- hit2]
    exact ⟨rfl,hwr.mono mup⟩

theorem natOne {C:Mem}{v:Value}(h:Sl C 1 v [[.int .u32 1]]):NatC C v 1:=⟨[1],⟨fun x hx=>by rw [List.mem_singleton.1 hx];decide,by decide⟩,rfl,h⟩
theorem natNil (C:Mem):NatC C (.slice none 0 0) 0:=⟨[],⟨(fun x hx=>(by cases hx)),by decide⟩,rfl,Sl.nil C 1⟩
theorem valD_top {a:List Nat}(ha:DigD a):valD a / 2 ^ (32*a.length)=0:=by
 refine Nat.div_eq_of_lt ?_
 have h:=valD_lt ha
 have e:B32 ^ a.length=2 ^ (32*a.length):=by rw [Nat.pow_mul]
 omega
theorem nover_fn {C:Mem}{ua v:Value}{a:List Nat}{b k:Nat}(hs:Sl C 1 ua (a.map encW))(hca:CanD a)(hv:NatC C v b)(hk:k<=1000000)(hl:a.length<=k)(hb:Sm k b)(hb0:0<b):Pur cx.P 117 [ua,v] C fun w D=>NatC D w (valD a / b):=by
 obtain ⟨A0,c0,rfl,_⟩:=id hs
 simp only [List.length_map] at hs ⊢
 have hB:B32=4294967296:=rfl
 have hda:=hca.1
 refine Fn.it kr_ Tryz.func117 54 fun w0=>?_
 refine G.z2 1 0 1 ?_
 refine G.rp 2 fun R hR=>?_
 refine D.a8 rfl rfl rfl rfl rfl rfl rfl rfl rfl (Nat.le_refl _) (by show 4*a.length<=281474976710656;omega) (by simp only [maxLen];omega) fl_ (fun b10=>?_)
 refine D.q3 1 0 1 5 hR ?_;clear hR R
 refine G.z4 1 0 1 5 6 ?_
 refine G.rp 2 fun R hR=>?_
 refine D.i64 (((32*a.length:Nat):Int)) rfl rfl rfl rfl om_ om_ om_ rfl rfl ?_
 refine D.ax _ ?_
 refine D.q5 1 0 1 5 6 7 hR ?_;clear hR R
 refine G.bv (L':=[.arr (qW b10 a.length a.length) 169 1 a.length ((List.replicate a.length 0).map encW).flatten]) (by rw [<- zrow_W];rfl) ?_
 refine G.loop (fun fr C' L' μ=>∃ (p:Nat)(wr:Value)(o:List Nat),(p<=32*a.length/\o.length=a.length/\DigD o/\NatC C' wr (valD a / 2 ^ p % b)/\valD o=2 ^ p*(valD a / 2 ^ p / b))/\fr=[(0,[],.slice A0 a.length c0),(1,[],v),(5,[],qW b10 a.length a.length),(6,[],wr),(7,[],.int .i64 ((p:Int)-1))]/\L'=[.arr (qW b10 a.length a.length) 169 1 a.length (o.map encW).flatten]/\μ=p+1) (h_5 0 1 5 6 7) ⟨32*a.length,_,List.replicate a.length 0,⟨Nat.le_refl _,List.length_replicate,(fun x hx=>by rw [List.eq_of_mem_replicate hx];decide),by rw [valD_top hda,Nat.zero_mod];exact natNil _,by rw [valD_top hda,Nat.zero_div,Nat.mul_zero];exact valD_zeros (fun x hx=>List.eq_of_mem_replicate hx)⟩,rfl,rfl,rfl⟩ (fun fr C0' L0' m hle0 hI=>?_)
 obtain ⟨p,wr,o,⟨hp,hol,hod,hwr,hov⟩,rfl,rfl,rfl⟩:=hI
 refine G.z6 2 0 1 5 6 7 16 ?_
 refine G.cd (fun h16=>?_) fun h16=>?_
 ·have hp0:0<p:=by
   have:(0:Int)<=(p:Int)-1:=by simpa using h16
   omega
  obtain ⟨j,rfl⟩:∃ j,p=j+1:=⟨p-1,by omega⟩
  rw [show ((j+1:Nat):Int)-1=(j:Int) by omega]
  have hjl:j / 32<a.length:=by omega
  have hra:(a.map encW)[((j / 32:Nat):Int).toNat]?=some (encW (gD a (j / 32))):=by rw [show ((j / 32:Nat):Int).toNat=j / 32 from rfl,List.getElem?_map,gD_get hjl];rfl
  have hx:=gD_lt hda (j / 32)
  have hbit:=bitD (p:=j) hda
  have hr1:valD a / 2 ^ (j+1) % b<b:=Nat.mod_lt _ hb0
  have hr2:Sm k (valD a / 2 ^ (j+1) % b):=hb.mono (Nat.le_of_lt hr1)
  have hbits:=over_bit (A:=valD a) (p:=j) hb0 hov rfl
  refine G.rp 2 fun R hR=>?_
  refine D.ap (natAdd (hwr.mono mup) (hwr.mono mup) hr2 hr2 om_) rfl rfl rfl rfl rfl rfl rfl fl_ (fun v21 C21 hle21 hq21=>?_)
  refine D.q5 1 0 1 5 6 7 hR ?_;clear hR R
  refine G.rp 2 fun R hR=>?_
  refine D.quoT ((j / 32:Nat):Int) rfl rfl rfl rfl rfl rfl om_ rfl (by rw [IntKind.wrap_i64];omega) rfl rfl ?_
  refine D.ai (hs.mono mup) rfl rfl rfl rfl rfl rfl rfl rfl rfl rfl om_ hra fl_ (fun p25 hp25=>?_)
  refine D.aa hp25 ?_
  refine D.ae ?_
  refine D.rem rfl rfl rfl rfl rfl rfl om_ om_ rfl rfl ?_
  refine D.shrW ((gD a (j / 32))) ((j % 32)) rfl rfl rfl rfl rfl rfl rfl rfl om_ rfl rfl ?_
  refine D.andW ((gD a (j / 32) / 2 ^ (j % 32))) (1) rfl rfl rfl rfl rfl rfl rfl rfl (Nat.lt_of_le_of_lt (Nat.div_le_self _ _) hx) om_ rfl rfl ?_
  refine D.q6 1 0 1 5 6 7 31 hR ?_;clear hR R
  refine G.bH (fun fr C' L' μ=>∃ (wq:Value),(NatC C' wq (2*(valD a / 2 ^ (j+1) % b)+valD a / 2 ^ j % 2))/\fr=[(0,[],.slice A0 a.length c0),(1,[],v),(5,[],qW b10 a.length a.length),(6,[],wq),(7,[],.int .i64 (j:Int))]/\L'=[.arr (qW b10 a.length a.length) 169 1 a.length (o.map encW).flatten]) ?_ (fun fr C31 L31 μ hle31 hI=>?_)
  ·refine G.cd (fun h31=>?_) fun h31=>?_
   ·have hb1:valD a / 2 ^ j % 2=1:=by
     rw [Nat.and_one_is_mod,hbit] at h31
     have:=of_decide_eq_true h31
     omega
    refine G.rp 1 fun R hR=>?_
    refine D.ah [[.int .u32 1]] (fun p33 C33 hle33 hs33=>?_)
    refine D.ap (natAdd (hq21.mono mup) (natOne (hs33.mono mup)) (hr2.add hr2) (Sm.le (k:=1) (Sm.one (by decide)) om_) om_) rfl rfl rfl rfl rfl rfl rfl fl_ (fun v34 C34 hle34 hq34=>?_)
    refine D.q5 1 0 1 5 6 7 hR ?_;clear hR R
    refine G.ay 0 mup (h_5 0 1 5 6 7) ⟨v34,by rw [hb1,show 2*(valD a / 2 ^ (j+1) % b)=valD a / 2 ^ (j+1) % b+valD a / 2 ^ (j+1) % b by omega];exact hq34.mono mup,rfl,rfl⟩
   ·have hb1:valD a / 2 ^ j % 2=0:=by
     rw [Nat.and_one_is_mod,hbit] at h31
     have:=of_decide_eq_false h31
     omega
    refine G.ay 0 mup (h_5 0 1 5 6 7) ⟨v21,by rw [hb1,show 2*(valD a / 2 ^ (j+1) % b)=valD a / 2 ^ (j+1) % b+valD a / 2 ^ (j+1) % b by omega];exact hq21.mono mup,rfl,rfl⟩
  ·obtain ⟨wq,hwq,rfl,rfl⟩:=hI
   have hr3:Sm (k+1) (2*(valD a / 2 ^ (j+1) % b)+valD a / 2 ^ j % 2):=(hb.add hb).mono om_
   refine G.rp 2 fun R hR=>?_
   refine D.aJ (natCmp (hwq.mono mup) (hv.mono mup)) (fun v37 C37 hle37 hq37=>?_)
   obtain ⟨z,rfl,hz⟩:=hq37
   refine D.q6 1 0 1 5 6 7 38 hR ?_;clear hR R
   refine G.cd (fun h38=>?_) fun h38=>?_
   ·have hge:b<=2*(valD a / 2 ^ (j+1) % b)+valD a / 2 ^ j % 2:=by
     have h0:(0:Int)<=z:=by simpa using h38
     have:=mt hz.1.2 om_
     omega
    refine G.rp 2 fun R hR=>?_
    refine D.ap (natSub (hwq.mono mup) (hv.mono mup) hr3 hge om_) rfl rfl rfl rfl rfl rfl rfl fl_ (fun v41 C41 hle41 hq41=>?_)
    refine D.q5 1 0 1 5 6 7 hR ?_;clear hR R
    have ho:=gD_lt hod (j / 32)
    have hget:o[j / 32]?=some (gD o (j / 32)):=gD_get om_
    have hfree:gD o (j / 32) % 2 ^ (j % 32+1)=0:=part_free hod ⟨_,hov⟩
    have h2r:2 ^ (j % 32)<4294967296:=Nat.lt_of_lt_of_le (Nat.pow_lt_pow_right (by decide) (Nat.mod_lt j (by decide:0<32))) (by decide)
    refine G.aI [0,1,2,3,4,5,6,7,8,9,10] [] rfl kr_ (fun R hB hR=>?_)
    refine D.ps 2 ?_
    refine D.quoT ((j / 32:Nat):Int) rfl rfl rfl rfl rfl rfl om_ rfl (by rw [IntKind.wrap_i64];omega) rfl rfl ?_
    refine D.aO ((j / 32)*1) rfl rfl rfl rfl rfl rfl rfl rfl rfl rfl (fun _=>⟨by omega,by omega,rfl⟩) rfl rfl ?_
    refine D.bh (.head _) rfl rfl rfl rfl rfl rfl (fun _=>(by rw [bB bP hget];rfl)) rfl rfl ?_
    refine D.ae ?_
    refine D.rem rfl rfl rfl rfl rfl rfl om_ om_ rfl rfl ?_
    refine D.shlW (1) ((j % 32)) rfl rfl rfl rfl rfl rfl rfl rfl om_ rfl rfl ?_
    refine D.orW ((gD o (j / 32))) ((1*2 ^ (j % 32) % 4294967296)) rfl rfl rfl rfl rfl rfl rfl rfl om_ om_ rfl rfl ?_
    refine D.aO ((j / 32)*1) rfl rfl rfl rfl rfl rfl rfl rfl rfl rfl (fun _=>⟨by omega,by omega,rfl⟩) rfl rfl ?_
    refine D.aW (j:=0) rfl rfl rfl rfl rfl rfl rfl rfl rfl rfl rfl (by show (j / 32)*1+1<=_;rw [bk bP,hol];omega) ?_
    refine D.e5 0 1 5 6 7 hR ?_;clear hR hB R
    refine G.rp 1 fun R hR=>?_
    refine D.ax _ ?_
    refine D.q5 1 0 1 5 6 7 hR ?_;clear hR R
    rw [Nat.one_mul,Nat.mod_eq_of_lt h2r,or_bit hfree]
    refine G.bv (L':=[.arr (qW b10 a.length a.length) 169 1 a.length ((o.set (j / 32) (gD o (j / 32)+2 ^ (j % 32))).map encW).flatten]) (by rw [<- be bP _ (by omega:j / 32<o.length)];rfl) ?_
    refine G.aB (m':=j+1) om_ mup (h_5 0 1 5 6 7) ⟨j,v41,o.set (j / 32) (gD o (j / 32)+2 ^ (j % 32)),⟨by omega,by simp [hol],hod.set (by rw [<- or_bit hfree];exact Nat.or_lt_two_pow (n:=32) ho h2r),by rw [<- (hbits.1 hge).2];exact hq41.mono mup,by
     have h1:=valD_set (z:=gD o (j / 32)+2 ^ (j % 32)) hget
     rw [Nat.mul_add,pow_B32] at h1
     rw [<- (hbits.1 hge).1]
     omega⟩,rfl,rfl,rfl⟩
   ·have hge:¬ b<=2*(valD a / 2 ^ (j+1) % b)+valD a / 2 ^ j % 2:=by
     have h0:¬ (0:Int)<=z:=by simpa using h38
     have:=hz.1.1 om_
     omega
    refine G.rp 1 fun R hR=>?_
    refine D.ax _ ?_
    refine D.q5 1 0 1 5 6 7 hR ?_;clear hR R
    refine G.aB (m':=j+1) om_ mup (h_5 0 1 5 6 7) ⟨j,wq,o,⟨by omega,hol,hod,by rw [<- (hbits.2 hge).2];exact hwq.mono mup,(hbits.2 hge).1⟩,rfl,rfl,rfl⟩
 ·have hp0:p=0:=by
   have:¬ (0:Int)<=(p:Int)-1:=by simpa using h16
   omega
  refine G.aS [(1,3)] rfl (fun R hR=>?_)
  refine D.ae ?_
  refine D.call (trimO_fn _ _ o hol) rfl (.inr (by decide)) rfl rfl rfl rfl rfl rfl (List.Perm.refl _) fl_ (fun v53 C53 L53 hle53 hq53=>?_)
  obtain ⟨rfl,hu⟩:=hq53
  refine D.q1 1 4 hR ?_;clear hR R
  refine G.rf ?_
  refine ⟨rfl,trimD o,dR hod, ?_,hu⟩
  rw [dQ,hov,hp0,Nat.pow_zero,Nat.one_mul,Nat.div_one]
end Go.Proofs.YtjhmlnebikbdbaaGreatDoor
namespace Go.Jog
open Go
structure RankS (A:List Arc3)(n:Nat)(S:Arc3->Prop)(e:List Nat):Prop where
 len:e.length=n
 sound:∀ v,v<n->∃ u,Walk A (hAt e v) u v
 up:∀ a∈A,S a->hAt e a.lo+1<=hAt e a.up
theorem RankS.start {A:List Arc3}{n:Nat}:RankS A n (fun _=>False) (List.replicate n 0):=by
 refine ⟨by simp,fun v hv=>⟨v, ?_⟩,fun a _ h=>h.elim⟩
 have:hAt (List.replicate n 0) v=0:=by simp [hAt,List.getD_eq_getElem?_getD,hv]
 rw [this];exact Walk.zero.2 rfl
theorem RankS.mono {A:List Arc3}{n:Nat}{S T:Arc3->Prop}{e:List Nat}(h:RankS A n S e)(hs:∀ a∈A,T a->S a):RankS A n T e :=
 ⟨h.len,h.sound,fun a ha ht=>h.up a ha (hs a ha ht)⟩
theorem RankS.step {A:List Arc3}{n:Nat}{S:Arc3->Prop}{e:List Nat}{a:Arc3}(h:RankS A n S e)(ha:a∈A)(hlo:a.lo<n)(hup:a.up<n)(hne:a.up≠a.lo)(hnp:∀ b∈A,S b->b.lo≠a.up) :
  RankS A n (fun b=>S b∨b=a) (e.set a.up (max (hAt e a.up) (hAt e a.lo+1))):=by
 have hl:=h.len
 have hs:∀ v,hAt (e.set a.up (max (hAt e a.up) (hAt e a.lo+1))) v=if v=a.up then max (hAt e a.up) (hAt e a.lo+1) else hAt e v:=fun v=>hAt_setB om_
 have hge:∀ v,hAt e v<=hAt (e.set a.up (max (hAt e a.up) (hAt e a.lo+1))) v:=fun v=>by
  rw [hs];split
  ·rename_i e1;subst e1;exact Nat.le_max_left _ _
  ·exact Nat.le_refl _
 refine ⟨by simp [hl],fun v hv=>?_,fun b hb hbp=>?_⟩
 ·rw [hs]
  by_cases e1:v=a.up
  ·subst e1
   rw [if_pos rfl]
   rcases Nat.le_total (hAt e a.up) (hAt e a.lo+1) with h1 | h1
   ·rw [Nat.max_eq_right h1]
    obtain ⟨u,hu⟩:=h.sound a.lo hlo
    exact ⟨u,Walk.snoc.2 ⟨a,ha,rfl,hu⟩⟩
   ·rw [Nat.max_eq_left h1];exact h.sound _ hv
  ·rw [if_neg e1];exact h.sound v hv
 ·rcases hbp with hbp | rfl
  ·have h1:=h.up b hb hbp
   rw [hs b.lo,if_neg (hnp b hb hbp)]
   exact Nat.le_trans h1 (hge _)
  ·rw [hs b.lo,if_neg (Ne.symm hne),hs b.up,if_pos rfl]
   exact Nat.le_max_right _ _
theorem RankS.done {A:List Arc3}{n:Nat}{S:Arc3->Prop}{e:List Nat}(h:RankS A n S e)(hb:Below n A)(hall:∀ a∈A,S a){v:Nat}(hv:v<n):LongTo A v (hAt e v):=by
 refine ⟨h.sound v hv, ?_⟩
 intro k
 induction k generalizing v with
 | zero=>intro u _;omega
 | succ k ih =>
  intro u hw
  obtain ⟨a,ha,hu,hw2⟩:=Walk.snoc.1 hw
  subst hu
  have h1:=h.up a ha (hall a ha)
  have h2:=ih (hb a ha).1 _ hw2
  omega

def IsMost (e:List Nat)(xs:List Nat)(m:Nat):Prop:=(∀ x∈xs,hAt e x<=m)/\(m=0∨∃ x∈xs,hAt e x=m)
theorem IsMost.snoc {e xs:List Nat}{m i:Nat}(h:IsMost e xs m):IsMost e (xs++[i]) (max m (hAt e i)):=by
 refine ⟨fun x hx=>?_, ?_⟩
 ·rcases List.mem_append.1 hx with h1 | h1
  ·exact Nat.le_trans (h.1 x h1) (Nat.le_max_left _ _)
  ·rw [List.mem_singleton.1 h1];exact Nat.le_max_right _ _
 ·rcases Nat.le_total m (hAt e i) with h1 | h1
  ·rw [Nat.max_eq_right h1];exact .inr ⟨i,by simp,rfl⟩
  ·rw [Nat.max_eq_left h1]
   rcases h.2 with h2 | ⟨x,hx,h2⟩
   ·exact .inl h2
   ·exact .inr ⟨x,by simp [hx],h2⟩
end Go.Jog
namespace Go.Jog
open Go
theorem Fn.frozen {P:Program}{f:FuncId}{args:List Value}{C:Mem}{L:List Ent}{v:Value}{t size len:Nat}{xs:List Value}{post:Value->Mem->List Ent->Prop}(rows:List (List Value))(hen:Enters P f=true)(hx:xs=rows.flatten)(hl:∀ r∈rows,r.length=size)(hn:rows.length=len)
  (h:∀ C',C.le C'->Sl C' size v rows->Fn P f args C' L post):Fn P f args C (.arr v t size len xs::L) post:=by
 subst hx
 refine ⟨hen,fun w hw=>?_⟩
 obtain ⟨C',h1,h2,h3⟩:=St.freezeArr (St.start hw) hl hn
 refine ((h C' h1 h2).2 w h3.sep).mono fun e w' ⟨v,C'',L'',e1,h4,h5⟩=>⟨v,C'',L'',e1, ?_,h5⟩
 have:=St.call (Lr:=[]) (by rw [List.append_nil];exact h3) h4
 rwa [List.append_nil] at this

def chG (ds:List (Option Nat))(fr:Fr):GL->Bool
 | []=>true
 | (j,_)::r=>(match ((ds[j]?).bind id).bind fr.get with
  | some (g',.bool _)=>g' == r
  | _=>false) && chG ds fr r
theorem GH_of_GT {n:Nat}{ds:List (Option Nat)}{fr:Fr}{a:Act}{dd:List Deferred}(h:FrOk n ds dd fr a):∀ {g:GL},chG ds fr g=true->GT ds fr g->GH ds a.tmps g
 | [],_,_=>fun p hp=>by cases hp
 | (j,w)::r,hc,hg=>by
  simp only [chG,Bool.and_eq_true] at hc
  have ih:=GH_of_GT h hc.2 hg.2
  have h1:=hg.1
  have h2:=hc.1
  cases hd:(ds[j]?).bind id with
  | none=>rw [hd] at h2;simp at h2
  | some d =>
   rw [hd] at h1 h2
   simp only [Option.bind_some] at h1 h2
   split at h2
   ·rename_i g' b hb
    rw [hb] at h1
    simp only at h1
    simp only [beq_iff_eq] at h2
    subst h2
    subst h1
    intro p hp
    rcases List.mem_cons.1 hp with rfl | hp
    ·unfold yld
     rw [hd]
     have:=(h.ent d g' (.bool b) hb).1 ih
     simp [this]
    ·exact ih p hp
   ·cases h2
section
variable {cx:Cx} {n:Nat} {ds:List (Option Nat)} {R:Rg n ds} {its:List It} {fr:Fr} {C:Mem} {L:List Ent} {i k d:Nat} {o:Oper} {g:GL}
theorem D.eF {β:Type}[Inhabited β](f0:β->Value){post:β->Mem->Prop}{f:Operand}{args:Array Operand}{ts:Array TypeId}{fid:FuncId}{fi ca:Array Value}{vs args':List Value}
  (c:GT ds fr g->Pur cx.P fid args' C fun v C'=>∃ b,v=f0 b/\post b C') (hk:Nat.ble k 1=false) (hd:o.dst=some d) (hg:gOf ds fr o.guard=some g) (hop:o.op=.call ⟨.value f,args,ts⟩) (hf:ev fr g f=some (.func (.func fid) fi ca))
  (hargs:listO (ev fr g) args.toList=some vs) (he:fi.toList++vs++ca.toList=args') (hp:∀ b,aH n ds ((d,g,f0 b)::fr) d=true) (hwf:wfG ds fr g=true) (hch:chG ds fr g=true)
  (h:∀ b C',C.le C'->(GT ds fr g->post b C')->D cx R its ((d,g,f0 b)::fr) C' L):D cx R ((i,k,o)::its) fr C L:=by
 intro hC0 hits a ha
 obtain ⟨hkd,ho⟩:=hits (i,k,o) (by simp)
 simp only at hkd ho
 have hk1:¬ k<=1:=fun hle=>by rw [<- Nat.ble_eq] at hle;rw [hle] at hk;cases hk
 simp only [List.map_cons,DU]
 unfold cI
 simp only [ho,hkd,hk1,if_false]
 intro w hw
 unfold wpOp
 simp only [ho]
 have hwt:=dP R.hy ha hg
 by_cases hG:GH ds a.tmps g
 ·have hGT:=GT_of ha hG (wfG_spec hwf)
  have hon:Region.wanted o (yielded R.ops a.tmps)=true:=hwt.2 hG
  simp only [hon,if_true]
  refine .inl ?_
  unfold Oper.wp
  rw [run_call hop (aT ha hG hf) (b0 (fun x y=>aT ha hG) hargs) he (c hGT).1 w]
  simp only [Oper.upon]
  refine ((c hGT).callAt (Lp:=[]) (Lr:=L) hw).mono fun e w' ⟨v,C',L',e1,h1,h2,h3,b,h4,h5⟩=>?_
  subst h3;subst h4;subst e1
  refine ⟨(C',L),fun _=>⟨h1,fun _ hx=>hx⟩,h2, ?_⟩
  rw [hd]
  exact h b C' h1 (fun _=>h5) (hC0.trans h1) (fun x hx=>hits x (by simp [hx])) _ (ha.put (hp b) ⟨fun _=>rfl,fun hn=>absurd hG hn⟩)
 ·have hoff:Region.wanted o (yielded R.ops a.tmps)=false:=by
   cases hx:Region.wanted o (yielded R.ops a.tmps) with
   | false=>rfl
   | true=>exact absurd (hwt.1 hx) hG
  simp only [hoff,Bool.false_eq_true,if_false]
  refine ⟨(C,L),fun _=>kle.refl _,hw, ?_⟩
  rw [hd]
  exact h default C (Mem.le.refl _) (fun hGT=>absurd (GH_of_GT ha hch hGT) hG) hC0 (fun x hx=>hits x (by simp [hx])) _ (ha.put (hp default) ⟨fun hn=>absurd hn hG,fun _=>rfl⟩)
end
end Go.Jog
namespace Go.Jog
open Go
section
variable {cx:Cx} {n:Nat} {ds:List (Option Nat)} {R:Rg n ds} {its:List It} {fr:Fr} {C:Mem} {L:List Ent} {i k d:Nat} {o:Oper} {g:GL}
theorem D.newConstG {f:Nat->Value}{ob:Obj}(hk:Nat.ble k 1=false)(hd:o.dst=some d)(hg:gOf ds fr o.guard=some g)(hp:∀ b,aH n ds ((d,g,f b)::fr) d=true)(hwf:wfG ds fr g=true)(hch:chG ds fr g=true)
  (hrun:GT ds fr g->∀ a,Sees (ev fr g) a->∀ w,(execOp a.eval o).run cx.P w=.ok (.value (f w.heap.size)) (w.alloc ob))
  (h:∀ b C',C.le C'->(GT ds fr g->C' b=some ob)->D cx R its ((d,g,f b)::fr) C' L):D cx R ((i,k,o)::its) fr C L:=by
 intro hC0 hits a ha
 obtain ⟨hkd,ho⟩:=hits (i,k,o) (by simp)
 simp only at hkd ho
 have hk1:¬ k<=1:=fun hle=>by rw [<- Nat.ble_eq] at hle;rw [hle] at hk;cases hk
 simp only [List.map_cons,DU]
 unfold cI
 simp only [ho,hkd,hk1,if_false]
 intro w hw
 unfold wpOp
 simp only [ho]
 have hwt:=dP R.hy ha hg
 by_cases hG:GH ds a.tmps g
 ·have hGT:=GT_of ha hG (wfG_spec hwf)
  have hon:Region.wanted o (yielded R.ops a.tmps)=true:=hwt.2 hG
  simp only [hon,if_true]
  refine .inl ?_
  unfold Oper.wp
  rw [hrun hGT a (fun x v hx=>aT ha hG hx) w]
  have h1:=St.alloc hw ob
  have h2:=h1.freeze
  refine ⟨(C.set w.heap.size ob,L),fun _=>⟨h2.1,fun _ hx=>hx⟩,h2.2, ?_⟩
  rw [hd]
  exact h w.heap.size _ h2.1 (fun _=>Mem.set_self _ _ _) (hC0.trans h2.1) (fun x hx=>hits x (by simp [hx])) _ (ha.put (hp _) ⟨fun _=>rfl,fun hn=>absurd hG hn⟩)
 ·have hoff:Region.wanted o (yielded R.ops a.tmps)=false:=by
   cases hx:Region.wanted o (yielded R.ops a.tmps) with
   | false=>rfl
   | true=>exact absurd (hwt.1 hx) hG
  simp only [hoff,Bool.false_eq_true,if_false]
  refine ⟨(C,L),fun _=>kle.refl _,hw, ?_⟩
  rw [hd]
  exact h 0 C (Mem.le.refl _) (fun hGT=>absurd (GH_of_GT ha hch hGT) hG) hC0 (fun x hx=>hits x (by simp [hx])) _ (ha.put (hp 0) ⟨fun hn=>absurd hn hG,fun _=>rfl⟩)
theorem D.bE {t e len:Nat}{parts:Array (Nat × Operand)}{ti te:TI}(rows:List (List Value))(hk:Nat.ble k 1=false)(hd:o.dst=some d)(hg:gOf ds fr o.guard=some g)(hop:o.op=.buildSlice t len parts)
  (ht:cx.T.get t=some ti) (hte:ti.k=.slice e) (he:cx.T.get e=some te) (hrows:rowsO (ev fr g) parts.toList 0=some rows) (hl:(rows.all fun r=>Nat.beq r.length te.size)=true) (hlen:Nat.beq parts.toList.length len=true)
  (hbig:Nat.ble (len*te.size) 16777216=true) (hs0:Nat.beq te.size 0=false) (hp:∀ b,aH n ds ((d,g,.slice (some ⟨b,0,none⟩) rows.length rows.length)::fr) d=true) (hwf:wfG ds fr g=true) (hch:chG ds fr g=true)
  (h:∀ b C',C.le C'->(GT ds fr g->Sl C' te.size (.slice (some ⟨b,0,none⟩) rows.length rows.length) rows)->D cx R its ((d,g,.slice (some ⟨b,0,none⟩) rows.length rows.length)::fr) C' L):D cx R ((i,k,o)::its) fr C L:=by
 have hl':∀ r∈rows,r.length=te.size:=fun r hr=>Nat.eq_of_beq_eq_true (List.all_eq_true.1 hl r hr)
 have hlen':=Nat.eq_of_beq_eq_true hlen
 rw [Nat.ble_eq] at hbig
 have hpl:=(bF hrows hl').2
 refine D.newConstG (f:=fun b=>.slice (some ⟨b,0,none⟩) rows.length rows.length) (ob:=.cells ⟨rows.flatten⟩ e) hk hd hg hp hwf hch (fun _ a hs w=>?_) (fun b C' hle hb=>?_)
 ·have e1:execOp a.eval o=(do Pure.pure (.value (<- Instr.buildSlice t len (parts.map fun (i,x)=>(i,a.eval x)))):Sem Next):=by unfold execOp;rw [hop]
  rw [e1]
  have e2:(parts.map fun (i,x)=>(i,a.eval x))=(parts.toList.map fun (i,x)=>(i,a.eval x)).toArray:=by apply Array.ext';simp
  rw [e2]
  simp only [Sem.run_bind,cQ cx.hT ht hte he (fun x v hx=>hs x v hx) hrows hl' hlen' hbig w,Result.andThen_ok,Sem.run_pure]
 ·refine h _ C' hle (fun hG=>Sl.ofBlock (hb hG) hl' (fun j v hj=>by simpa using hj) (Nat.le_refl _) ?_)
  rw [hpl,hlen']
  have h0:0<te.size:=Nat.pos_of_ne_zero (fun e=>by rw [e] at hs0;cases hs0)
  have:len<=len*te.size:=Nat.le_mul_of_pos_right _ h0
  simp only [maxLen];omega
end
end Go.Jog
