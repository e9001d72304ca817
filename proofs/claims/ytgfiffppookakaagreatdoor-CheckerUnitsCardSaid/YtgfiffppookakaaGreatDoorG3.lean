/- Laws that the proofs of this seat share, part 3. -/
import Derived.Test.YtgfiffppookakaaGreatDoorG2
import Derived.Test.YtgfiffppookakaaGreatDoorShelf
import Derived.TacticsIn
import Derived.OrdersIn
import Derived.RangeFuncCalls
import Derived.RangeFuncSeq
import Derived.Lib.Bytealg
import Derived.Lib.ItoaMem
import Derived.Shelf.Spec.TrailingZeros
import Derived.Shelf.Strconv.Itoa3
import Derived.Shelf.Strconv.ParseUint10At
import Derived.Shelf.Strconv.Atoi
import Derived.Shelf.Small.Strs
import Derived.Lib.UnsafeStr
import Derived.Lib.AppendStr
import Derived.Shelf.Strconv.Itoa1
import Derived.Shelf.Strconv.Itoa2
import Derived.Laws.Externs
import Derived.Lib.Builder
import Derived.WideLaws
namespace Go.Jog

abbrev BP:Nat:=10000
def a6:List Nat->Nat
 | []=>0
 | x::l=>x+BP*a6 l
def DigP (l:List Nat):Prop:=∀ x∈l,x<BP
def vx (l:List Nat):Prop:=DigP l/\l.getLast?≠some 0
theorem fW:∀ (a b:List Nat),a6 (a++b)=a6 a+BP ^ a.length*a6 b
 | [],b=>by simp [a6]
 | x::a,b=>by
  simp only [LM,a6,fW a b,fh,Lb];rw [FX,<- K7,K8 (BP ^ a.length) BP,MY]
theorem mm (a:List Nat)(x:Nat):a6 (a++[x])=a6 a+BP ^ a.length*x:=by
 rw [fW];simp [a6]
theorem kc:∀ {l:List Nat},DigP l->a6 l<BP ^ l.length
 | [],_=>by simp [a6]
 | x::l,h=>by
  have h1:=h x (by simp);have h2:=kc (l:=l) (fun y hy=>h y (by simp [hy]));simp only [a6,fh,Lb];have h3:BP*(a6 l+1)<=BP*BP ^ l.length:=Ln _ h2;rw [K8 (BP ^ l.length) BP];rw [FX] at h3;omega
theorem fE {l:List Nat}{i x:Nat}(h:l[i]?=some x):a6 (l.take (i+1))=a6 (l.take i)+BP ^ i*x:=by
 have hi:=(aJ.1 h).1;rw [xO,h];simp only [LP];rw [mm,eB,Lt om_]
theorem DigP.take {l:List Nat}(h:DigP l)(i:Nat):DigP (l.take i):=fun x hx=>h x (LT hx)
theorem DigP.snoc {l:List Nat}(h:DigP l){x:Nat}(hx:x<BP):DigP (l++[x]):=fun y hy=>by
 rcases Lh.1 hy with hy | hy
 ·exact h y hy
 ·rw [K5.1 hy];exact hx
theorem oB:∀ {l:List Nat},(∀ x∈l,x=0)->a6 l=0
 | [],_=>rfl
 | x::l,h=>by
  rw [a6,h x (by simp),oB (fun y hy=>h y (by simp [hy]))];rfl
def yW (l:List Nat):Nat->Nat
 | 0=>0
 | k+1=>if l[k]?=some 0 then yW l k else k+1
def tj (l:List Nat):List Nat:=l.take (yW l l.length)
theorem nH (l:List Nat):∀ k,k<=l.length->(l.take (yW l k)).getLast?≠some 0/\a6 (l.take (yW l k))=a6 (l.take k)
 | 0,_=>by simp [yW]
 | k+1,hk=>by
  rw [yW];obtain ⟨x,hx⟩:∃ x,l[k]?=some x:=⟨l[k],aq om_⟩;split
  ·rename_i h;obtain ⟨h1,h2⟩:=nH l k om_;refine ⟨h1, ?_⟩;rw [h2,fE h];simp
  ·rename_i h;refine ⟨?_,Z⟩;rw [xO,hx];simp only [LP,OB,Og];intro e;rw [hx] at h;simp at e;exact h (by rw [e])
theorem gi (l:List Nat):a6 (tj l)=a6 l:=by
 have:=(nH l l.length (aP _)).2;rw [cK] at this;exact this
theorem j0 {l:List Nat}(h:DigP l):vx (tj l):=⟨h.take _,(nH l l.length (aP _)).1⟩
theorem ry {l:List Nat}(h:vx l)(hl:0<l.length):BP ^ (l.length-1)<=a6 l:=by
 obtain ⟨x,hx⟩:∃ x,l[l.length-1]?=some x:=⟨l[l.length-1]'om_,aq om_⟩;have h1:=fE hx;rw [show l.length-1+1=l.length by omega,cK] at h1;have hx0:x≠0:=fun e=>h.2 (by rw [MF,hx,e]);rw [h1];have:BP ^ (l.length-1)*1<=BP ^ (l.length-1)*x:=Ln _ om_;omega
theorem xf {l:List Nat}(h:vx l):a6 l=0 ↔ l=[]:=by
 constructor
 ·intro e;apply Lw;intro hn;have:=ry h (K6.2 hn);rw [e] at this;have hp:0<BP ^ (l.length-1):=Mz dc_;omega
 ·rintro rfl;rfl
theorem BG {a b:List Nat}(ha:DigP a)(hb:vx b)(h:a.length<b.length):a6 a<a6 b:=by
 have h1:=kc ha;have h2:=ry hb om_;have h3:BP ^ a.length<=BP ^ (b.length-1):=gr dc_ om_;omega
theorem GD {a b:List Nat}{i x y:Nat}(ha:DigP a)(hl:a.length=b.length)(hx:a[i]?=some x)(hy:b[i]?=some y)(hxy:x<y)(he:a.drop (i+1)=b.drop (i+1)):a6 a<a6 b:=by
 have e1:a6 a=a6 (a.take (i+1))+BP ^ (i+1)*a6 (a.drop (i+1)):=by
  have hi:=(aJ.1 hx).1
  conv=>lhs;rw [<- LQ (i+1) a]
  rw [fW,eB,Lt om_]
 have e2:a6 b=a6 (b.take (i+1))+BP ^ (i+1)*a6 (b.drop (i+1)):=by
  have hi:=(aJ.1 hy).1
  conv=>lhs;rw [<- LQ (i+1) b]
  rw [fW,eB,Lt om_]
 rw [e1,e2,he,fE hx,fE hy];have h1:=kc (ha.take i);have h2:(a.take i).length<=i:=by rw [eB];omega
 have h3:BP ^ (a.take i).length<=BP ^ i:=gr dc_ h2;have h4:BP ^ i*(x+1)<=BP ^ i*y:=Ln _ hxy;rw [FX] at h4;omega
/-! ### Decimal texts -/
def dE (c:UInt8):Bool:=decide (48<=c.toNat/\c.toNat<=57)
def wW (a:Nat)(c:UInt8):Nat:=10*a+(c.toNat-48)
def aX (s:List UInt8):Nat:=s.foldl wW 0
def rO (s:List UInt8):Prop:=(∀ c∈s,dE c=true)/\s≠[]/\(s.head?=some 48->s.length=1)
theorem iE:∀ (s:List UInt8)(a:Nat),s.foldl wW a=a*10 ^ s.length+aX s
 | [],a=>by simp [aX]
 | c::s,a=>by
  have h1:=iE s (wW a c);have h2:=iE s (wW 0 c);simp only [aX,N3] at h1 h2 ⊢;rw [h1,h2];simp only [wW,fh,Lb,L9];simp only [N9,Nat.zero_mul,LO];rw [K8 10 a,K7,K8 10,MY]
theorem de (c:UInt8)(s:List UInt8):aX (c::s)=(c.toNat-48)*10 ^ s.length+aX s:=by
 show s.foldl wW (wW 0 c)=_;rw [iE];simp [wW]
theorem cG (a b:List UInt8):aX (a++b)=aX a*10 ^ b.length+aX b:=by
 show (a++b).foldl wW 0=_;rw [List.foldl_append,iE];rfl
theorem cV:∀ {s:List UInt8},(∀ c∈s,dE c=true)->aX s<10 ^ s.length
 | [],_=>by simp [aX]
 | c::s,h=>by
  have h1:=cV (s:=s) (fun d hd=>h d (by simp [hd]));have h2:=h c (by simp);simp only [dE,cH] at h2;rw [de,fh,Lb];have h3:(c.toNat-48)*10 ^ s.length<=9*10 ^ s.length:=Lm _ om_;omega
theorem l6 {s:List UInt8}(h:rO s)(hl:1<s.length):10 ^ (s.length-1)<=aX s:=by
 obtain ⟨h1,h2,h3⟩:=h
 match s,h2 with
 | c::s,_ =>
  have h4:=h1 c (by simp);simp only [dE,cH] at h4;have h5:c≠48:=fun e=>by
   have:=h3 (by simp [e]);omega
  have h6:c.toNat≠48:=fun e=>h5 (N5.1 (by rw [e];rfl));rw [de];simp only [fh,M1];have:1*10 ^ s.length<=(c.toNat-48)*10 ^ s.length:=Lm _ om_;omega
theorem uR:∀ {a b:List UInt8},(∀ c∈a,dE c=true)->(∀ c∈b,dE c=true)->a.length=b.length->aX a=aX b->a=b
 | [],[],_,_,_,_=>rfl
 | [],_::_,_,_,h,_=>by simp at h
 | _::_,[],_,_,h,_=>by simp at h
 | c::a,d::b,ha,hb,hl,hv=>by
  have hl2:a.length=b.length:=by simpa using hl
  have h1:=cV (s:=a) (fun x hx=>ha x (by simp [hx]));have h2:=cV (s:=b) (fun x hx=>hb x (by simp [hx]));have hc:=ha c (by simp);have hd:=hb d (by simp);simp only [dE,cH] at hc hd;rw [de,de,hl2] at hv;rw [hl2] at h1;have hq:c.toNat-48=d.toNat-48:=by
   have e1:(aX a+10 ^ b.length*(c.toNat-48)) / 10 ^ b.length=c.toNat-48:=by
    rw [NC _ _ (Mz dc_),Mr h1,LO]
   have e2:(aX b+10 ^ b.length*(d.toNat-48)) / 10 ^ b.length=d.toNat-48:=by
    rw [NC _ _ (Mz dc_),Mr h2,LO]
   rw [<- e1,<- e2,K8,M4,hv,K8 (10 ^ b.length),M4 (aX b)]
  rw [hq] at hv;have hcd:c=d:=N5.1 om_;rw [hcd,uR (fun x hx=>ha x (by simp [hx])) (fun x hx=>hb x (by simp [hx])) hl2 om_]
theorem nN {a b:List UInt8}(ha:rO a)(hb:rO b)(h:aX a=aX b):a=b:=by
 refine uR ha.1 hb.1 ?_ h;have hpa:=K6.2 ha.2.1;have hpb:=K6.2 hb.2.1;rcases Nat.lt_trichotomy a.length b.length with h1 | h1 | h1
 ·have h2:=l6 hb om_;have h3:=cV ha.1;have h4:10 ^ a.length<=10 ^ (b.length-1):=gr dc_ om_;omega
 ·exact h1
 ·have h2:=l6 ha om_;have h3:=cV hb.1;have h4:10 ^ b.length<=10 ^ (a.length-1):=gr dc_ om_;omega
end Go.Jog
namespace Go.Jog

theorem qQ {a b:List UInt8}(h:a≠[]):(a++b).head?=a.head?:=by
 cases a with
 | nil=>exact absurd rfl h
 | cons=>rfl
def gP (l:List Nat)(i:Nat):Nat:=l.getD i 0
theorem Ci {l:List Nat}(h:DigP l)(i:Nat):gP l i<BP:=by
 unfold gP;rw [aF];cases hx:l[i]? with
 | none=>decide
 | some x=>exact h x (ba hx)
theorem Gc (j:Nat):10 ^ (4*j)=BP ^ j:=by rw [Om]
def fR (s:List UInt8)(lo hi:Nat):List UInt8:=(s.take hi).drop lo
theorem zY {s:List UInt8}{out:List Nat}{e lo j:Nat}(he:e+4*j=s.length)(hl:out.length=j)(hlo:lo<=e)(h:a6 out=aX (s.drop e)) :
  a6 (out++[aX (fR s lo e)])=aX (s.drop lo):=by
 rw [mm,hl,h];have e1:s.drop lo=fR s lo e++s.drop e:=by
  unfold fR;have:s.drop lo=(s.take e++s.drop e).drop lo:=by rw [LQ]
  rw [this,List.drop_append_of_le_length (by rw [eB];omega)]
 rw [e1,cG,Ni,show s.length-e=4*j by omega,Gc,K8,M4]
theorem CU {s:List UInt8}{lo e:Nat}(hs:∀ c∈s,dE c=true)(h:e<=lo+4):aX (fR s lo e)<BP:=by
 have h1:∀ c∈fR s lo e,dE c=true:=fun c hc=>hs c (LT (NX hc));have h2:=cV h1;have h3:(fR s lo e).length<=4:=by
  unfold fR;rw [Ni,eB];omega
 have h4:10 ^ (fR s lo e).length<=10 ^ 4:=gr dc_ h3;have h5:(10:Nat) ^ 4=BP:=rfl;omega
def j8:Nat->Nat->List UInt8
 | 0,_=>[]
 | k+1,n=>j8 k (n / 10)++[UInt8.ofNat (48+n % 10)]
theorem rb {d:Nat}(h:d<10):(UInt8.ofNat (48+d)).toNat=48+d:=by rw [Oa];omega
theorem jf:∀ (k n:Nat),n<10 ^ k->(j8 k n).length=k/\(∀ c∈j8 k n,dE c=true)/\aX (j8 k n)=n
 | 0,n,h=>by
  have:n=0:=by simpa using h
  subst this;exact ⟨Z,by simp [j8],Z⟩
 | k+1,n,h=>by
  obtain ⟨h1,h2,h3⟩:=jf k (n / 10) (by rw [Lb] at h;exact (Mn dc_).2 h);have hd:=rb (K9 n (show 0<10 by decide));refine ⟨by simp [j8,h1],fun c hc=>?_, ?_⟩
  ·simp only [j8,Lh,K5] at hc;rcases hc with hc | rfl
   ·exact h2 c hc
   ·have:=K9 n (show 0<10 by decide);simp only [dE,hd,cH];omega
  ·simp only [j8];rw [cG,h3,de,hd];simp [aX];omega
def aT (n:Nat):List UInt8:=if n<10 then [UInt8.ofNat (48+n)] else aT (n / 10)++[UInt8.ofNat (48+n % 10)]
 termination_by n
 decreasing_by omega
theorem aV (n:Nat):rO (aT n)/\aX (aT n)=n:=by
 induction n using Nat.strongRecOn with
 | ind n ih =>
  rw [aT];split
  ·rename_i h;have hd:=rb h;refine ⟨⟨fun c hc=>?_,by simp,fun _=>rfl⟩, ?_⟩
   ·rw [K5.1 hc];simp only [dE,hd,cH];omega
   ·rw [de,hd];simp [aX]
  ·rename_i h;obtain ⟨⟨h1,h2,h3⟩,h4⟩:=ih (n / 10) om_;have hd:=rb (K9 n (show 0<10 by decide));refine ⟨⟨fun c hc=>?_,by simp,fun he=>?_⟩, ?_⟩
   ·rcases Lh.1 hc with hc | hc
    ·exact h1 c hc
    ·rw [K5.1 hc];have:=K9 n (show 0<10 by decide);simp only [dE,hd,cH];omega
   ·exfalso;rw [qQ h2] at he;have h5:=h3 he
    match hs:aT (n / 10),h2 with
    | [c],_ =>
     rw [hs] at he h4;simp at he;subst he;have:n / 10=0:=by rw [<- h4];rfl
     omega
    | c::d::s,_=>rw [hs] at h5;simp at h5
   ·rw [cG,h4,de,hd];simp [aX];omega
theorem l7 {s:List UInt8}(h:rO s):s=aT (aX s):=nN h (aV _).1 (aV _).2.symm
theorem Ca {p:List Nat}{s:List UInt8}{i x:Nat}(hd:DigP p)(hx:p[i]?=some x)(h:rO s)(hv:aX s=a6 (p.drop (i+1)))(h0:0<aX s) :
  rO (s++j8 4 x)/\aX (s++j8 4 x)=a6 (p.drop i)/\0<aX (s++j8 4 x):=by
 have hxl:=hd x (ba hx);obtain ⟨h1,h2,h3⟩:=jf 4 x hxl;have hi:=aJ.1 hx;have e:a6 (p.drop i)=x+BP*a6 (p.drop (i+1)):=by rw [K2 hi.1,hi.2];rfl
 have hv2:aX (s++j8 4 x)=a6 (p.drop i):=by
  rw [cG,h1,h3,hv,e,M4,K8]
 refine ⟨⟨fun c hc=>?_, ?_,fun he=>?_⟩,hv2, ?_⟩
 ·rcases Lh.1 hc with hc | hc
  ·exact h.1 c hc
  ·exact h2 c hc
 ·intro e;exact h.2.1 (On.1 e).1
 ·exfalso;rw [qQ h.2.1] at he;have h5:=h.2.2 he
  match hs:s,h.2.1 with
  | [c],_ =>
   simp at he;subst he;have:aX ([48]:List UInt8)=0:=rfl;omega
  | c::d::s,_=>simp at h5
 ·rw [cG];have:0<aX s*10 ^ (j8 4 x).length:=MA h0 (Mz dc_);omega
end Go.Jog
namespace Go.Jog

def gN:List Int->Int
 | []=>0
 | x::l=>x+10000*gN l
theorem lH:∀ l:List Nat,gN (l.map fun (x:Nat)=>(x:Int))=(a6 l:Nat)
 | []=>rfl
 | x::l=>by
  simp only [Li,gN,a6,lH l];show (x:Int)+10000*(a6 l:Nat)=((x+10000*a6 l:Nat):Int);omega
theorem mn:∀ (a b:List Int),gN (a++b)=gN a+(10000:Int) ^ a.length*gN b
 | [],b=>by simp [gN]
 | x::a,b=>by
  simp only [LM,gN,mn a b,fh,Int.pow_succ];rw [Oo,<- Int.mul_assoc,Int.mul_comm ((10000:Int) ^ a.length) 10000,Int.add_assoc]
theorem rV (a:List Int)(x:Int):gN (a++[x])=gN a+(10000:Int) ^ a.length*x:=by
 rw [mn];simp [gN]
theorem zM {l:List Int}{i:Nat}{x:Int}(h:l[i]?=some x):gN (l.take (i+1))=gN (l.take i)+(10000:Int) ^ i*x:=by
 have hi:=(aJ.1 h).1;rw [xO,h];simp only [LP];rw [rV,eB,Lt om_]
theorem uZ (o:Int):0<=o % 10000/\o % 10000<10000/\o=o % 10000+10000*((o-o % 10000) / 10000):=by
 refine ⟨OD _ dc_,Int.emod_lt_of_pos _ dc_, ?_⟩;omega
theorem Et (o:Int):(if Int.tmod o 10000<0 then Int.tmod o 10000+10000 else Int.tmod o 10000)=o % 10000:=by
 have h1:=OD o (show (10000:Int)≠0 by decide);have h2:=Int.emod_lt_of_pos o (show (0:Int)<10000 by decide);rcases Int.le_total 0 o with h | h
 ·rw [Int.tmod_eq_emod_of_nonneg h,a7 om_]
 ·rw [Int.tmod_eq_emod];split <;> rename_i hh <;> omega
end Go.Jog
namespace Go.Jog

theorem CG {t Q x:Nat}(hQ:0<Q):(x+BP*t) / Q=BP*(t / Q)+(x+BP*(t % Q)) / Q/\(x+BP*t) % Q=(x+BP*(t % Q)) % Q:=by
 have h1:=MT t Q;have e:x+BP*t=Q*(BP*(t / Q))+(x+BP*(t % Q)):=by
  conv=>lhs;rw [<- h1,FX]
  rw [M8];omega
 rw [e,Nat.mul_add_div hQ,Nat.mul_add_mod];exact ⟨Z,Z⟩
theorem tf {t Q x:Nat}(hQ:0<Q)(hx:x<BP):(x+BP*(t % Q)) / Q<BP:=by
 rw [Mn hQ];have h1:=K9 t hQ;have h2:BP*(t % Q+1)<=BP*Q:=Ln _ h1;rw [FX] at h2;omega
theorem HD {r Q low high:Nat}(hQ:0<Q)(h1:low<=r / Q)(h2:r / Q<=high)(_h:low<high) :
  (r<Q*((low+high+1) / 2)->low<=r / Q/\r / Q<=(low+high+1) / 2-1)/\(¬ r<Q*((low+high+1) / 2)->(low+high+1) / 2<=r / Q/\r / Q<=high):=by
 constructor
 ·intro hr;have:=(Mn hQ).2 (by rw [K8];exact hr);omega
 ·intro hr;have:=(Nat.le_div_iff_mul_le hQ).2 (by rw [K8];exact Nat.le_of_not_lt hr);omega
theorem JJ (a b:Nat)(_hb:0<b):Nat.gcd a b=Nat.gcd b (a % b):=by
 rw [Mf a b,Oq b a,Mf]
end Go.Jog
namespace Go.Jog

theorem um (p:Nat):B32 ^ (p / 32)*2 ^ (p % 32)=2 ^ p:=by
 have e:B32 ^ (p / 32)=2 ^ (32*(p / 32)):=by rw [Om]
 rw [e,<- MX,MT]
theorem bitD {l:List Nat}{p:Nat}(hd:DigD l):gD l (p / 32) / 2 ^ (p % 32) % 2=bh l / 2 ^ p % 2:=by
 have hr:=K9 p (show 0<32 by decide);obtain ⟨r,hr0⟩:∃ r,p % 32=r:=⟨_,rfl⟩;rw [<- xi hd,<- um p,<- Ot];obtain ⟨X,hX⟩:∃ X,bh l / B32 ^ (p / 32)=X:=⟨_,rfl⟩;rw [hX,hr0];rw [hr0] at hr;have e:B32=2 ^ r*2 ^ (32-r):=by rw [<- MX,show r+(32-r)=32 by omega]
 rw [e,Nat.mod_mul_right_div_self];have h2:2 ∣ 2 ^ (32-r):=by
  rw [show 32-r=(31-r)+1 by omega,Lb];exact Nat.dvd_mul_left _ _
 exact Nat.mod_mod_of_dvd _ h2
theorem E3 (A p:Nat):A / 2 ^ p=2*(A / 2 ^ (p+1))+A / 2 ^ p % 2:=by
 rw [Lb,<- Ot];have:=MT (A / 2 ^ p) 2;omega
theorem Gf {x r:Nat}(h:x % 2 ^ (r+1)=0):x ||| 2 ^ r=x+2 ^ r:=by
 have h1:=MT x (2 ^ (r+1));rw [h,Mc] at h1;have h2:2 ^ r<2 ^ (r+1):=Nat.pow_lt_pow_right dc_ om_;rw [<- h1,<- Nat.two_pow_add_eq_or_of_lt h2]
theorem EE {A b p V r:Nat}(hb:0<b)(hV:V=2 ^ (p+1)*(A / 2 ^ (p+1) / b))(hr:r=A / 2 ^ (p+1) % b) :
  (b<=2*r+A / 2 ^ p % 2->V+2 ^ p=2 ^ p*(A / 2 ^ p / b)/\2*r+A / 2 ^ p % 2-b=A / 2 ^ p % b) /\
  (¬ b<=2*r+A / 2 ^ p % 2->V=2 ^ p*(A / 2 ^ p / b)/\2*r+A / 2 ^ p % 2=A / 2 ^ p % b):=by
 obtain ⟨h1,h2⟩:=HR (t:=A / 2 ^ (p+1)) (β:=A / 2 ^ p % 2) hb om_;rw [<- E3,<- hr] at h1 h2;have e:∀ q,2 ^ (p+1)*q=2 ^ p*(2*q):=fun q=>by rw [Lb,K7]
 constructor
 ·intro h;rw [bW h] at h1 h2;rw [h1,h2,hV,e,FX,Nl];exact ⟨Z,Z⟩
 ·intro h;rw [a7 h] at h1 h2;rw [h1,h2,hV,e,Mc];exact ⟨Z,Z⟩
theorem Bf {l:List Nat}{p:Nat}(hd:DigD l)(h:2 ^ (p+1) ∣ bh l):gD l (p / 32) % 2 ^ (p % 32+1)=0:=by
 have hr:=K9 p (show 0<32 by decide);obtain ⟨k,hk⟩:=h;rw [<- xi hd,hk,Lb,<- um p];have e:B32 ^ (p / 32)*2 ^ (p % 32)*2*k=B32 ^ (p / 32)*(2 ^ (p % 32+1)*k):=by
  rw [Lb,K7,K7,K7]
 rw [e,Nat.mul_div_cancel_left _ (Mz dc_)];have h2:2 ^ (p % 32+1) ∣ B32:=by
  rw [show B32=2 ^ 32 from rfl];exact Nat.pow_dvd_pow 2 om_
 rw [Nat.mod_mod_of_dvd _ h2,Nat.mul_mod_right]
end Go.Jog
namespace Go.Jog
open Go
section
variable {cx:Cx} {n:Nat} {ds:List (Option Nat)} {R:Rg n ds} {its:List It} {fr:Fr} {C:Mem} {L:List Ent} {i k d:Nat} {o:Oper} {g:GL}
theorem D.GJ (a m:Nat){kj:IntKind}{t ty:Nat}{x y:Operand}{p q:Int}(hk:Nat.ble k 1=true)(hd:o.dst=some d)(hop:o.op=.binOp .shr t x y ty)(hg:gOf ds fr o.guard=some g)(hx:ev fr g x=some (.int .u64 p))(hy:ev fr g y=some (.int kj q))
  (hpa:p=a) (hq:q=m) (hm:m<=63) (hp:aO n ds ((d,g,.int .u64 ((a / 2 ^ m:Nat):Int))::fr) d=true) (hwf:wfG ds fr g=true)
  (h:D cx R its ((d,g,.int .u64 ((a / 2 ^ m:Nat):Int))::fr) C L):D cx R ((i,k,o)::its) fr C L :=
 D.run _ hk hd hg (fun _ A hs w=>by
  subst hpa hq;rw [bB hop (hs _ _ hx) (hs _ _ hy) (fun _ _=>.inl (by simp)) (.inl (by simp)) w];have h0:¬ ((m:Int)<0):=by omega
  have hmin:Min.min m 64=m:=by omega
  have e:(a:Int).fdiv (2 ^ m)=((a / 2 ^ m:Nat):Int):=by
   have e1:(2:Int) ^ m=((2 ^ m:Nat):Int):=by norm_cast
   rw [e1,Int.fdiv_eq_ediv_of_nonneg _ (Nr _)];exact (NY _ _).symm
  simp only [binOp,Op.shift,h0,LZ,L5,IntKind.bits,hmin,Sem.run_pure,Result.andThen_ok];rw [e]) hp hwf h
theorem D.DR (a:Nat)(m:Nat){kj:IntKind}{t ty:Nat}{x y:Operand}{p q:Int}(e_0:Z8 (Nat.ble k 1) true o.dst (some d) o.op (.binOp .shr t x y ty) (gOf ds fr o.guard) (some g) (ev fr g x) (some (.int .u32 p)) (ev fr g y) (some (.int kj q)) p a q m)(hm:m<=31)(e_1:Z2 (aO n ds ((d,g,.int .u32 ((a / 2 ^ m:Nat):Int))::fr) d) true (wfG ds fr g) true)(h:D cx R its ((d,g,.int .u32 ((a / 2 ^ m:Nat):Int))::fr) C L):D cx R ((i,k,o)::its) fr C L :=
 have ⟨hk,hd,hop,hg,hx,hy,hpa,hq⟩:=e_0;have ⟨hp,hwf⟩:=e_1;D.run _ hk hd hg (fun _ A hs w=>by
  subst hpa hq;rw [bB hop (hs _ _ hx) (hs _ _ hy) (fun _ _=>.inl (by simp)) (.inl (by simp)) w];have h0:¬ ((m:Int)<0):=by omega
  have hmin:Min.min m 32=m:=by omega
  have e:(a:Int).fdiv (2 ^ m)=((a / 2 ^ m:Nat):Int):=by
   have e1:(2:Int) ^ m=((2 ^ m:Nat):Int):=by norm_cast
   rw [e1,Int.fdiv_eq_ediv_of_nonneg _ (Nr _)];exact (NY _ _).symm
  simp only [binOp,Op.shift,h0,LZ,L5,IntKind.bits,hmin,Sem.run_pure,Result.andThen_ok];rw [e]) hp hwf h
end
end Go.Jog
namespace Go.Jog
open Go
theorem jg {a:Nat}(ha:a<4294967296):(BitVec.ofInt 32 (a:Int)).toNat=a:=by
 rw [BitVec.ofInt_natCast,BitVec.toNat_ofNat];exact Mw om_
theorem zg (a b:Nat)(ha:a<4294967296)(hb:b<4294967296):IntKind.u32.wrap ((BitVec.ofInt 32 (a:Int) &&& BitVec.ofInt 32 (b:Int)).toNat:Int)=((a &&& b:Nat):Int):=by
 have hx:a &&& b<2 ^ 32:=Nat.and_lt_two_pow _ om_;rw [BitVec.toNat_and,jg ha,jg hb,IntKind.wrap_u32];omega
theorem Dm (a b:Nat)(ha:a<4294967296)(hb:b<4294967296):IntKind.u32.wrap ((BitVec.ofInt 32 (a:Int) ||| BitVec.ofInt 32 (b:Int)).toNat:Int)=((a ||| b:Nat):Int):=by
 have hx:a ||| b<2 ^ 32:=Nat.or_lt_two_pow om_ om_;rw [BitVec.toNat_or,jg ha,jg hb,IntKind.wrap_u32];omega
theorem ze (a b:Nat)(ha:a<4294967296)(hb:b<4294967296):IntKind.u32.wrap ((BitVec.ofInt 32 (a:Int) ^^^ BitVec.ofInt 32 (b:Int)).toNat:Int)=((a ^^^ b:Nat):Int):=by
 have hx:a ^^^ b<2 ^ 32:=Nat.xor_lt_two_pow om_ om_;rw [BitVec.toNat_xor,jg ha,jg hb,IntKind.wrap_u32];omega
section
variable {cx:Cx} {n:Nat} {ds:List (Option Nat)} {R:Rg n ds} {its:List It} {fr:Fr} {C:Mem} {L:List Ent} {i k d:Nat} {o:Oper} {g:GL}
theorem D.xP (a:Nat)(b:Nat){t ty:Nat}{x y:Operand}{p q:Int}(e_0:Z8 (Nat.ble k 1) true o.dst (some d) o.op (.binOp .and t x y ty) (gOf ds fr o.guard) (some g) (ev fr g x) (some (.int .u32 p)) (ev fr g y) (some (.int .u32 q)) p a q b)(ha:a<4294967296)(hb:b<4294967296)(e_1:Z2 (aO n ds ((d,g,.int .u32 ((a &&& b:Nat):Int))::fr) d) true (wfG ds fr g) true)(h:D cx R its ((d,g,.int .u32 ((a &&& b:Nat):Int))::fr) C L):D cx R ((i,k,o)::its) fr C L :=
 have ⟨hk,hd,hop,hg,hx,hy,hpa,hqb⟩:=e_0;have ⟨hp,hwf⟩:=e_1;D.run _ hk hd hg (fun _ A hs w=>by
  subst hpa hqb;rw [bB hop (hs _ _ hx) (hs _ _ hy) (fun _ _=>.inl (by simp)) (.inl (by simp)) w];have e:IntKind.u32.wrap ((BitVec.ofInt 32 (a:Int) &&& BitVec.ofInt 32 (b:Int)).toNat:Int)=((a &&& b:Nat):Int):=zg a b ha hb;simp [binOp,Op.intBits,IntKind.bits];exact e) hp hwf h
theorem D.Ip (a:Nat)(b:Nat){t ty:Nat}{x y:Operand}{p q:Int}(e_0:Z8 (Nat.ble k 1) true o.dst (some d) o.op (.binOp .or t x y ty) (gOf ds fr o.guard) (some g) (ev fr g x) (some (.int .u32 p)) (ev fr g y) (some (.int .u32 q)) p a q b)(ha:a<4294967296)(hb:b<4294967296)(e_1:Z2 (aO n ds ((d,g,.int .u32 ((a ||| b:Nat):Int))::fr) d) true (wfG ds fr g) true)(h:D cx R its ((d,g,.int .u32 ((a ||| b:Nat):Int))::fr) C L):D cx R ((i,k,o)::its) fr C L :=
 have ⟨hk,hd,hop,hg,hx,hy,hpa,hqb⟩:=e_0;have ⟨hp,hwf⟩:=e_1;D.run _ hk hd hg (fun _ A hs w=>by
  subst hpa hqb;rw [bB hop (hs _ _ hx) (hs _ _ hy) (fun _ _=>.inl (by simp)) (.inl (by simp)) w];have e:IntKind.u32.wrap ((BitVec.ofInt 32 (a:Int) ||| BitVec.ofInt 32 (b:Int)).toNat:Int)=((a ||| b:Nat):Int):=Dm a b ha hb;simp [binOp,Op.intBits,IntKind.bits];exact e) hp hwf h
theorem D.J6 (a b:Nat){t ty:Nat}{x y:Operand}{p q:Int}(hk:Nat.ble k 1=true)(hd:o.dst=some d)(hop:o.op=.binOp .xor t x y ty)(hg:gOf ds fr o.guard=some g)(hx:ev fr g x=some (.int .u32 p))(hy:ev fr g y=some (.int .u32 q))
  (hpa:p=a) (hqb:q=b) (ha:a<4294967296) (hb:b<4294967296) (hp:aO n ds ((d,g,.int .u32 ((a ^^^ b:Nat):Int))::fr) d=true) (hwf:wfG ds fr g=true)
  (h:D cx R its ((d,g,.int .u32 ((a ^^^ b:Nat):Int))::fr) C L):D cx R ((i,k,o)::its) fr C L :=
 D.run _ hk hd hg (fun _ A hs w=>by
  subst hpa hqb;rw [bB hop (hs _ _ hx) (hs _ _ hy) (fun _ _=>.inl (by simp)) (.inl (by simp)) w];have e:IntKind.u32.wrap ((BitVec.ofInt 32 (a:Int) ^^^ BitVec.ofInt 32 (b:Int)).toNat:Int)=((a ^^^ b:Nat):Int):=ze a b ha hb;simp [binOp,Op.intBits,IntKind.bits];exact e) hp hwf h
end
end Go.Jog
namespace Go.Jog
open Go
section
variable {cx:Cx} {n:Nat} {ds:List (Option Nat)} {R:Rg n ds} {its:List It} {fr:Fr} {C:Mem} {L:List Ent} {i k d:Nat} {o:Oper} {g:GL}
theorem D.GK (a m:Nat){kj:IntKind}{t ty:Nat}{x y:Operand}{p q:Int}(hk:Nat.ble k 1=true)(hd:o.dst=some d)(hop:o.op=.binOp .shl t x y ty)(hg:gOf ds fr o.guard=some g)(hx:ev fr g x=some (.int .u32 p))(hy:ev fr g y=some (.int kj q))
  (hpa:p=a) (hq:q=m) (hm:m<=31) (hp:aO n ds ((d,g,.int .u32 ((a*2 ^ m % 4294967296:Nat):Int))::fr) d=true) (hwf:wfG ds fr g=true)
  (h:D cx R its ((d,g,.int .u32 ((a*2 ^ m % 4294967296:Nat):Int))::fr) C L):D cx R ((i,k,o)::its) fr C L :=
 D.run _ hk hd hg (fun _ A hs w=>by
  subst hpa hq;rw [bB hop (hs _ _ hx) (hs _ _ hy) (fun _ _=>.inl (by simp)) (.inl (by simp)) w];have h0:¬ ((m:Int)<0):=by omega
  have hmin:Min.min m 32=m:=by omega
  have e:IntKind.u32.wrap ((a:Int)*2 ^ m)=((a*2 ^ m % 4294967296:Nat):Int):=by
   have e1:(a:Int)*2 ^ m=((a*2 ^ m:Nat):Int):=by norm_cast
   rw [e1,IntKind.wrap_u32];omega
  simp only [binOp,Op.shift,h0,LZ,L5,IntKind.bits,hmin,Sem.run_pure,Result.andThen_ok];rw [e]) hp hwf h
end
end Go.Jog
namespace Go.Jog
open Go
theorem zf (a:Nat)(ha:a<4294967296):IntKind.u32.wrap ((BitVec.ofInt 32 (4294967295:Int) ^^^ BitVec.ofInt 32 (a:Int)).toNat:Int)=((4294967295-a:Nat):Int):=by
 have e:(BitVec.ofInt 32 (4294967295:Int) ^^^ BitVec.ofInt 32 (a:Int)) = ~~~ (BitVec.ofInt 32 (a:Int)):=by
  have h1:BitVec.ofInt 32 (4294967295:Int)=BitVec.allOnes 32:=by decide
  rw [h1,BitVec.allOnes_xor]
 rw [e,BitVec.toNat_not,jg ha,IntKind.wrap_u32];omega
section
variable {cx:Cx} {n:Nat} {ds:List (Option Nat)} {R:Rg n ds} {its:List It} {fr:Fr} {C:Mem} {L:List Ent} {i k d:Nat} {o:Oper} {g:GL}
theorem CA {P:Program}{a:Act}{o:Oper}{op:UnOp}{t:Nat}{x:Operand}{u:Value}(hop:o.op=.unOp op t x)(hx:a.eval x=u)(w:World) :
  (execOp a.eval o).run P w=((Op.unary op u).run P w).andThen fun r w'=>.ok (.value r) w':=by
 have e1:execOp a.eval o=(Op.unary op (a.eval x) >>= fun r=>Pure.pure (.value r)):=by
  obtain ⟨dst,op',ty',pos,after,guard⟩:=o;simp only at hop;subst hop;rfl
 rw [e1,hx];simp only [Sem.run_bind,Sem.run_pure]
theorem D.GM (a:Nat){t:Nat}{x:Operand}{p:Int}(hk:Nat.ble k 1=true)(hd:o.dst=some d)(hop:o.op=.unOp .xor t x)(hg:gOf ds fr o.guard=some g)(hx:ev fr g x=some (.int .u32 p))
  (hpa:p=a) (ha:a<4294967296) (hp:aO n ds ((d,g,.int .u32 ((4294967295-a:Nat):Int))::fr) d=true) (hwf:wfG ds fr g=true)
  (h:D cx R its ((d,g,.int .u32 ((4294967295-a:Nat):Int))::fr) C L):D cx R ((i,k,o)::its) fr C L :=
 D.run _ hk hd hg (fun _ A hs w=>by
  subst hpa;rw [CA hop (hs _ _ hx) w];have e:=zf a ha;simp [Op.unary,Op.intBits,IntKind.bits,IntKind.signed,IntKind.max];exact e) hp hwf h
end
theorem zV (a b:Nat):(a &&& b) / 2 ^ 31=(a / 2 ^ 31) &&& (b / 2 ^ 31):=by
 rw [<- LX,<- LX,<- LX,Nat.shiftRight_and_distrib]
theorem I1 (a b:Nat):(a ||| b) / 2 ^ 31=(a / 2 ^ 31) ||| (b / 2 ^ 31):=by
 rw [<- LX,<- LX,<- LX,Nat.shiftRight_or_distrib]
theorem GX (a b:Nat):(a ^^^ b) / 2 ^ 31=(a / 2 ^ 31) ^^^ (b / 2 ^ 31):=by
 rw [<- LX,<- LX,<- LX,Nat.shiftRight_xor_distrib]
theorem za {x y c:Nat}(hx:x<B32)(hy:y<B32)(hc:c<=1) :
  (((4294967295-x) &&& y) ||| ((4294967295-(x ^^^ y)) &&& oa x y c)) / 2 ^ 31=xh x y c:=by
 have hxy:x ^^^ y<2 ^ 32:=Nat.xor_lt_two_pow (show x<2 ^ 32 from hx) (show y<2 ^ 32 from hy);have hd:=uP hx hy hc;rw [I1,zV,zV];have e1:(4294967295-(x ^^^ y)) / 2 ^ 31=1-(x / 2 ^ 31 ^^^ y / 2 ^ 31):=by
  rw [<- GX];omega
 have e2:(4294967295-x) / 2 ^ 31=1-x / 2 ^ 31:=by
  have:x<4294967296:=hx;omega
 rw [e1,e2];have hX:x / 2 ^ 31<=1:=by have:x<4294967296:=hx;omega
 have hY:y / 2 ^ 31<=1:=by have:y<4294967296:=hy;omega
 have hD:oa x y c / 2 ^ 31<=1:=by have:oa x y c<4294967296:=hd;omega
 have hb:xh x y c=if x<y+c then 1 else 0:=rfl;have hdv:oa x y c=x+4294967296*xh x y c-y-c:=rfl;generalize oa x y c=d at *;have hx':x<4294967296:=hx;have hy':y<4294967296:=hy;rcases Mx.1 hX with h1 | h1 <;> rcases Mx.1 hY with h2 | h2 <;> rcases Mx.1 hD with h3 | h3 <;> rw [h1,h2,h3] <;> simp only [Nat.reduceSub,Nat.reduceXor,Nat.reduceAnd,Nat.reduceOr] <;> split at hb <;> omega
def Sm (k n:Nat):Prop:=n<B32 ^ k
theorem Sm.mono {k n m:Nat}(h:Sm k n)(hm:m<=n):Sm k m:=DS hm h
theorem Sm.le {k j n:Nat}(h:Sm k n)(hk:k<=j):Sm j n:=K4 h (gr dc_ hk)
theorem Sm.mul {j k m n:Nat}(hm:Sm j m)(hn:Sm k n):Sm (j+k) (m*n):=by
 unfold Sm at *;rw [MX];exact Ms hm hn
theorem Sm.add {k m n:Nat}(hm:Sm k m)(hn:Sm k n):Sm (k+1) (m+n):=by
 unfold Sm at *;rw [Lb];have:B32 ^ k*2<=B32 ^ k*B32:=Ln _ dc_;omega
theorem Sm.len {k:Nat}{l:List Nat}(h:Sm k (bh l))(hl:FZ l):l.length<=k:=by
 apply Lw;intro hh;have h1:=u3 hl om_;have h2:B32 ^ k<=B32 ^ (l.length-1):=gr dc_ om_;unfold Sm at h;omega
theorem Sm.one {n:Nat}(h:n<B32):Sm 1 n:=by unfold Sm;rw [Nat.pow_one];exact h
end Go.Jog
namespace Go.Jog
def ratB (b:Bool)(n d:Nat):Rat:=mkRat (if b then -(n:Int) else n) d
theorem ud (b:Bool)(n:Nat):(if b then -(n:Int) else n).natAbs=n:=by cases b <;> simp
theorem vZ {b:Bool}{n d:Nat}(hd:d≠0):(ratB b n d).num=if b then -((n / Nat.gcd n d:Nat):Int) else ((n / Nat.gcd n d:Nat):Int):=by
 unfold ratB;rw [Rat.num_mkRat,a7 hd,ud,Mf];cases b with
 | false=>simp
 | true =>
  simp only [Mb];rw [Int.neg_ediv_of_dvd (Me.2 (Mj n d)),NY]
theorem lP {b:Bool}{n d:Nat}(hd:d≠0):(ratB b n d).num.natAbs=n / Nat.gcd n d:=by
 rw [vZ hd,ud]
theorem lO {b:Bool}{n d:Nat}(hd:d≠0):(ratB b n d).den=d / Nat.gcd n d:=by
 unfold ratB;rw [Rat.den_mkRat,a7 hd,ud,Mf]
theorem qh {b:Bool}{n d:Nat}(hd:d≠0)(hn:n≠0):decide ((ratB b n d).num<0)=b:=by
 have h1:0<n / Nat.gcd n d:=Nat.div_pos (NK om_ (Mj n d)) (Oh _ om_);rw [vZ hd];cases b <;> simp <;> omega
theorem sC (b:Bool)(d:Nat):ratB b 0 d=0:=by unfold ratB;cases b <;> simp
def sgI (b:Bool)(n:Nat):Int:=if b then -(n:Int) else n
theorem ia (q:Rat):q.num=sgI (decide (q.num<0)) q.num.natAbs:=by
 unfold sgI;by_cases h:q.num<0
 ·simp only [h,decide_true,Mb];omega
 ·simp only [h,decide_false];simp;omega
theorem kB (b:Bool)(n m:Nat):sgI b n*m=sgI b (n*m):=by unfold sgI;cases b <;> simp [Int.neg_mul]
theorem Ep (a b:Bool)(n m:Nat):sgI a n*sgI b m=sgI (a != b) (n*m):=by
 unfold sgI;cases a <;> cases b <;> simp [Int.neg_mul,Int.mul_neg]
theorem xo {p q:Rat}(h:decide (p.num<0)=decide (q.num<0)):ratB (decide (p.num<0)) (p.num.natAbs*q.den+q.num.natAbs*p.den) (p.den*q.den)=p+q:=by
 rw [Rat.add_def'];unfold ratB;congr 1;rw [ia p,ia q,kB,kB];simp only [<- ia];rw [<- h];unfold sgI;cases decide (p.num<0) <;> simp <;> omega
theorem Dj {a b:Bool}(h:¬ a=b):b=!a:=by cases a <;> cases b <;> simp_all
theorem GF {p q:Rat}(h:¬ decide (p.num<0)=decide (q.num<0))(hl:q.num.natAbs*p.den<=p.num.natAbs*q.den):ratB (decide (p.num<0)) (p.num.natAbs*q.den-q.num.natAbs*p.den) (p.den*q.den)=p+q:=by
 rw [Rat.add_def'];unfold ratB;congr 1;rw [ia p,ia q,kB,kB];simp only [<- ia];rw [Dj h];unfold sgI;cases decide (p.num<0) <;> simp <;> omega
theorem xy {p q:Rat}(h:¬ decide (p.num<0)=decide (q.num<0))(hl:p.num.natAbs*q.den<=q.num.natAbs*p.den):ratB (decide (q.num<0)) (q.num.natAbs*p.den-p.num.natAbs*q.den) (p.den*q.den)=p+q:=by
 rw [Rat.add_def'];unfold ratB;congr 1;rw [ia p,ia q,kB,kB];simp only [<- ia];rw [Dj h];unfold sgI;cases decide (p.num<0) <;> simp <;> omega
theorem mS (p q:Rat):ratB (decide (p.num<0) != decide (q.num<0)) (p.num.natAbs*q.num.natAbs) (p.den*q.den)=p*q:=by
 rw [Rat.mul_def'];unfold ratB;congr 1
 conv=>rhs;rw [ia p,ia q,Ep]
 rfl
theorem Bn {q:Rat}:q.num.natAbs=0 ↔ q=0:=by rw [Int.natAbs_eq_zero,M5]
def SmQ (k:Nat)(q:Rat):Prop:=Sm k q.num.natAbs/\Sm k q.den
theorem SmQ.le {k j:Nat}{q:Rat}(h:SmQ k q)(hk:k<=j):SmQ j q:=⟨h.1.le hk,h.2.le hk⟩
theorem SmQ.ratB {k n d:Nat}(b:Bool)(hd:d≠0)(hn:Sm k n)(hm:Sm k d):SmQ k (ratB b n d):=by
 refine ⟨?_, ?_⟩
 ·rw [lP hd];exact hn.mono (Lu _ _)
 ·rw [lO hd];exact hm.mono (Lu _ _)
theorem SmQ.neg {k:Nat}{q:Rat}(h:SmQ k q):SmQ k (-q):=by
 refine ⟨?_,h.2⟩;rw [Nm,MN];exact h.1
theorem wT (p q:Rat):p.den*q.den≠0:=Nat.mul_ne_zero p.den_nz q.den_nz
theorem Sm.mulAdd {j k a b c d:Nat}(ha:Sm j a)(hb:Sm k b)(hc:Sm k c)(hd:Sm j d):Sm (j+k+1) (a*b+c*d):=(ha.mul hb).add (by rw [K8];exact hd.mul hc)
theorem SmQ.add {j k:Nat}{p q:Rat}(hp:SmQ j p)(hq:SmQ k q):SmQ (j+k+1) (p+q):=by
 have hD:Sm (j+k+1) (p.den*q.den):=(hp.2.mul hq.2).le om_;have h1:Sm (j+k+1) (p.num.natAbs*q.den+q.num.natAbs*p.den):=Sm.mulAdd hp.1 hq.2 hq.1 hp.2;by_cases h:decide (p.num<0)=decide (q.num<0)
 ·rw [<- xo h];exact SmQ.ratB _ (wT p q) h1 hD
 ·rcases Nat.le_total (q.num.natAbs*p.den) (p.num.natAbs*q.den) with hl | hl
  ·rw [<- GF h hl];exact SmQ.ratB _ (wT p q) (h1.mono om_) hD
  ·rw [<- xy h hl];exact SmQ.ratB _ (wT p q) (h1.mono om_) hD
theorem SmQ.mul {j k:Nat}{p q:Rat}(hp:SmQ j p)(hq:SmQ k q):SmQ (j+k) (p*q):=by
 rw [<- mS];exact SmQ.ratB _ (wT p q) (hp.1.mul hq.1) (hp.2.mul hq.2)
theorem SmQ.sub {j k:Nat}{p q:Rat}(hp:SmQ j p)(hq:SmQ k q):SmQ (j+k+1) (p-q):=by
 rw [MJ];exact hp.add hq.neg
end Go.Jog
namespace Go.Jog
open Go

example {A B C D E:Mem} (h3:D.le E) (h1:A.le B) (h2:B.le C) (h4:C.le D):A.le E:=by (repeat (first | exact Mem.le.refl _ | assumption | (apply Mem.le.trans;rotate_left;assumption)))
theorem Mem.get {C D:Mem}{b:Nat}{o:Obj}(h:C b=some o)(hl:C.le D):D b=some o:=hl _ _ h

theorem Gives.ofCalls {P:Program}{f:FuncId}{args:List Value}{v:Value}(hen:Enters P f=true)(h:∀ w,Calls P f args.toArray w fun e w'=>e=.returned v/\w'=w)(C:Mem):Gives P f args C v :=
 ⟨hen,fun w hw=>(h w).mono fun e w' ⟨h1,h2⟩=>by
  subst h2;exact ⟨_,C,[],h1,St.start hw,Z,Z⟩⟩

section
variable {cx:Cx} {n:Nat} {ds:List (Option Nat)} {R:Rg n ds} {its:List It} {fr:Fr} {C:Mem} {L:List Ent} {i k d:Nat} {o:Oper} {g:GL} {v:Value}
theorem D.pP {t t2 e g0 off j q dl dc size len m cap sl:Nat}{x y:Operand}{src:Value}{xs vs:List Value}{ti te:TI}(hk:k=3)(hd:o.dst=some d)(hg:gOn ds fr o.guard=true)
  (hop:o.op=.call ⟨.builtin .copy,#[x,y],#[t,t2]⟩) (ht:cx.T.get t=some ti) (hte:ti.k=.slice e) (he:cx.T.get e=some te) (hsz:te.size=size)
  (hx:ev fr [] x=some (.slice (some ⟨g0,off,none⟩) dl dc)) (hy:ev fr [] y=some src) (hm:L[j]?=some (.arr (.slice (some ⟨g0,0,none⟩) m cap) e size len xs))
  (hsl:∀ w,(Builtin.lenOf src).run cx.P w=.ok sl w) (hq:q=min sl dl) (hvl:vs.length=q*size)
  (hfc:∀ w,Sep C (.arr (.slice (some ⟨g0,0,none⟩) m cap) e size len xs::L.eraseIdx j) w->(Builtin.firstCells size q src).run cx.P w=.ok vs.toArray w)
  (h1:vs.all uo=true) (hfit:off+q*size<=xs.length) (hp:∀ v,aO n ds ((d,[],v)::fr) d=true)
  (h:D cx R its ((d,[],.int .i64 q)::fr) C (.arr (.slice (some ⟨g0,0,none⟩) m cap) e size len (aM xs vs off)::L.eraseIdx j)):D cx R ((i,k,o)::its) fr C L:=by
 have hu:cx.P.underlying t=some (.slice e):=by
  obtain ⟨kk,s1,b1,z1,g1⟩:=ti;simp only at hte;subst hte;exact ck cx.hT ht
 refine D.gF (S:=fun v' C' L'=>v'=.int .i64 q/\C'=C/\L'=.arr (.slice (some ⟨g0,0,none⟩) m cap) e size len (aM xs vs off)::L.eraseIdx j) (by subst hk;rfl) hd hg hp (fun a hs w _ hw=>?_) (fun v' C' L' _ ⟨e0,e1,e2⟩=>by subst e0;subst e1;subst e2;exact h);have hw':=St.perm hw (aC hm);have hown:w.ownsRow 0 e size (.slice (some ⟨g0,0,none⟩) m cap) len xs:=hw'.sep.e _ (br ..);obtain ⟨rfl,hlc,hcm,cur,hb,hcs,htake⟩:=cE hown;obtain ⟨cur⟩:=cur;simp only [MQ] at hcs;simp only at htake;have hxl:xs.length=m*size:=hown.1;have hcl:m*size<=cur.length:=by rw [hcs];exact Lm _ hlc
 have h1':∀ u∈vs,u.oneCell'=true:=fun u hu=>jK (ep.1 h1 u hu);have hst:=run_storeCells_at cx.P g0 off e vs 0 ⟨cur⟩ w hb (by simp [hvl];omega) h1';simp only [Mc] at hst;have hfcw:=hfc w hw'.sep;have hsw:=hsl w;have hzw:=dJ cx.hT he w;rw [hsz] at hzw;have hc:(Builtin.copy_ #[t,t2] o.type #[.slice (some ⟨g0,off,none⟩) dl dc,src]).run cx.P w=.ok (.int .i64 q) (w.setRow g0 (aM cur vs off).toArray):=by
  have hq2:Nat.min sl dl=q:=hq.symm;simp only [Builtin.copy_];simp [run_underlying hu,hsw,hzw,hq2,hfcw,hst,aM,goInt]
 have hex:(execOp a.eval o).run cx.P w=.ok (.value (.int .i64 q)) (w.setRow g0 (aM cur vs off).toArray):=by
  have e1:execOp a.eval o=(do let dd <- resolve a.eval ⟨.builtin .copy,#[x,y],#[t,t2]⟩ o.type;invoke dd.target dd.args:Sem Next):=by unfold execOp;rw [hop]
  rw [e1];simp only [resolve,invoke,builtin,Sem.run_bind,Sem.run_pure,Result.andThen_ok,MZ,Li,M3,hs _ _ hx,hs _ _ hy,hc]
 have hlen:(aM cur vs off).length=cur.length:=gx (by rw [hvl];omega);have hnew:(w.setRow g0 (aM cur vs off).toArray).ownsRow 0 e size (.slice (some ⟨g0,0,none⟩) m cap) m (aM xs vs off) :=
  ⟨by rw [gx (by rw [hvl];omega)];exact hxl,.inr ⟨g0,cap,_,rfl,ch _,setRow_heap w g0 _ _ e _ hb,hlc,hcm,by simp [hlen,hcs],by
     rw [<- htake];exact iQ cur _ off (m*size) (by rw [hvl];omega) hcl⟩⟩
 unfold Oper.wp;rw [hex];exact ⟨.int .i64 q,C,.arr (.slice (some ⟨g0,0,none⟩) m cap) e size m (aM xs vs off)::L.eraseIdx j,Z,Mem.le.refl _,fun h2=>by omega,
  St.turn hw' hnew ⟨rfl,rfl,rfl,by simp,fun k _ hk=>setRow_other w g0 k _ (fun e=>hk (by simp [Value.ownBlock,e]))⟩ (aP _) (.inl rfl),rfl,rfl,rfl⟩

theorem D.Iv {t t2 e g0 off j q dl dc len m cap sl sc:Nat}{x y:Operand}{xs:List Value}{ti te:TI}(hk:k=3)(hd:o.dst=some d)(hg:gOn ds fr o.guard=true)
  (hop:o.op=.call ⟨.builtin .copy,#[x,y],#[t,t2]⟩) (ht:cx.T.get t=some ti) (hte:ti.k=.slice e) (he:cx.T.get e=some te) (hsz:te.size=1)
  (hx:ev fr [] x=some (.slice (some ⟨g0,off,none⟩) dl dc)) (hy:ev fr [] y=some (.slice (some ⟨g0,0,none⟩) sl sc)) (hm:L[j]?=some (.arr (.slice (some ⟨g0,0,none⟩) m cap) e 1 len xs))
  (hq:q=min sl dl) (h1:xs.all uo=true) (hfit:off+q<=xs.length) (hp:∀ v,aO n ds ((d,[],v)::fr) d=true)
  (h:D cx R its ((d,[],.int .i64 q)::fr) C (.arr (.slice (some ⟨g0,0,none⟩) m cap) e 1 len (aM xs (xs.take q) off)::L.eraseIdx j)):D cx R ((i,k,o)::its) fr C L:=by
 refine D.pP (vs:=xs.take q) hk hd hg hop ht hte he hsz hx hy hm (sl:=sl) (fun w=>by simp [Builtin.lenOf]) hq (by rw [eB];omega) (fun w hw=>?_)
  (by rw [ep] at h1 ⊢;exact fun u hu=>h1 u (LT hu)) om_ hp h
 have hown:w.ownsRow 0 e 1 (.slice (some ⟨g0,0,none⟩) m cap) len xs:=hw.e _ (br ..);obtain ⟨rfl,hlc,hcm,cur,hb,hcs,htake⟩:=cE hown;refine run_firstCells_some (P:=cx.P) w 1 q ⟨g0,0,none⟩ sl sc (xs.take q) (by rw [eB];omega) (fun jj u hu=>?_);rw [<- htake,NR,Ly] at hu;split at hu
 ·rw [Addr.add_lit,cell_of_row w g0 _ cur e (0,0) hb];simpa using hu
 ·cases hu

theorem D.Iw {t t2 e g0 off j q dl dc size len m cap:Nat}{x y:Operand}{p:Value}{rows:List (List Value)}{xs:List Value}{ti te:TI}(hk:k=3)(hd:o.dst=some d)(hg:gOn ds fr o.guard=true)
  (hop:o.op=.call ⟨.builtin .copy,#[x,y],#[t,t2]⟩) (ht:cx.T.get t=some ti) (hte:ti.k=.slice e) (he:cx.T.get e=some te) (hsz:te.size=size) (hs0:Nat.beq te.size 0=false)
  (hx:ev fr [] x=some (.slice (some ⟨g0,off,none⟩) dl dc)) (hy:ev fr [] y=some p) (hm:L[j]?=some (.arr (.slice (some ⟨g0,0,none⟩) m cap) e size len xs))
  (hsl:Sl C size p rows) (hq:q=min rows.length dl) (h1:rows.all (fun r=>r.all uo)=true) (hfit:off+q*size<=xs.length) (hp:∀ v,aO n ds ((d,[],v)::fr) d=true)
  (h:D cx R its ((d,[],.int .i64 q)::fr) C (.arr (.slice (some ⟨g0,0,none⟩) m cap) e size len (aM xs (rows.take q).flatten off)::L.eraseIdx j)):D cx R ((i,k,o)::its) fr C L:=by
 obtain ⟨A,c,hpv,hlc,hcm,hrl,hcells⟩:=hsl;have hpos:0<size:=by rw [<- hsz];exact MG (fun e=>by rw [e] at hs0;cases hs0)
 have hrl':∀ r∈rows.take q,r.length=size:=fun r hr=>hrl r (LT hr);have hfl:=aU hrl';have hql:(rows.take q).length=q:=by rw [eB];omega
 refine D.pP (vs:=(rows.take q).flatten) hk hd hg hop ht hte he hsz hx hy hm (sl:=rows.length) (fun w=>by subst hpv;simp [Builtin.lenOf]) hq (by rw [hfl,hql]) (fun w hw=>?_)
  (by
   rw [ep];intro u hu;obtain ⟨r,hr,hur⟩:=List.mem_flatten.1 hu;exact ep.1 (ep.1 h1 r (LT hr)) u hur) hfit hp h
 cases rows with
 | nil =>
  subst hpv;have hq0:q=0:=by rw [hq];simp
  subst hq0;cases A <;> simp [Builtin.firstCells,loadCells,loadCellsFrom]
 | cons r rs =>
  obtain ⟨ad,hA,hsp,_⟩:=hcells 0 r (by simp);subst hA;rw [hpv];refine run_firstCells_some (P:=cx.P) w size q ad _ c _ (by rw [hfl,hql]) (fun jj u hu=>?_);have hqlt:jj<q*size:=by rw [<- hql,<- hfl];exact (aJ.1 hu).1
  have hdiv:jj / size<q:=OA (by rw [K8];exact hqlt);have hdl:jj / size<(r::rs).length:=by omega
  have hgi:(r::rs)[jj / size]?=some (r::rs)[jj / size]:=aq hdl;have hmod:jj % size<((r::rs)[jj / size]).length:=by rw [hrl _ (Mv hdl)];exact K9 _ hpos
  have hgj:=aq hmod;have hgt:((r::rs).take q)[jj / size]?=some (r::rs)[jj / size]:=by rw [Ly,bW hdiv];exact hgi
  have heq:=getElem?_flatten_rows hrl' hgt hgj;have hq':jj / size*size+jj % size=jj:=by rw [K8];exact MT jj size
  rw [hq',hu] at heq;obtain ⟨ad',h3,h4,h5⟩:=hcells _ _ hgi;cases h3
  have:=h5 _ _ hgj;rw [hq'] at this;rw [heq];exact this.cell hw
end
end Go.Jog
namespace Go.Jog
open Go

def hAt (l:List Nat)(k:Nat):Nat:=l.getD k 0
end Go.Jog
namespace Go.Jog
open Go


section
variable {cx:Cx} {n:Nat} {ds:List (Option Nat)} {R:Rg n ds} {its:List It} {fr:Fr} {C:Mem} {L:List Ent} {i k d:Nat} {o:Oper} {g:GL} {v:Value}
end

section
variable {cx:Cx} {n:Nat} {ds:List (Option Nat)} {R:Rg n ds} {its:List It} {fr:Fr} {C:Mem} {L:List Ent} {i k d:Nat} {o:Oper} {g:GL} {v:Value}
theorem D.iY {t ty:Nat}{x y:Operand}{ki:IntKind}{p q:Int}(c:Int)(e_0:Z6 (Nat.ble k 1) true o.dst (some d) o.op (.binOp .quo t x y ty) (gOf ds fr o.guard) (some g) (ev fr g x) (some (.int ki p)) (ev fr g y) (some (.int ki q)))(hq:0<q)(hc:p.tdiv q=c)(hr:ki.wrap c=c)(e_1:Z2 (aO n ds ((d,g,.int ki c)::fr) d) true (wfG ds fr g) true)(h:D cx R its ((d,g,.int ki c)::fr) C L):D cx R ((i,k,o)::its) fr C L :=
 have ⟨hk,hd,hop,hg,hx,hy⟩:=e_0;have ⟨hp,hwf⟩:=e_1;D.run _ hk hd hg (fun _ a hs w=>by
  rw [bB hop (hs _ _ hx) (hs _ _ hy) (fun _ _=>.inl (by simp)) (.inl (by simp)) w];have hq0:q≠0:=by omega
  simp [binOp,Op.intDiv,hq0,hc,hr]) hp hwf h
end

section
variable {F:Fx} {k:List KI} {fr:Fr} {C:Mem} {L:List Ent}
theorem G.FN {e:Exit}(j m:Nat){t s len g0 n c:Nat}{xs:List Value}(hj:L[j]?=some (.arr (.slice (some ⟨g0,0,none⟩) n c) t s len xs))(hm:m<=len)
  (h:G F k e fr C (.arr (.slice (some ⟨g0,0,none⟩) m c) t s m (xs.take (m*s))::L.eraseIdx j)):G F k e fr C L:=fun h0 a w ha hw=>by
 refine h h0 a w ha ?_;have hw':=St.perm hw (aC hj);have hown:w.ownsRow 0 t s (.slice (some ⟨g0,0,none⟩) n c) len xs:=hw'.sep.e _ (br ..);obtain ⟨rfl,hlc,hcm,cur,hb,hcs,htake⟩:=cE hown;have hxl:xs.length=n*s:=hown.1;have hms:m*s<=n*s:=Lm _ hm;have hnew:w.ownsRow 0 t s (.slice (some ⟨g0,0,none⟩) m c) m (xs.take (m*s)) :=
  ⟨by rw [eB];omega,.inr ⟨g0,c,cur,rfl,ch _,hb,LE hm hlc,hcm,hcs,by rw [<- htake,NR,Lt hms]⟩⟩
 exact St.turn hw' hnew ⟨Z,Z,Z,aP _,fun _ _ _=>rfl⟩ (aP _) (.inl Z)
theorem G.nU {e:Exit}(j:Nat){v:Value}{t s m:Nat}{xs:List Value}(hj:L[j]?=some (.arr v t s (m+1) xs))(h:∀ g c,v=.slice (some ⟨g,0,none⟩) (m+1) c->G F k e fr C L):G F k e fr C L:=fun h0 a w ha hw=>by
 have hw':=St.perm hw (aC hj);have hown:w.ownsRow 0 t s v (m+1) xs:=hw'.sep.e _ (br ..);rcases hown.2 with ⟨_,h1⟩ | ⟨g,cap,cur,h1,_⟩
 ·omega
 ·exact h g cap h1 h0 a w ha hw
theorem G.pG {e:Exit}(j:Nat){v:Value}{t s m:Nat}{xs:List Value}(hj:L[j]?=some (.arr v t s m xs))(h:∀ A c,v=.slice A m c->G F k e fr C L):G F k e fr C L:=fun h0 a w ha hw=>by
 have hw':=St.perm hw (aC hj);have hown:w.ownsRow 0 t s v m xs:=hw'.sep.e _ (br ..);rcases hown.2 with ⟨h1,h2⟩ | ⟨g,cap,cur,h1,_⟩
 ·subst h2;exact h _ _ h1 h0 a w ha hw
 ·exact h _ _ h1 h0 a w ha hw
theorem G.FO {e:Exit}(j:Nat){g0 n c t s m:Nat}{xs:List Value}(hj:L[j]?=some (.arr (.slice (some ⟨g0,0,none⟩) n c) t s m xs))(h:n<=c->c<=maxLen->G F k e fr C L):G F k e fr C L:=fun h0 a w ha hw=>by
 have hw':=St.perm hw (aC hj);have hown:w.ownsRow 0 t s (.slice (some ⟨g0,0,none⟩) n c) m xs:=hw'.sep.e _ (br ..);obtain ⟨rfl,hlc,hcm,_⟩:=cE hown;exact h hlc hcm h0 a w ha hw
end
end Go.Jog
namespace Go.Jog
open Go
section
variable {cx:Cx} {n:Nat} {ds:List (Option Nat)} {R:Rg n ds} {its:List It} {fr:Fr} {C:Mem} {L:List Ent} {i k d:Nat} {o:Oper} {g:GL} {v:Value}
end
end Go.Jog
namespace Go.Jog
open Go

def ft (ops:Array Oper):Bool:=ops.toList.all fun o=>match o.op with
 | .defer _=>false
 | _=>true
theorem oW {ops:Array Oper}(h:ft ops=true){i:Nat}{o:Oper}(ho:ops[i]?=some o):∀ c,o.op≠.defer c:=by
 intro c hc;obtain ⟨h1,h2⟩:=My.1 ho;have:=ep.1 h ops[i] (Array.getElem_mem_toList h1);rw [h2,hc] at this;cases this

theorem Hf {P:Program}{o:Oper}{a:Act}{w:World}{next:Act->World->Prop}{Q:Exit->Act->World->Prop}{l n:Nat}(hd:∀ c,o.op≠.defer c)(h:o.wp P a w next Q):o.wpIn (Fence.wide.inRound l) n P a w next Q:=by
 refine ⟨fun _ _=>trivial, ?_⟩;show o.uponIn (Fence.wide.inRound l) n P a next Q ((o.semAt (some l) a.eval).run P w);rw [Oper.semAt_some l a.eval o hd];unfold Oper.wp at h;revert h;generalize (execOp a.eval o).run P w=r;intro h;cases r with
 | ok x w' =>
  cases x with
  | value v=>exact h
  | skip=>exact h
  | defer d=>exact h
  | enter f args=>exact ⟨(fun h=>(by cases h)),CallsIn.inRound l (callsIn_wide.2 h)⟩
  | row row args =>
   refine ⟨(fun h=>(by cases h)),fun c cs _=>?_⟩;obtain ⟨v,w2,h1,h2⟩:=h c cs;exact ⟨v,w2,h1,stepsIn_wide.2 h2⟩
  | _=>exact h.elim
 | halt x w' =>
  cases x <;> exact h

theorem zI {P:Program}{ops:Array Oper}{N:Act->World->Prop}{l n:Nat}{i:Nat}{K K':Act->World->Prop}{a:Act}{w:World}(hd:ft ops=true)(hk:∀ a w,K a w->K' a w)
  (h:wpOp P ops (QN N) i K a w):wpOpIn (Fence.wide.inRound l) n P ops (QN N) i K' a w:=by
 unfold wpOp at h;unfold wpOpIn;cases ho:ops[i]? with
 | none=>rw [ho] at h;exact hk _ _ h
 | some o =>
  rw [ho] at h;simp only at h ⊢;split
  ·rename_i hw;rw [bW hw] at h;rcases h with h | ⟨_,a',w',h⟩
   ·exact Hf (oW hd ho) (Oper.wp_mono hk h)
   ·exact h.elim
  ·rename_i hw;rw [a7 hw] at h;exact ⟨fun _ _=>trivial,hk _ _ h⟩
theorem vC {P:Program}{ops:Array Oper}{N:Act->World->Prop}{l n:Nat}(hd:ft ops=true):∀ (π:List Nat)(a:Act)(w:World),wpOps P ops (QN N) π a w->wpOpsIn (Fence.wide.inRound l) n P ops (QN N) π a w
 | [],_,_,h=>h
 | i::π,a,w,h=>by
  rw [wpOps_cons] at h;rw [wpOpsIn_cons];exact zI hd (fun a w=>vC hd π a w) h
theorem vD {P:Program}{ops:Array Oper}{N:Act->World->Prop}{l n:Nat}{md:Region.Mode}(hd:ft ops=true):∀ (f:Nat)(ls:Array Bool)(a:Act)(w:World),wpAny P md ops (QN N) f ls a w->wpAnyIn (Fence.wide.inRound l) n P md ops (QN N) f ls a w
 | 0,_,_,_,h=>h
 | f+1,_ls,_a,_w,h=>⟨h.1,fun i hi=>zI hd (fun a w=>vD hd f _ a w) (h.2 i hi)⟩
end Go.Jog
namespace Go.Jog
open Go
structure RankTo (A:List Arc3)(n:Nat)(pre e:List Nat):Prop where
 len:e.length=n
 sound:∀ v,v<n->∃ u,KZ A (hAt e v) u v
 up:∀ a∈A,a.lo∈pre->hAt e a.lo+1<=hAt e a.up
end Go.Jog
namespace Go.Jog
open Go
section
variable {cx:Cx} {n:Nat} {ds:List (Option Nat)} {R:Rg n ds} {its:List It} {fr:Fr} {C:Mem} {L:List Ent} {i k d:Nat} {o:Oper} {g:GL} {v:Value}
theorem D.max {x y:Operand}{ts:Array TypeId}{p q:Int}{ki kj:IntKind}(c:Int)(e_0:Z6 (Nat.ble k 1) true o.dst (some d) o.op (.call ⟨.builtin .max,#[x,y],ts⟩) (gOf ds fr o.guard) (some g) (ev fr g x) (some (.int ki p)) (ev fr g y) (some (.int kj q)))(hc:Max.max p q=c)(e_1:Z2 (aO n ds ((d,g,.int ki c)::fr) d) true (wfG ds fr g) true)(h:D cx R its ((d,g,.int ki c)::fr) C L):D cx R ((i,k,o)::its) fr C L :=
 have ⟨hk,hd,hop,hg,hx,hy⟩:=e_0;have ⟨hp,hwf⟩:=e_1;D.run _ hk hd hg (fun _ a hs w=>by
  have e1:execOp a.eval o=(do let dd <- resolve a.eval ⟨.builtin .max,#[x,y],ts⟩ o.type;invoke dd.target dd.args:Sem Next):=by unfold execOp;rw [hop]
  rw [e1];have hm:(if q > p then q else p)=c:=by rw [<- hc];by_cases hh:q > p <;> simp [hh] <;> omega
  simp [resolve,invoke,builtin,hs _ _ hx,hs _ _ hy,Builtin.max_,Builtin.max2,hm]) hp hwf h
theorem D.min {x y:Operand}{ts:Array TypeId}{p q:Int}{ki kj:IntKind}(c:Int)(hk:Nat.ble k 1=true)(hd:o.dst=some d)(hop:o.op=.call ⟨.builtin .min,#[x,y],ts⟩)(hg:gOf ds fr o.guard=some g)(hx:ev fr g x=some (.int ki p))(hy:ev fr g y=some (.int kj q))
  (hc:Min.min p q=c) (hp:aO n ds ((d,g,.int ki c)::fr) d=true) (hwf:wfG ds fr g=true)
  (h:D cx R its ((d,g,.int ki c)::fr) C L):D cx R ((i,k,o)::its) fr C L :=
 D.run _ hk hd hg (fun _ a hs w=>by
  have e1:execOp a.eval o=(do let dd <- resolve a.eval ⟨.builtin .min,#[x,y],ts⟩ o.type;invoke dd.target dd.args:Sem Next):=by unfold execOp;rw [hop]
  rw [e1];have hm:(if q<p then q else p)=c:=by rw [<- hc];by_cases hh:q<p <;> simp [hh] <;> omega
  simp [resolve,invoke,builtin,hs _ _ hx,hs _ _ hy,Builtin.min_,Builtin.min2,hm]) hp hwf h
end
end Go.Jog
namespace Go.Jog
open Go

def Cw.round (P:Program)(l n:Nat):Cw P where
 wp:=fun c Q a w=>c.wpIn (Fence.wide.inRound l) n P Q a w
 nd:=fun ops=>ft ops=true
 mono:=fun h q=>wpIn_mono q h
 skip:=wpIn_skip
 ret:=wpIn_ret
 exit:=wpIn_exit
 seq:=wpIn_seq
 block:=wpIn_block
 cond:=wpIn_cond_split
 loop:=wpIn_loop
 region:=fun hd h=>wpIn_mono (wpIn_region (vC hd _ _ _ h)) (fun e a w q=>by cases e <;> first | exact q | exact q.elim)
 any:=fun hm hd h=>wpIn_mono (wpIn_region_any hm (vD hd _ _ _ _ h)) (fun e a w q=>by cases e <;> first | exact q | exact q.elim)

theorem tL (F:Fx)(dd:List Deferred):∀ k,Kq { F with dd:=dd } k=Kq F k
 | []=>rfl
 | .code c::k=>by
  funext e a w;cases e <;> simp only [Kq,tL F dd k]
 | .blk id::k=>by
  funext e a w;cases e <;> simp only [Kq,tL F dd k]
 | .inv I::k=>by
  funext e a w;cases e <;> simp only [Kq,tL F dd k]

def Kk (P:Program)(gf:FuncId)(lb:Array Value)(C:Mem)(vss:List (Value × Value)):Prop :=
 ∀ (l:Nat)(J:Nat->World->Prop)(W:World),
  (∀ k W,J k W->∀ b o,C b=some o->W.heap[b]?=some o)->(∀ k W,J k W->J k W.drew) ->
  (∀ k v W1,J k W1->vss[k]?=some v->YieldAt Fence.wide 1 P l #[v.1,v.2] W1 fun e W'=>e=.returned (.bool true)/\J (k+1) W') ->
  J 0 W->CallsIn Fence.wide 2 P gf (#[.func (.yield l) #[] #[]]++lb) W fun e W'=>(∃ v,e=.returned v)/\J vss.length W'

section
variable {F:Fx} {k:List KI} {fr:Fr} {C:Mem} {L:List Ent}
theorem St.putObj {w0:World}{C0:Mem}{L0:List Ent}{C:Mem}{L:List Ent}{w:World}{b:Nat}{o o':Obj}(h:St w0 C0 L0 C (.obj b o::L) w):St w0 C0 L0 C (.obj b o'::L) (w.putObj b o'):=by
 have hb:w.heap[b]?=some o:=h.sep.e _ (br ..);exact St.put h (World.putObj_heap_same (My.1 hb).1) (fun k hk=>World.putObj_heap_other hk) (World.putObj_size) Z Z Z (aP _)

theorem G.pJ {cx:Cx}{fn:Func}{n l:Nat}{b:Bs}{post:Value->Mem->List Ent->Prop}{last:Exit->Act->World->Prop}{c:Code}(h:G ⟨cx,fn,n,b,post,Cw.round cx.P l 1,[],last⟩ (eA 64 [.code c]) .normal fr C L)
  (hle:b.C0.le C) {a:Act} {w:World} (ha:FrOk n [] [] fr a) (hw:b.cls (C,L) w):c.wpIn (Fence.wide.inRound l) 1 cx.P last a w:=by
 have:=G.bQ 64 h hle a w ha hw;simp only [Kq] at this;exact wpIn_mono this (fun e a w q=>by cases e <;> exact q)

theorem G.rangeFunc {g:Operand}{p0 p1:Nat}{assign body:Code}{gf:FuncId}{lb:Array Value}{vss:List (Value × Value)}(hW:F.W=Cw.plain F.cx.P)(hd0:F.dd=[])
  (hg:ev fr [] g=some (.func (.func gf) #[] lb)) (hen:Enters F.cx.P gf=true) (hseq:Kk F.cx.P gf lb C vss) (I:Nat->List Ent->Prop) (h0:I 0 L) (_hp:fr.all (fun x=>x.2.1.isEmpty)=true)
  (hok:∀ u v,(aO F.n [] ((p0,[],u)::fr) p0 && aO F.n [] ((p1,[],v)::(p0,[],u)::fr) p1)=true) (frb:Value->Value->Fr)
  (hassign:∀ l u v W1 L',G ⟨F.cx,F.fn,F.n,⟨W1,C,L'⟩,F.post,Cw.round F.cx.P l 1,[],fun e a w'=>e=.normal/\FrOk F.n [] [] (frb u v) a/\St W1 C L' C L' w'⟩ (eA 64 [.code assign]) .normal ((p1,[],v)::(p0,[],u)::fr) C L')
  (hbody:∀ l j u v L' W1,I j L'->vss[j]?=some (u,v) ->
   G ⟨F.cx,F.fn,F.n,⟨W1,C,L'⟩,F.post,Cw.round F.cx.P l 1,[],fun e _ w'=>e=.normal/\∃ L1,I (j+1) L1/\St W1 C L' C L1 w'⟩ (eA 64 [.code body]) .normal (frb u v) C L')
  (hdone:∀ D L',I vss.length L'->G { F with dd:=[{ target:=.collected D,args:=#[] }] } (eA 64 k) .normal fr C (.obj D (.deferred (some []))::L')) :
  G F (.code (.rangeFunc g #[p0,p1] assign body)::k) .normal fr C L:=fun hle a w ha hw=>by
 simp only [Kq,hW];show (Code.rangeFunc g #[p0,p1] assign body).wp F.cx.P (Kq F k) a w;refine (wpIn_wide (n:=3)).1 (wpIn_rangeFunc fun fn _=>?_);have hga:a.eval g=.func (.func gf) #[] lb:=bd ha (fun p hp=>by cases hp) hg;have hdef:a.defers=[]:=ha.defers.trans hd0;obtain ⟨rec,hrec⟩:∃ rec:LoopState->Loop,rec=fun st=>{ state:=st,pending:=none,fn,tmps:=a.tmps,params:=#[p0,p1],assign,body,defers:=w.heap.size }:=⟨_,rfl⟩;obtain ⟨W1,hW1⟩:∃ W1,(w.alloc (.deferred (some []))).alloc (.loop (rec .ready))=W1:=⟨_,rfl⟩;have hS1:St F.b.w0 F.b.C0 F.b.L0 C (.obj (w.heap.size+1) (.loop (rec .ready))::.obj w.heap.size (.deferred (some []))::L) W1:=by
  have:=St.alloc (St.alloc hw (.deferred (some []))) (.loop (rec .ready));rw [World.size_alloc] at this;rw [<- hW1];exact this
 refine ⟨w.heap.size+1,[{ target:=.collected w.heap.size,args:=#[] }],W1,{ target:=.fn (.func gf) lb,args:=#[.func (.yield (w.heap.size+1)) #[] #[]] },W1,gf,
  #[.func (.yield (w.heap.size+1)) #[] #[]]++lb,W1, ?_, ?_,fun _ _=>trivial, ?_,fun _=>by decide, ?_⟩
 ·rw [<- hW1,hrec];exact run_enterLoop_outer _ _ _ _ _
 ·simp only [resolve,hga];simp [go_sem]
 ·simp [invoke,go_sem,fl hen]
 ·refine (hseq (w.heap.size+1) (fun j W=>∃ L',I j L'/\St F.b.w0 F.b.C0 F.b.L0 C (.obj (w.heap.size+1) (.loop (rec .ready))::.obj w.heap.size (.deferred (some []))::L') W) W1
   (fun j W ⟨L',_,hs⟩=>hs.sep.c) (fun j W ⟨L',hi,hs⟩=>⟨L',hi,hs.drew⟩) ?_ ⟨L,h0,hS1⟩).mono ?_
  ·rintro j ⟨u,v⟩ W ⟨L',hi,hs⟩ hj;have hl:W.heap[w.heap.size+1]?=some (.loop (rec .ready)):=hs.sep.e _ (br ..);have hy:=run_yield (P:=F.cx.P) (args:=#[u,v]) hl (by rw [hrec];rfl);rw [hrec] at hy;have hz:(#[p0,p1].zip #[u,v]).foldl (fun tmps (x:Nat × Value)=>match x with | (t,a)=>tmps.setIfInBounds t a) a.tmps=(a.tmps.setIfInBounds p0 u).setIfInBounds p1 v:=by simp
   dsimp only at hy;rw [hz] at hy;refine ⟨fn,_,assign,body,hy,roundIn_of_wpIn trivial ?_⟩;have hfr:FrOk F.n [] [] ((p1,[],v)::(p0,[],u)::fr) { tmps:=(a.tmps.setIfInBounds p0 u).setIfInBounds p1 v,defers:=[] }:=by
    have hk:=hok u v;rw [bL] at hk;have h1:=FrOk.put (u:=u) (FrOk.mk (dd:=[]) ha.size hdef ha.ent:FrOk F.n [] [] fr a) hk.1 ⟨fun _=>rfl,fun hn=>absurd (fun p hp=>by cases hp) hn⟩;have h2:=FrOk.put (u:=v) h1 hk.2 ⟨fun _=>rfl,fun hn=>absurd (fun p hp=>by cases hp) hn⟩;exact ⟨h2.size,Z,h2.ent⟩
   have hA:=G.pJ (hassign (w.heap.size+1) u v W _) (Mem.le.refl _) hfr (St.start hs.sep);refine wpIn_mono hA (fun e a1 W2 q=>?_);obtain ⟨rfl,hfr1,hs1⟩:=q;have hs2:=St.call (Lr:=[]) (by rw [LY];exact hs) hs1;rw [LY] at hs2;have hl2:W2.heap[w.heap.size+1]?=some (.loop (rec .ready)):=hs2.sep.e _ (br ..);refine ⟨_,run_beginRound hl2 (by rw [hrec]), ?_⟩;have hs3:St F.b.w0 F.b.C0 F.b.L0 C (.obj (w.heap.size+1) (.loop (rec .busy))::.obj w.heap.size (.deferred (some []))::L') (W2.putObj (w.heap.size+1) (.loop { rec .ready with state:=.busy })):=by
    have:=St.putObj (o':=.loop { rec .ready with state:=.busy }) hs2;rw [hrec] at this ⊢;exact this
   have hB:=G.pJ (hbody (w.heap.size+1) j u v L' (W2.putObj (w.heap.size+1) (.loop { rec .ready with state:=.busy })) hi hj) (Mem.le.refl _) hfr1 (St.start hs3.drop.drop.sep);refine wpIn_mono hB (fun e a2 W4 q=>?_);obtain ⟨rfl,L1,hi1,hs4⟩:=q;have hs5:=St.call (Lp:=L') (Lr:=[.obj (w.heap.size+1) (.loop (rec .busy)),.obj w.heap.size (.deferred (some []))]) (St.perm hs3 (Lv (l₁:=[_,_]))) hs4;have hs6:St F.b.w0 F.b.C0 F.b.L0 C (.obj (w.heap.size+1) (.loop (rec .busy))::.obj w.heap.size (.deferred (some []))::L1) W4:=St.perm hs5 (Lv (l₂:=[_,_]));have hl4:W4.heap[w.heap.size+1]?=some (.loop (rec .busy)):=hs6.sep.e _ (br ..);refine ⟨_,_,run_endRound none hl4,Z,L1,hi1, ?_⟩;have:=St.putObj (o':=.loop { rec .busy with state:=if (none:Option Code).isNone then .ready else .done,pending:=none }) hs6;rw [hrec] at this ⊢;exact this
  ·rintro e W2 ⟨⟨v,rfl⟩,L',hi,hs⟩;have hl:W2.heap[w.heap.size+1]?=some (.loop (rec .ready)):=hs.sep.e _ (br ..);refine ⟨none,_,by have:=run_endLoop (P:=F.cx.P) hl (by rw [hrec];simp);rw [hrec] at this;exact this, ?_⟩;have hs2:St F.b.w0 F.b.C0 F.b.L0 C (.obj w.heap.size (.deferred (some []))::L') (W2.putObj (w.heap.size+1) (.loop { rec .ready with state:=.exhausted })):=(St.putObj hs).drop;have:=G.bQ 64 (hdone w.heap.size L' hi) hle { a with defers:=[{ target:=.collected w.heap.size,args:=#[] }]++a.defers } _ ⟨ha.size,by rw [hdef];rfl,ha.ent⟩ hs2;rw [tL] at this;rw [hrec] at this;exact this

theorem G.kZ {cx:Cx}{fn:Func}{n:Nat}{W1:World}{C C':Mem}{L' L1 L2:List Ent}{post:Value->Mem->List Ent->Prop}{W:Cw cx.P}{R:List Ent->Prop}(hp:L1.Perm L2)(h:R L2) :
  G ⟨cx,fn,n,⟨W1,C,L'⟩,post,W,[],fun e _ w'=>e=.normal/\∃ L1,R L1/\St W1 C L' C L1 w'⟩ [] .normal fr C' L1:=fun hle _ _ _ hw =>
 ⟨rfl,L2,h,St.less (St.perm hw hp) (Mem.le.refl _) hle⟩
theorem G.nV {cx:Cx}{fn:Func}{n:Nat}{W1:World}{C C':Mem}{L':List Ent}{post:Value->Mem->List Ent->Prop}{W:Cw cx.P}{fr':Fr}(hs:Has fr fr') :
  G ⟨cx,fn,n,⟨W1,C,L'⟩,post,W,[],fun e a w'=>e=.normal/\FrOk n [] [] fr' a/\St W1 C L' C L' w'⟩ [] .normal fr C' L':=fun hle _ _ ha hw =>
 ⟨rfl,ha.weaken hs.sub,St.less hw (Mem.le.refl _) hle⟩

theorem Fn.introM {cx:Cx}{f:FuncId}{fn:Func}{c:Code}{args:List Value}{C:Mem}{L:List Ent}{post:Value->Mem->List Ent->Prop}(hen:Enters cx.P f=true)(hf:cx.P.funcs[f]?=some fn)(hb:fn.body=some c)
  (n:Nat) (hnt:fn.ntmps=n) (hn:Nat.ble args.length n=true)
  (h:∀ w0,G ⟨cx,fn,n,⟨w0,C,L⟩,post,Cw.plain cx.P,[],bodyPostM Fence.wide 3 cx.P fn (lD ⟨w0,C,L⟩ post)⟩ (eA 64 [.code c]) .normal (tI args 0) C L):Fn cx.P f args C L post:=by
 subst hnt;refine ⟨hen,fun w hw=>callsIn_wide.1 (callsIn_of_wp_marks (n:=3) hf hb trivial ?_)⟩;rw [Mg] at hn;have:=G.bQ 64 (h w) (Mem.le.refl _) { tmps:=args.toArray++Array.replicate (fn.ntmps-args.toArray.size) undef,defers:=[] } w
  ⟨by simp;omega,rfl,fun s g v hg=>by
   obtain ⟨rfl,_,hv⟩:=nR hg;refine ⟨fun _=>?_,fun hn=>absurd (fun p hp=>by cases hp) hn⟩;simp only [N7] at hv;have hlt:=(aJ.1 hv).1;simp only [Array.getElem?_append,MQ,hlt,Mb,LB];exact hv⟩ (St.start hw)
 simp only [Kq] at this;refine wpIn_wide.2 (Code.wp_mono (fun e a w q=>?_) this);cases e <;> exact q

theorem Ff {cx:Cx}{fn:Func}{n:Nat}{b:Bs}{post:Value->Mem->List Ent->Prop}:(⟨cx,fn,n,b,post,Cw.plain cx.P,[],bodyPostM Fence.wide 3 cx.P fn (lD b post)⟩:Fx).ends:=by
 refine ⟨fun e a w h=>?_,Z⟩;cases e with
 | normal=>obtain ⟨h1,h2⟩:=h;show LeavesInM _ _ _ _ _ _ a.defers _ _;rw [h1];exact h2
 | ret=>obtain ⟨h1,h2⟩:=h;show LeavesInM _ _ _ _ _ _ a.defers _ _;rw [h1];exact h2
 | panic c=>obtain ⟨h1,h2⟩:=h;show LeavesInM _ _ _ _ _ _ a.defers _ _;rw [h1];exact h2
 | outgrown=>exact h
 | exit id=>exact h
 | goto l=>exact h

theorem G.GI {cx:Cx}{fn:Func}{n D:Nat}{b:Bs}{post:Value->Mem->List Ent->Prop}{v:Value}
  (hr:∀ a w,FrOk n [] [{ target:=.collected D,args:=#[] }] fr a->St b.w0 b.C0 b.L0 C L w->(results fn a.tmps).run cx.P w=.ok v w) (h:post v C []) :
  G ⟨cx,fn,n,b,post,Cw.plain cx.P,[{ target:=.collected D,args:=#[] }],bodyPostM Fence.wide 3 cx.P fn (lD b post)⟩ [] .ret fr C (.obj D (.deferred (some []))::L):=fun hle a w ha hw=>by
 show LeavesInM _ _ _ _ _ _ a.defers _ _;rw [ha.defers];have hD:w.heap[D]?=some (.deferred (some [])):=hw.sep.e _ (br ..);have hs:=(St.putObj (o':=.deferred none) hw).drop;exact ⟨by simp,.inl ⟨D,_,Z,run_takeDeferred hD,v,hr a _ ha hs,v,C,[],Z,St.dropAll hs,h⟩⟩

theorem G.xI {v:Value}(hr:∀ a w,FrOk F.n [] F.dd fr a->St F.b.w0 F.b.C0 F.b.L0 C L w->(results F.fn a.tmps).run F.cx.P w=.ok v w)(h:F.post v C [])(he:F.ends):G F [] .ret fr C L:=fun _ a w ha hw =>
 he.kq (bodyPost_ret (v:=v) (hr a w ha hw) (ha.defers.trans he.2) ⟨v,C,[],rfl,St.dropAll hw,h⟩)
end
end Go.Jog
namespace Go.Jog
open Go
structure RankS (A:List Arc3)(n:Nat)(S:Arc3->Prop)(e:List Nat):Prop where
 len:e.length=n
 sound:∀ v,v<n->∃ u,KZ A (hAt e v) u v
 up:∀ a∈A,S a->hAt e a.lo+1<=hAt e a.up
end Go.Jog
namespace Go.Jog
open Go
def chG (ds:List (Option Nat))(fr:Fr):GL->Bool
 | []=>true
 | (j,_)::r=>(match ((ds[j]?).bind id).bind fr.get with
  | some (g',.bool _)=>g' == r
  | _=>false) && chG ds fr r
theorem rE {n:Nat}{ds:List (Option Nat)}{fr:Fr}{a:Act}{dd:List Deferred}(h:FrOk n ds dd fr a):∀ {g:GL},chG ds fr g=true->GT ds fr g->GH ds a.tmps g
 | [],_,_=>fun p hp=>by cases hp
 | (j,w)::r,hc,hg=>by
  simp only [chG,bL] at hc;have ih:=rE h hc.2 hg.2;have h1:=hg.1;have h2:=hc.1;cases hd:(ds[j]?).bind id with
  | none=>rw [hd] at h2;simp at h2
  | some d =>
   rw [hd] at h1 h2;simp only [Option.bind_some] at h1 h2;split at h2
   ·rename_i g' b hb;rw [hb] at h1;simp only at h1;simp only [Lg] at h2;subst h2;subst h1;intro p hp;rcases cI.1 hp with rfl | hp
    ·unfold yld;rw [hd];have:=(h.ent d g' (.bool b) hb).1 ih;simp [this]
    ·exact ih p hp
   ·cases h2
section
variable {cx:Cx} {n:Nat} {ds:List (Option Nat)} {R:Rg n ds} {its:List It} {fr:Fr} {C:Mem} {L:List Ent} {i k d:Nat} {o:Oper} {g:GL}
theorem D.j7 {β:Type}[Inhabited β](f0:β->Value){post:β->Mem->Prop}{f:Operand}{args:Array Operand}{ts:Array TypeId}{fid:FuncId}{fi ca:Array Value}{vs args':List Value}(c:GT ds fr g->Pur cx.P fid args' C fun v C'=>∃ b,v=f0 b/\post b C')(e_0:Z7 (Nat.ble k 1) false o.dst (some d) (gOf ds fr o.guard) (some g) o.op (.call ⟨.value f,args,ts⟩) (ev fr g f) (some (.func (.func fid) fi ca)) (ji (ev fr g) args.toList) (some vs) (fi.toList++vs++ca.toList) args')(hp:∀ b,aO n ds ((d,g,f0 b)::fr) d=true)(e_1:Z2 (wfG ds fr g) true (chG ds fr g) true)(h:∀ b C',C.le C'->(GT ds fr g->post b C')->D cx R its ((d,g,f0 b)::fr) C' L):D cx R ((i,k,o)::its) fr C L:=by
 have ⟨hk,hd,hg,hop,hf,hargs,he⟩:=e_0;have ⟨hwf,hch⟩:=e_1;intro hC0 hits a ha;obtain ⟨hkd,ho⟩:=hits (i,k,o) (by simp);simp only at hkd ho;have hk1:¬ k<=1:=fun hle=>by rw [<- Mg] at hle;rw [hle] at hk;cases hk
 simp only [Li,DU];unfold dI;simp only [ho,hkd,hk1,LZ];intro w hw;unfold wpOp;simp only [ho];have hwt:=fD R.hy ha hg;by_cases hG:GH ds a.tmps g
 ·have hGT:=FK ha hG (pT hwf);have hon:Region.wanted o (yielded R.ops a.tmps)=true:=hwt.2 hG;simp only [hon,Mb];refine .inl ?_;unfold Oper.wp;rw [lM hop (bd ha hG hf) (dN (fun x y=>bd ha hG) hargs) he (c hGT).1 w];simp only [Oper.upon];refine ((c hGT).callAt (Lp:=[]) (Lr:=L) hw).mono fun e w' ⟨v,C',L',e1,h1,h2,h3,b,h4,h5⟩=>?_;subst h3;subst h4;subst e1;refine ⟨(C',L),fun _=>⟨h1,fun _ hx=>hx⟩,h2, ?_⟩;rw [hd];exact h b C' h1 (fun _=>h5) (hC0.trans h1) (fun x hx=>hits x (by simp [hx])) _ (ha.put (hp b) ⟨fun _=>rfl,fun hn=>absurd hG hn⟩)
 ·have hoff:Region.wanted o (yielded R.ops a.tmps)=false:=by
   cases hx:Region.wanted o (yielded R.ops a.tmps) with
   | false=>rfl
   | true=>exact absurd (hwt.1 hx) hG
  simp only [hoff,LG,LZ];refine ⟨(C,L),fun _=>kle.refl _,hw, ?_⟩;rw [hd];exact h default C (Mem.le.refl _) (fun hGT=>absurd (rE ha hch hGT) hG) hC0 (fun x hx=>hits x (by simp [hx])) _ (ha.put (hp default) ⟨fun hn=>absurd hn hG,fun _=>rfl⟩)
end
end Go.Jog
namespace Go.Jog
open Go
section
variable {cx:Cx} {n:Nat} {ds:List (Option Nat)} {R:Rg n ds} {its:List It} {fr:Fr} {C:Mem} {L:List Ent} {i k d:Nat} {o:Oper} {g:GL}
theorem D.vn {f:Nat->Value}{ob:Obj}(hk:Nat.ble k 1=false)(hd:o.dst=some d)(hg:gOf ds fr o.guard=some g)(hp:∀ b,aO n ds ((d,g,f b)::fr) d=true)(hwf:wfG ds fr g=true)(hch:chG ds fr g=true)
  (hrun:GT ds fr g->∀ a,D1 (ev fr g) a->∀ w,(execOp a.eval o).run cx.P w=.ok (.value (f w.heap.size)) (w.alloc ob))
  (h:∀ b C',C.le C'->(GT ds fr g->C' b=some ob)->D cx R its ((d,g,f b)::fr) C' L):D cx R ((i,k,o)::its) fr C L:=by
 intro hC0 hits a ha;obtain ⟨hkd,ho⟩:=hits (i,k,o) (by simp);simp only at hkd ho;have hk1:¬ k<=1:=fun hle=>by rw [<- Mg] at hle;rw [hle] at hk;cases hk
 simp only [Li,DU];unfold dI;simp only [ho,hkd,hk1,LZ];intro w hw;unfold wpOp;simp only [ho];have hwt:=fD R.hy ha hg;by_cases hG:GH ds a.tmps g
 ·have hGT:=FK ha hG (pT hwf);have hon:Region.wanted o (yielded R.ops a.tmps)=true:=hwt.2 hG;simp only [hon,Mb];refine .inl ?_;unfold Oper.wp;rw [hrun hGT a (fun x v hx=>bd ha hG hx) w];have h1:=St.alloc hw ob;have h2:=h1.freeze;refine ⟨(C.set w.heap.size ob,L),fun _=>⟨h2.1,fun _ hx=>hx⟩,h2.2, ?_⟩;rw [hd];exact h w.heap.size _ h2.1 (fun _=>Mem.set_self _ _ _) (hC0.trans h2.1) (fun x hx=>hits x (by simp [hx])) _ (ha.put (hp _) ⟨fun _=>rfl,fun hn=>absurd hG hn⟩)
 ·have hoff:Region.wanted o (yielded R.ops a.tmps)=false:=by
   cases hx:Region.wanted o (yielded R.ops a.tmps) with
   | false=>rfl
   | true=>exact absurd (hwt.1 hx) hG
  simp only [hoff,LG,LZ];refine ⟨(C,L),fun _=>kle.refl _,hw, ?_⟩;rw [hd];exact h 0 C (Mem.le.refl _) (fun hGT=>absurd (rE ha hch hGT) hG) hC0 (fun x hx=>hits x (by simp [hx])) _ (ha.put (hp 0) ⟨fun hn=>absurd hn hG,fun _=>rfl⟩)
theorem D.cJ {t e len:Nat}{parts:Array (Nat × Operand)}{ti te:TI}(rows:List (List Value))(e_0:Z12 (Nat.ble k 1) false o.dst (some d) (gOf ds fr o.guard) (some g) o.op (.buildSlice t len parts) (cx.T.get t) (some ti) ti.k (.slice e) (cx.T.get e) (some te) (oh (ev fr g) parts.toList 0) (some rows) (rows.all fun r=>Nat.beq r.length te.size) true (Nat.beq parts.toList.length len) true (Nat.ble (len*te.size) 16777216) true (Nat.beq te.size 0) false)(hp:∀ b,aO n ds ((d,g,.slice (some ⟨b,0,none⟩) rows.length rows.length)::fr) d=true)(e_1:Z2 (wfG ds fr g) true (chG ds fr g) true)(h:∀ b C',C.le C'->(GT ds fr g->Sl C' te.size (.slice (some ⟨b,0,none⟩) rows.length rows.length) rows)->D cx R its ((d,g,.slice (some ⟨b,0,none⟩) rows.length rows.length)::fr) C' L):D cx R ((i,k,o)::its) fr C L:=by
 have ⟨hk,hd,hg,hop,ht,hte,he,hrows,hl,hlen,hbig,hs0⟩:=e_0;have ⟨hwf,hch⟩:=e_1;have hl':∀ r∈rows,r.length=te.size:=fun r hr=>fB (ep.1 hl r hr);have hlen':=fB hlen;rw [Mg] at hbig;have hpl:=(cO hrows hl').2;refine D.vn (f:=fun b=>.slice (some ⟨b,0,none⟩) rows.length rows.length) (ob:=.cells ⟨rows.flatten⟩ e) hk hd hg hp hwf hch (fun _ a hs w=>?_) (fun b C' hle hb=>?_)
 ·have e1:execOp a.eval o=(do Pure.pure (.value (<- Instr.buildSlice t len (parts.map fun (i,x)=>(i,a.eval x)))):Sem Next):=by unfold execOp;rw [hop]
  rw [e1];have e2:(parts.map fun (i,x)=>(i,a.eval x))=(parts.toList.map fun (i,x)=>(i,a.eval x)).toArray:=by apply Ml;simp
  rw [e2];simp only [Sem.run_bind,ee cx.hT ht hte he (fun x v hx=>hs x v hx) hrows hl' hlen' hbig w,Result.andThen_ok,Sem.run_pure]
 ·refine h _ C' hle (fun hG=>Sl.ofBlock (hb hG) hl' (fun j v hj=>by simpa using hj) (aP _) ?_);rw [hpl,hlen'];have h0:0<te.size:=MG (fun e=>by rw [e] at hs0;cases hs0);have:len<=len*te.size:=MO _ h0;simp only [maxLen];omega
end
end Go.Jog
namespace Go.Jog
open Go
def dL (c:UInt8):List UInt8->List UInt8 × Option (List UInt8)
 | []=>([],none)
 | b::s=>if b=c then ([],some s) else (b::(dL c s).1,(dL c s).2)
theorem iG (c:UInt8):∀ s:List UInt8,(dL c s=(s,none)/\Lib.indexByte s c=-1/\c ∉ s)∨∃ pre post,dL c s=(pre,some post)/\s=pre++c::post/\c ∉ pre/\Lib.indexByte s c=pre.length
 | []=>.inl ⟨rfl,rfl,by simp⟩
 | b::s=>by
  by_cases hb:b=c
  ·subst hb;exact .inr ⟨[],s,by simp [dL],Z,by simp,by simp [Lib.indexByte]⟩
  ·rcases iG c s with ⟨h1,h2,h3⟩ | ⟨pre,post,h1,h2,h3,h4⟩
   ·refine .inl ⟨by simp [dL,hb,h1],by simp [Lib.indexByte,hb,h2],by simp [Ne.symm hb,h3]⟩
   ·refine .inr ⟨b::pre,post,by simp [dL,hb,h1],by simp [h2],by simp [Ne.symm hb,h3], ?_⟩;have h5:¬ (pre.length:Int)=-1:=by omega
    simp [Lib.indexByte,hb,h4,h5]
theorem wY {c:UInt8}{s:List UInt8}(h:0<=Lib.indexByte s c):∃ pre post,dL c s=(pre,some post)/\s=pre++c::post/\Lib.indexByte s c=pre.length:=by
 rcases iG c s with ⟨_,h2,_⟩ | ⟨pre,post,h1,h2,_,h4⟩
 ·omega
 ·exact ⟨pre,post,h1,h2,h4⟩
theorem tm {c:UInt8}{s:List UInt8}(h:¬ 0<=Lib.indexByte s c):dL c s=(s,none):=by
 rcases iG c s with ⟨h1,_⟩ | ⟨pre,post,h1,h2,_,h4⟩
 ·exact h1
 ·omega
def okD (s:List UInt8):Bool:=!(s == []) && decide (s.length<=200) && !(s.head? == some 48 && decide (1<s.length)) && s.all dE
theorem fZ {s:List UInt8}:okD s=true ↔ rO s/\s.length<=200:=by
 unfold okD rO;simp only [bL,Mu,Mt,ne_eq,cH,ep,Bool.and_eq_false_imp,Lg,Lc];constructor
 ·rintro ⟨⟨⟨h1,h2⟩,h3⟩,h4⟩;refine ⟨⟨h4,h1,fun h=>?_⟩,h2⟩;have:=h3 h;have:0<s.length:=K6.2 h1;omega
 ·rintro ⟨⟨h4,h1,h3⟩,h2⟩;exact ⟨⟨⟨h1,h2⟩,fun h=>by have:=h3 h;omega⟩,h4⟩
theorem nD {s:List UInt8}{i:Nat}{c:UInt8}(h:s[i]?=some c):aX (s.take (i+1))=aX (s.take i)*10+(c.toNat-48):=by
 rw [xO,h,LP,cG];congr 1;unfold aX wW;simp
theorem CO {s:List UInt8}(h:∀ c∈s,dE c=true):Sm s.length (aX s):=K4 (cV h) (Nat.pow_le_pow_left dc_ _)
def aZ (c:UInt8)(s:List UInt8):List UInt8 × Bool:=if s.head?=some c then (s.tail,true) else (s,false)
end Go.Jog
namespace Go.Jog
def ny {α:Type}(p:α->Bool):List α->Nat->Int
 | [],_=>-1
 | x::l,k=>if p x=true then k else ny p l (k+1)
theorem wP {α:Type}{p:α->Bool}:∀ {l:List α}{x:α}{k j:Nat},l[k]?=some x->(∀ y∈l.take k,p y=false)->p x=true->ny p l j=((j+k:Nat):Int)
 | [],x,k,j,h,_,_=>by simp at h
 | y::l,x,0,j,h,_,hp=>by
  simp at h;subst h;simp [ny,hp]
 | y::l,x,k+1,j,h,ha,hp=>by
  have:=wP (l:=l) (k:=k) (j:=j+1) (by simpa using h) (fun z hz=>ha z (by simp [hz])) hp;simp only [ny,this];rw [a7 (by rw [ha y (by simp)];decide)];congr 1;omega
theorem pd {α:Type}{p:α->Bool}:∀ {l:List α}{j:Nat},(∀ y∈l,p y=false)->ny p l j=-1
 | [],_,_=>rfl
 | y::l,j,h=>by
  simp only [ny];rw [a7 (by rw [h y (by simp)];decide)];exact pd (fun z hz=>h z (by simp [hz]))
theorem nv {α:Type}{p:α->Bool}:∀ (l:List α)(j:Nat),(ny p l j=-1/\∀ y∈l,p y=false)∨∃ k x,ny p l j=((j+k:Nat):Int)/\l[k]?=some x/\p x=true/\∀ y∈l.take k,p y=false
 | [],_=>.inl ⟨rfl,fun y hy=>by cases hy⟩
 | y::l,j=>by
  simp only [ny];by_cases h:p y=true
  ·exact .inr ⟨0,y,by rw [bW h];rfl,by simp,h,by simp⟩
  ·simp only [Bool.not_eq_true] at h;rw [a7 (by rw [h];decide)];rcases nv l (j+1) with ⟨h1,h2⟩ | ⟨k,x,h1,h2,h3,h4⟩
   ·refine .inl ⟨h1,fun z hz=>?_⟩;rcases cI.1 hz with rfl | hz
    ·exact h
    ·exact h2 z hz
   ·refine .inr ⟨k+1,x,by rw [h1];congr 1;omega,by simpa using h2,h3,fun z hz=>?_⟩;rw [List.take_succ_cons] at hz;rcases cI.1 hz with rfl | hz
    ·exact h
    ·exact h4 z hz

theorem Cv {α:Type}{p:α->Bool}(l:List α):decide (0<=ny p l 0)=l.any p:=by
 rcases nv (p:=p) l 0 with ⟨h1,h2⟩ | ⟨k,x,h1,h2,h3,_⟩
 ·rw [h1];have:l.any p=false:=by rw [List.any_eq_false];exact fun y hy=>by rw [h2 y hy];decide
  rw [this];rfl
 ·rw [h1];have:l.any p=true:=Nh.2 ⟨x,ba h2,h3⟩;rw [this];simp
end Go.Jog
namespace Go.Jog
open Go
section
variable {F:Fx} {fr:Fr} {C:Mem} {L:List Ent}
theorem G.Ik {r s b t:Nat}{cs:List Value}{tb:TypeId}{fz:Nat × Nat}{ti:TI}{u v:Value}(hm:Ent.obj b (.cells ⟨cs⟩ tb fz)∈L)(hres:F.fn.results=#[.tmp s,.cell r t])(hr:ev fr [] (.tmp r)=some (.pointer (some ⟨b,0,none⟩)))(hs:ev fr [] (.tmp s)=some u)
  (ht:F.cx.T.get t=some ti) (hv:bR ti (cs.take ti.size)=some v) (h:F.post (.tuple #[u,v]) C []) (he:F.ends:=by exact ⟨fun _ _ _ h=>h,rfl⟩):G F [] .ret fr C L:=fun _ a w ha hw=>by
 refine he.kq ?_;have hr':=bd ha (fun p hp=>by cases hp) hr;have hs':=bd ha (fun p hp=>by cases hp) hs;simp only [Act.eval] at hr' hs';refine bodyPost_ret (v:=.tuple #[u,v]) ?_ (ha.defers.trans he.2) ⟨_,C,[],Z,St.dropAll hw,h⟩;have hl:=ed (F:=F) ht (hw.sep.e _ hm) hv;simp only [Le] at hr' hs';simp [results,hres,hr',hs',asAddr,hl]
end
end Go.Jog
namespace Go.Jog
open Go
section
variable {cx:Cx} {n:Nat} {ds:List (Option Nat)} {R:Rg n ds} {its:List It} {fr:Fr} {C:Mem} {L:List Ent} {i k d:Nat} {o:Oper} {g:GL}
theorem D.J7 {t ty:Nat}{x y:Operand}{ki:IntKind}{p q:Int}(c:Int)(hk:Nat.ble k 1=true)(hd:o.dst=some d)(hop:o.op=.binOp .rem t x y ty)(hg:gOf ds fr o.guard=some g)(hx:ev fr g x=some (.int ki p))(hy:ev fr g y=some (.int ki q))
  (hq:0<q) (hc:p.tmod q=c) (hp:aO n ds ((d,g,.int ki c)::fr) d=true) (hwf:wfG ds fr g=true)
  (h:D cx R its ((d,g,.int ki c)::fr) C L):D cx R ((i,k,o)::its) fr C L :=
 D.run _ hk hd hg (fun _ a hs w=>by
  rw [bB hop (hs _ _ hx) (hs _ _ hy) (fun _ _=>.inl (by simp)) (.inl (by simp)) w];have hq0:q≠0:=by omega
  simp [binOp,Op.intDiv,hq0,hc]) hp hwf h
end
theorem dv (n:Nat):Lib.decDigits n=aT n:=by
 induction n using Nat.strongRecOn with
 | ind n ih =>
  rw [Lib.decDigits,aT];split
  ·rfl
  ·rw [ih (n / 10) om_]
def txt (z:Int):List UInt8:=if z<0 then 45::aT z.natAbs else aT z.natAbs
theorem EX (z:Int):Lib.itoa z=txt z:=by
 unfold Lib.itoa txt;split
 ·rw [dv]
 ·rename_i h;rw [dv];congr 1;omega
theorem EY (n:Nat):Lib.itoa (n:Int)=aT n:=by rw [Lib.itoa_nonneg,dv]
theorem tenK {x:Nat}(h:x<10000):aT (10000+x)=49::j8 4 x:=by
 obtain ⟨h1,h2,h3⟩:=jf 4 x h;have hc:rO (49::j8 4 x):=⟨fun c hc=>by
  rcases cI.1 hc with rfl | hc
  ·decide
  ·exact h2 c hc,by simp,fun he=>by simp at he⟩
 have hv:aX (49::j8 4 x)=10000+x:=by
  rw [de,h1,h3];rfl
 rw [l7 hc,hv]
theorem Dc {V:Int}{out:List Nat}{i:Nat}{o:Int}(hl:out.length=i)(h:V=(a6 out:Nat)+(10000:Int) ^ i*o) :
  V=(a6 (out++[(o % 10000).toNat]):Nat)+(10000:Int) ^ (i+1)*((o-o % 10000) / 10000):=by
 obtain ⟨h1,h2,h3⟩:=uZ o;rw [mm,hl,h];have e:((o % 10000).toNat:Int)=o % 10000:=Int.toNat_of_nonneg h1;rw [NM,La,e,Int.natCast_pow,Int.pow_succ];have e2:((BP:Nat):Int)=10000:=rfl;rw [e2]
 conv=>lhs;rw [h3]
 rw [Oo,Int.mul_assoc];omega
theorem ED {V:Int}{out:List Nat}{i:Nat}{o:Int}(hl:out.length=i)(hd:DigP out)(hV:0<=V)(h:V=(a6 out:Nat)+(10000:Int) ^ i*o):0<=o:=by
 have h1:=kc hd;rw [hl] at h1;have h2:((a6 out:Nat):Int)<(10000:Int) ^ i:=by
  have:((a6 out:Nat):Int)<((BP ^ i:Nat):Int):=by omega
  rwa [Int.natCast_pow] at this
 apply Lw;intro hn;have h3:o<=-1:=by omega
 have h4:(10000:Int) ^ i*o<=(10000:Int) ^ i*(-1):=Int.mul_le_mul_of_nonneg_left h3 (Int.pow_nonneg dc_);omega
end Go.Jog
namespace Go.Jog

abbrev B9:Nat:=1000000000
def bc:List Nat->Nat
 | []=>0
 | x::l=>x+B9*bc l
def Dig9 (l:List Nat):Prop:=∀ x∈l,x<B9
def tU (l:List Nat):Prop:=Dig9 l/\l.getLast?≠some 0
theorem eR:∀ (a b:List Nat),bc (a++b)=bc a+B9 ^ a.length*bc b
 | [],b=>by simp [bc]
 | x::a,b=>by
  simp only [LM,bc,eR a b,fh,Lb];rw [FX,<- K7,K8 (B9 ^ a.length) B9,MY]
theorem gU (a:List Nat)(x:Nat):bc (a++[x])=bc a+B9 ^ a.length*x:=by
 rw [eR];simp [bc]
theorem gV:∀ {l:List Nat},Dig9 l->bc l<B9 ^ l.length
 | [],_=>by simp [bc]
 | x::l,h=>by
  have h1:=h x (by simp);have h2:=gV (l:=l) (fun y hy=>h y (by simp [hy]));simp only [bc,fh,Lb];have h3:B9*(bc l+1)<=B9*B9 ^ l.length:=Ln _ h2;rw [K8 (B9 ^ l.length) B9];rw [FX] at h3;omega
theorem gT {l:List Nat}{i x:Nat}(h:l[i]?=some x):bc (l.take (i+1))=bc (l.take i)+B9 ^ i*x:=by
 have hi:=(aJ.1 h).1;rw [xO,h];simp only [LP];rw [gU,eB,Lt om_]
theorem Dig9.take {l:List Nat}(h:Dig9 l)(i:Nat):Dig9 (l.take i):=fun x hx=>h x (LT hx)
theorem Dig9.snoc {l:List Nat}(h:Dig9 l){x:Nat}(hx:x<B9):Dig9 (l++[x]):=fun y hy=>by
 rcases Lh.1 hy with hy | hy
 ·exact h y hy
 ·rw [K5.1 hy];exact hx
theorem oC:∀ {l:List Nat},(∀ x∈l,x=0)->bc l=0
 | [],_=>rfl
 | x::l,h=>by
  rw [bc,h x (by simp),oC (fun y hy=>h y (by simp [hy]))];rfl
def kW (l:List Nat):Nat->Nat
 | 0=>0
 | k+1=>if l[k]?=some 0 then kW l k else k+1
def zA (l:List Nat):List Nat:=l.take (kW l l.length)
theorem kV (l:List Nat):∀ k,k<=l.length->(l.take (kW l k)).getLast?≠some 0/\bc (l.take (kW l k))=bc (l.take k)
 | 0,_=>by simp [kW]
 | k+1,hk=>by
  rw [kW];obtain ⟨x,hx⟩:∃ x,l[k]?=some x:=⟨l[k],aq om_⟩;split
  ·rename_i h;obtain ⟨h1,h2⟩:=kV l k om_;refine ⟨h1, ?_⟩;rw [h2,gT h];simp
  ·rename_i h;refine ⟨?_,Z⟩;rw [xO,hx];simp only [LP,OB,Og];intro e;rw [hx] at h;simp at e;exact h (by rw [e])
theorem gj (l:List Nat):bc (zA l)=bc l:=by
 have:=(kV l l.length (aP _)).2;rw [cK] at this;exact this
theorem gk {l:List Nat}(h:Dig9 l):tU (zA l):=⟨h.take _,(kV l l.length (aP _)).1⟩
theorem rz {l:List Nat}(h:tU l)(hl:0<l.length):B9 ^ (l.length-1)<=bc l:=by
 obtain ⟨x,hx⟩:∃ x,l[l.length-1]?=some x:=⟨l[l.length-1]'om_,aq om_⟩;have h1:=gT hx;rw [show l.length-1+1=l.length by omega,cK] at h1;have hx0:x≠0:=fun e=>h.2 (by rw [MF,hx,e]);rw [h1];have:B9 ^ (l.length-1)*1<=B9 ^ (l.length-1)*x:=Ln _ om_;omega
theorem xg {l:List Nat}(h:tU l):bc l=0 ↔ l=[]:=by
 constructor
 ·intro e;apply Lw;intro hn;have:=rz h (K6.2 hn);rw [e] at this;have hp:0<B9 ^ (l.length-1):=Mz dc_;omega
 ·rintro rfl;rfl
theorem qL {a b:List Nat}(ha:Dig9 a)(hb:tU b)(h:a.length<b.length):bc a<bc b:=by
 have h1:=gV ha;have h2:=rz hb om_;have h3:B9 ^ a.length<=B9 ^ (b.length-1):=gr dc_ om_;omega
theorem GE {a b:List Nat}{i x y:Nat}(ha:Dig9 a)(hl:a.length=b.length)(hx:a[i]?=some x)(hy:b[i]?=some y)(hxy:x<y)(he:a.drop (i+1)=b.drop (i+1)):bc a<bc b:=by
 have e1:bc a=bc (a.take (i+1))+B9 ^ (i+1)*bc (a.drop (i+1)):=by
  have hi:=(aJ.1 hx).1
  conv=>lhs;rw [<- LQ (i+1) a]
  rw [eR,eB,Lt om_]
 have e2:bc b=bc (b.take (i+1))+B9 ^ (i+1)*bc (b.drop (i+1)):=by
  have hi:=(aJ.1 hy).1
  conv=>lhs;rw [<- LQ (i+1) b]
  rw [eR,eB,Lt om_]
 rw [e1,e2,he,gT hx,gT hy];have h1:=gV (ha.take i);have h2:(a.take i).length<=i:=by rw [eB];omega
 have h3:B9 ^ (a.take i).length<=B9 ^ i:=gr dc_ h2;have h4:B9 ^ i*(x+1)<=B9 ^ i*y:=Ln _ hxy;rw [FX] at h4;omega
def g9 (l:List Nat)(i:Nat):Nat:=l.getD i 0
theorem jp {l:List Nat}(h:Dig9 l)(i:Nat):g9 l i<B9:=by
 unfold g9;rw [aF];cases hx:l[i]? with
 | none=>decide
 | some x=>exact h x (ba hx)
theorem uJ {l:List Nat}{i x:Nat}(h:l[i]?=some x):g9 l i=x:=by unfold g9;rw [aF,h];rfl
theorem Gd (j:Nat):10 ^ (9*j)=B9 ^ j:=by rw [Om]
theorem xU {s:List UInt8}{out:List Nat}{e lo j:Nat}(he:e+9*j=s.length)(hl:out.length=j)(hlo:lo<=e)(h:bc out=aX (s.drop e)) :
  bc (out++[aX (fR s lo e)])=aX (s.drop lo):=by
 rw [gU,hl,h];have e1:s.drop lo=fR s lo e++s.drop e:=by
  unfold fR;have:s.drop lo=(s.take e++s.drop e).drop lo:=by rw [LQ]
  rw [this,List.drop_append_of_le_length (by rw [eB];omega)]
 rw [e1,cG,Ni,show s.length-e=9*j by omega,Gd,K8,M4]
theorem Fk {s:List UInt8}{lo e:Nat}(hs:∀ c∈s,dE c=true)(h:e<=lo+9):aX (fR s lo e)<B9:=by
 have h1:∀ c∈fR s lo e,dE c=true:=fun c hc=>hs c (LT (NX hc));have h2:=cV h1;have h3:(fR s lo e).length<=9:=by
  unfold fR;rw [Ni,eB];omega
 have h4:10 ^ (fR s lo e).length<=10 ^ 9:=gr dc_ h3;have h5:(10:Nat) ^ 9=B9:=rfl;omega
theorem yF {p:List Nat}{s:List UInt8}{i x:Nat}(hd:Dig9 p)(hx:p[i]?=some x)(h:rO s)(hv:aX s=bc (p.drop (i+1)))(h0:0<aX s) :
  rO (s++j8 9 x)/\aX (s++j8 9 x)=bc (p.drop i)/\0<aX (s++j8 9 x):=by
 have hxl:=hd x (ba hx);obtain ⟨h1,h2,h3⟩:=jf 9 x hxl;have hi:=aJ.1 hx;have e:bc (p.drop i)=x+B9*bc (p.drop (i+1)):=by rw [K2 hi.1,hi.2];rfl
 have hv2:aX (s++j8 9 x)=bc (p.drop i):=by
  rw [cG,h1,h3,hv,e,M4,K8]
 refine ⟨⟨fun c hc=>?_, ?_,fun he=>?_⟩,hv2, ?_⟩
 ·rcases Lh.1 hc with hc | hc
  ·exact h.1 c hc
  ·exact h2 c hc
 ·intro e;exact h.2.1 (On.1 e).1
 ·exfalso;rw [qQ h.2.1] at he;have h5:=h.2.2 he
  match hs:s,h.2.1 with
  | [c],_ =>
   simp at he;subst he;have:aX ([48]:List UInt8)=0:=rfl;omega
  | c::d::s,_=>simp at h5
 ·rw [cG];have:0<aX s*10 ^ (j8 9 x).length:=MA h0 (Mz dc_);omega
theorem kh (l:List Nat)(i:Nat):bc (l.take (i+1))=bc (l.take i)+B9 ^ i*g9 l i:=by
 cases hx:l[i]? with
 | none =>
  have hi:l.length<=i:=N4.1 hx;have:g9 l i=0:=by unfold g9;rw [aF,hx];rfl
  rw [this,gG om_,gG hi];simp
 | some x=>rw [gT hx,uJ hx]
theorem Bv (P s c B t:Nat)(h:s+B*c=t):P*s+P*B*c=P*t:=by
 rw [<- h,FX,K7]
theorem DB {a b out:List Nat}{c i:Nat}(hl:out.length=i)(h:bc out+B9 ^ i*c=bc (a.take i)+bc (b.take i)) :
  bc (out++[(g9 a i+g9 b i+c) % B9])+B9 ^ (i+1)*((g9 a i+g9 b i+c) / B9)=bc (a.take (i+1))+bc (b.take (i+1)):=by
 rw [gU,hl,kh,kh,Lb];have h1:=Bv (B9 ^ i) _ _ B9 _ (Nw (g9 a i+g9 b i+c) B9);rw [FX,FX] at h1;omega
def rN (x y c:Nat):Nat:=if x<y+c then 1 else 0
def CL (x y c:Nat):Nat:=x+B9*rN x y c-y-c
theorem Ag {a b out:List Nat}{c i:Nat}(hb:Dig9 b)(hc:c<=1)(hl:out.length=i)(h:bc out+bc (b.take i)=bc (a.take i)+B9 ^ i*c) :
  bc (out++[CL (g9 a i) (g9 b i) c])+bc (b.take (i+1))=bc (a.take (i+1))+B9 ^ (i+1)*rN (g9 a i) (g9 b i) c:=by
 have hy:=jp hb i;have h0:CL (g9 a i) (g9 b i) c+(g9 b i+c)=g9 a i+B9*rN (g9 a i) (g9 b i) c:=by
  unfold CL rN;split <;> omega
 rw [gU,hl,kh,kh,Lb];have h1:B9 ^ i*CL (g9 a i) (g9 b i) c+(B9 ^ i*g9 b i+B9 ^ i*c)=B9 ^ i*g9 a i+B9 ^ i*B9*rN (g9 a i) (g9 b i) c:=by
  rw [<- FX,<- FX,h0,FX,K7]
 omega
theorem Di (x y c:Nat):rN x y c<=1:=by unfold rN;split <;> omega
theorem HU {x y c:Nat}(hx:x<B9)(hy:y<B9)(hc:c<=1):CL x y c<B9:=by unfold CL rN;split <;> omega
theorem Df {x y c:Nat}(hx:x<B9)(hy:y<B9)(hc:c<=1):(x+y+c) / B9<=1:=by
 have:x+y+c<2*B9:=by omega
 exact Nat.le_of_lt_succ ((Mn dc_).2 this)
theorem pV:∀ {l:List Nat}{i x z:Nat},l[i]?=some x->bc (l.set i z)+B9 ^ i*x=bc l+B9 ^ i*z
 | [],_,_,_,h=>by simp at h
 | y::l,0,x,z,h=>by
  simp at h;subst h;simp only [List.set_cons_zero,bc,OC,NE];omega
 | y::l,i+1,x,z,h=>by
  have ih:=pV (l:=l) (i:=i) (x:=x) (z:=z) (by simpa using h);simp only [List.set_cons_succ,bc,Lb];have h1:B9*bc (l.set i z)+B9*(B9 ^ i*x)=B9*bc l+B9*(B9 ^ i*z):=by rw [<- FX,ih,FX]
  rw [K8 (B9 ^ i) B9,K7,K7];omega
theorem Dig9.set {l:List Nat}(h:Dig9 l){i z:Nat}(hz:z<B9):Dig9 (l.set i z):=fun x hx=>by
 rcases NB hx with h1 | h1
 ·exact h x h1
 ·rw [h1];exact hz
theorem Bu {out b:List Nat}{V T c x i k:Nat}{o:Nat}(ho:out[i+k]?=some o)(hT:T=bc (b.take k))(h:bc out+B9 ^ (i+k)*c=V+B9 ^ i*(x*T)) :
  bc (out.set (i+k) ((c+x*g9 b k+o) % B9))+B9 ^ (i+(k+1))*((c+x*g9 b k+o) / B9)=V+B9 ^ i*(x*bc (b.take (k+1))):=by
 have h1:=pV (z:=(c+x*g9 b k+o) % B9) ho;rw [kh,<- hT,show i+(k+1)=i+k+1 by omega,Lb];have h2:=Bv (B9 ^ (i+k)) _ _ B9 _ (Nw (c+x*g9 b k+o) B9);rw [FX,FX] at h2;have h3:B9 ^ i*(x*(T+B9 ^ k*g9 b k))=B9 ^ i*(x*T)+B9 ^ (i+k)*(x*g9 b k):=by
  rw [FX,FX,MX];congr 1;rw [M8 x,K7]
 omega
theorem o1 {c x y o:Nat}(hc:c<B9)(hx:x<B9)(hy:y<B9)(ho:o<B9):c+x*y+o<B9*B9:=by
 have h1:x*y<=(B9-1)*(B9-1):=NF om_ om_;have h2:(B9-1)*(B9-1)=999999998000000001:=by decide
 have h3:B9*B9=1000000000000000000:=by decide
 have hB:B9=1000000000:=rfl;omega
theorem De {c x y o:Nat}(hc:c<B9)(hx:x<B9)(hy:y<B9)(ho:o<B9):(c+x*y+o) / B9<B9:=(Mn dc_).2 (o1 hc hx hy ho)
end Go.Jog
namespace Go.Jog
open Go Go.Proofs Go.Shelf

def VarC (P:Program)(C:Mem)(name:String)(cs:Array Value):Prop:=∃ g e fz,P.globalNamed name=some g/\C g=some (.cells cs e fz)
theorem VarC.mono {P:Program}{C D:Mem}{name:String}{cs:Array Value}(h:VarC P C name cs)(hl:C.le D):VarC P D name cs :=
 let ⟨g,e,fz,h1,h2⟩:=h
 ⟨g,e,fz,h1,hl _ _ h2⟩
theorem VarC.m_ {P:Program}{C D:Mem}{name:String}{cs:Array Value}(h:VarC P C name cs)(hl:C.le D:=by exact mup):VarC P D name cs:=VarC.mono h hl
theorem VarC.var {P:Program}{C:Mem}{name:String}{cs:Array Value}(h:VarC P C name cs){L:List Ent}{w:World}(hw:Sep C L w):w.var? P name=some cs:=by
 obtain ⟨g,e,fz,h1,h2⟩:=h;have h3:=hw.c _ _ h2;simp [World.var?,h1,h3]
theorem VarC.ofWorld {P:Program}{W:World}{name:String}{cs:Array Value}(h:W.var? P name=some cs):VarC P (ol W) name cs:=by
 unfold World.var? at h;cases hg:P.globalNamed name with
 | none=>rw [hg] at h;cases h
 | some g =>
  rw [hg] at h;simp only [Option.bind_some] at h;split at h
  ·rename_i cs' e fz hb;simp only [zl] at h;subst h;exact ⟨g,e,fz,hg,hb⟩
  ·cases h

theorem St.grown {C:Mem}{w:World}(hw:Sep C [] w)(q:Nat)(os:Array Obj):St w C [] C [] (Sort.grow (w.drewN q) os) :=
 ⟨⟨fun b o hb=>by rw [Sort.heap_grow_old (w.drewN q) os (cP (hw.c b o hb):b<(w.drewN q).heap.size)];exact hw.c b o hb,fun x hx=>(by cases hx),List.Pairwise.nil,hw.n⟩,
  ⟨rfl,rfl,rfl,by simp [Sort.grow],fun k hk _=>Sort.heap_grow_old (w.drewN q) os hk,Nat.le_add_right _ _⟩,Mem.le.refl _,fun _ _ hk=>.inl hk,fun _ hk=>.inr hk⟩

section
variable {P:Program} {ρ:Ren}
theorem Hw (L : LaysM.n171 P ρ) (n : Int) (h0 : -9223372036854775808 <= n) (h1 : n <= 9223372036854775807) (C : Mem) (hT : VarC P C "internal/strconv.uint64pow10" (Lib.pow10Tab.map fun z => Value.int .u64 z).toArray) (hen : Enters P (ρ.f 171) = true) :
  Gives P (ρ.f 171) [.int .i64 n] C (aA (Lib.itoa n)) :=
 ⟨hen,fun w hw=>(Any.strconv_Itoa L n h0 h1 w (hT.var hw)).mono fun e w' ⟨h2,q,os,h3⟩=>by
  subst h3;exact ⟨_,C,[],h2,St.grown hw q os,Z,Z⟩⟩
end
end Go.Jog
namespace Go.Jog
open Go Go.Proofs Go.Shelf

theorem St.bytesW {C:Mem}{w:World}(hw:Sep C [] w)(e:TypeId)(s:ByteArray):St w C [] C [] (Lib.bytesWorld w e s):=by
 refine ((St.start hw).fresh (ob:=_) ⟨?_, ?_, ?_,Lib.bytesWorld_size w e s,fun k hk=>Lib.bytesWorld_at_old w e s k hk,Lib.bytesWorld_at_new w e s, ?_⟩).drop
 ·unfold Lib.bytesWorld World.freeze;split <;> rfl
 ·unfold Lib.bytesWorld World.freeze;split <;> rfl
 ·unfold Lib.bytesWorld World.freeze;split <;> rfl
 ·unfold Lib.bytesWorld World.freeze;split <;> exact Ol _
theorem nF:∀ (s:List UInt8)(a:Nat),(∀ c∈s,dE c=true)->Lib.decFrom a s=some (s.foldl wW a)
 | [],a,_=>rfl
 | c::s,a,h=>by
  have h1:=h c (by simp);simp only [dE,cH] at h1;simp only [Lib.decFrom,Lib.digitVal,bW h1,N3];rw [nF s _ (fun d hd=>h d (by simp [hd]))];simp only [wW];rw [K8 10 a]
theorem pl {s:List UInt8}(h:∀ c∈s,dE c=true)(hn:s≠[]):Lib.decNat s=some (aX s):=by
 unfold Lib.decNat;cases s with
 | nil=>exact absurd rfl hn
 | cons c s=>simp only [List.isEmpty_cons,LG,LZ];exact nF _ 0 h
theorem HT {c:UInt8}(h:dE c=true):(c == 45)=false/\(c == 43)=false:=by
 simp only [dE,cH] at h;constructor <;> (rw [Mt];rintro rfl;revert h;decide)
theorem Dq {s:List UInt8}(h:∀ c∈s,dE c=true)(hn:s≠[]):Lib.atoi s=some (aX s:Nat):=by
 cases s with
 | nil=>exact absurd rfl hn
 | cons c s =>
  obtain ⟨h1,h2⟩:=HT (h c (by simp));simp only [Lib.atoi,h1,h2,LG,LZ,pl h hn];rfl
theorem FF (z:Int):Lib.atoi (txt z)=some z:=by
 obtain ⟨h1,h2⟩:=aV z.natAbs;unfold txt;split
 ·rename_i hz;simp only [Lib.atoi,beq_self_eq_true,Mb,pl h1.1 h1.2.1,h2];show some (-(z.natAbs:Int))=some z;congr 1;omega
 ·rename_i hz;rw [Dq h1.1 h1.2.1,h2];show some ((z.natAbs:Int))=some z;congr 1;omega
theorem oT (M:Nat)(hM:999999999999999999<=M):∀ (s:List UInt8)(a k:Nat),(∀ c∈s,dE c=true)->a<10 ^ k->k+s.length<=18->Lib.parseUintM M a s=.ok (s.foldl wW a)
 | [],a,k,_,_,_=>rfl
 | c::s,a,k,h,ha,hl=>by
  have h1:=h c (by simp);simp only [dE,cH] at h1;have hk:10 ^ (k+1)<=10 ^ 18:=gr dc_ (by simp at hl;omega);have hk2:10 ^ k<=10 ^ 17:=gr dc_ (by simp at hl;omega);have e18:(10:Nat) ^ 18=1000000000000000000:=by decide
  have e17:(10:Nat) ^ 17=100000000000000000:=by decide
  rw [Lb] at hk;simp only [Lib.parseUintM,bW h1];rw [a7 om_,a7 om_,oT M hM s (a*10+(c.toNat-48)) (k+1) (fun d hd=>h d (by simp [hd])) (by rw [Lb];omega) (by simp at hl;omega)];simp only [N3,wW];rw [K8 10 a]
section
variable {P:Program} {ρ:Ren}
theorem Bg (L:Lays.n287 P ρ)(s:List UInt8)(hd:∀ c∈s,dE c=true)(h0:s≠[])(hl:s.length<=18)(C:Mem)(hen:Enters P (ρ.f 287)=true) :
  Gives P (ρ.f 287) [aA s,.int .i64 10,.int .i64 64] C (.tuple #[.int .u64 (aX s),.nilIface]) :=
 ⟨hen,fun w hw=>(Any.internal_strconv_ParseUint_10_at64 L ⟨s.toArray⟩ (by simp [ByteArray.size];omega) w).mono fun e w' ⟨h2,h3⟩=>by
  have hp:Lib.parseUintB 64 (⟨s.toArray⟩:ByteArray).data.toList=.ok (aX s):=by
   unfold Lib.parseUintB;rw [a7 h0];exact oT _ dc_ s 0 0 hd dc_ om_
  rw [hp] at h2;rcases h3 with h3 | h3
  ·subst h3;exact ⟨_,C,[],h2,St.start hw,rfl,rfl⟩
  ·subst h3;exact ⟨_,C,[],h2,St.bytesW hw _ _,rfl,rfl⟩⟩
theorem u8 (L:Lays.n172 P ρ)(z:Int)(hl:(txt z).length<=18)(C:Mem)(hen:Enters P (ρ.f 172)=true):Gives P (ρ.f 172) [aA (txt z)] C (.tuple #[.int .i64 z,.nilIface]) :=
 ⟨hen,fun w hw=>(Any.strconv_Atoi L ⟨(txt z).toArray⟩ z (by simpa [ByteArray.size] using hl) (FF z) w).mono fun e w' ⟨h2,t,h3⟩=>by
  subst h3;exact ⟨_,C,[],h2,St.bytesW hw _ _,rfl,rfl⟩⟩
theorem uf (L:Lays.n106 P ρ)(a b:List UInt8)(C:Mem)(hen:Enters P (ρ.f 106)=true):Gives P (ρ.f 106) [aA a,aA b] C (.int .i64 (Lib.compareBytes a b)) :=
 Gives.ofCalls hen (fun w=>Any.strings_Compare L ⟨a.toArray⟩ ⟨b.toArray⟩ w) C
end
end Go.Jog
namespace Go.Jog
open Go Go.Proofs Go.Shelf

theorem iK {P:Program}(w:World)(t u ty e:TypeId)(i:TypeInfo)(ht:P.underlying t=some (.slice e))(hu:P.underlying u=some .string)(hi:P.info? e=some i)(hz:i.zero=some (.int .u8 0))
  (hsize:i.size=1) (hby:i.bytes=1) (v:Value) (n:Nat) (xs:List Value) (hown:w.ownsRow 0 e 1 v n xs) (s:ByteArray) (h63:n+s.size<=maxLen) (hbytes:n+s.size<=140737488355328) :
  ∃ v' w',(Builtin.append_ #[t,u] ty #[v,.string s]).run P w=.ok v' w'/\w'.ownsRow 0 e 1 v' (n+s.size) (xs++Lib.strCells s)/\w.grownBy w' v.ownBlock /\
   (v'.ownBlock=v.ownBlock∨v'.ownBlock=some w.heap.size∨v'.ownBlock=none):=by
 obtain ⟨v',w',h1,h2,h3,h4⟩:=Lib.run_append_own_string (P:=P) w 0 t u ty e i ht hu hi hz hsize hby v n xs hown s h63 hbytes (ch _);refine ⟨v',w',h1,h2,h3, ?_⟩;have hxl:xs.length=n:=by simpa using hown.1
 have hsmall:n+s.size<=9223372036854775807:=by simp only [maxLen] at h63;omega
 rcases hown.2 with ⟨rfl,rfl⟩ | ⟨g,cap,cur,rfl,hbg,hg,hnc,hcm,hcs,htake⟩
 ·by_cases hm:s.size=0
  ·rw [h4.2 ⟨rfl,hm⟩];exact .inr (.inr rfl)
  ·have hr:=run_append_nil_string (P:=P) w t u ty e i (.int .u8 0) ht hu hi hz s om_ om_ (by rw [hby];omega);rw [hr] at h1;injection h1 with h1 _;subst h1;exact .inr (.inl Z)
 ·by_cases hroom:n+s.size<=cap
  ·have hcs':cur.size=cap:=by simpa using hcs
   have hr:=Lib.run_append_room_string (P:=P) w t u ty e i ht hu hi hsize g n cap cur hg s hroom om_;rw [hr] at h1;injection h1 with h1 _;subst h1;exact .inl Z
  ·have holds:∀ j u,xs[j]?=some u->w.cell? ((⟨g,0,none⟩:Addr).add j)=some u:=hown.cells (g:=g) rfl;have hr:=Lib.run_append_grow_string (P:=P) w t u ty e i (.int .u8 0) ht hu hi hz ⟨g,0,none⟩ n cap xs (by rw [hsize];simpa using hxl) holds s om_ om_ (by rw [hby];exact growslice_fits om_ om_);rw [hr] at h1;injection h1 with h1 _;subst h1;exact .inr (.inl Z)

section
variable {cx:Cx} {n:Nat} {ds:List (Option Nat)} {R:Rg n ds} {its:List It} {fr:Fr} {C:Mem} {L:List Ent} {i k d:Nat} {o:Oper} {g:GL} {v:Value}

theorem D.vw {t u e j m:Nat}{x y:Operand}{ti tu te:TI}{v0:Value}{xs:List Value}{s:List UInt8}(hk:k=3)(hd:o.dst=some d)(hg:gOn ds fr o.guard=true)
  (hop:o.op=.call ⟨.builtin .append,#[x,y],#[t,u]⟩) (ht:cx.T.get t=some ti) (hte:ti.k=.slice e) (hut:cx.T.get u=some tu) (huk:tu.k=.str) (he:cx.T.get e=some te) (hz:te.zv=.int .u8 0) (hs1:te.size=1) (hb1:te.bytes=1)
  (hx:ev fr [] x=some v0) (hy:ev fr [] y=some (aA s)) (hm:L[j]?=some (.arr v0 e 1 m xs))
  (hbytes:m+s.length<=140737488355328) (hp:∀ v,aO n ds ((d,[],v)::fr) d=true)
  (h:∀ A n c,D cx R its ((d,[],.slice A n c)::fr) C (.arr (.slice A n c) e 1 (m+s.length) (xs++s.map fun b=>Value.int .u8 b.toNat)::L.eraseIdx j)):D cx R ((i,k,o)::its) fr C L:=by
 have hu:cx.P.underlying t=some (.slice e):=by
  obtain ⟨kk,s1,b1,z1,g1⟩:=ti;simp only at hte;subst hte;exact ck cx.hT ht
 have hus:cx.P.underlying u=some .string:=by
  obtain ⟨kk,s1,b1,z1,g1⟩:=tu;simp only at huk;subst huk;exact mo cx.hT hut
 obtain ⟨inf,hi,hsize,hby,hz0,hzc⟩:=(dW cx.hT he).info;have hsz:(⟨s.toArray⟩:ByteArray).size=s.length:=by simp [ByteArray.size]
 refine D.gF (S:=fun v' C' L'=>(∃ A n c,v'=.slice A n c)/\C'=C/\L'=.arr v' e 1 (m+s.length) (xs++s.map fun b=>Value.int .u8 b.toNat)::L.eraseIdx j) (by subst hk;rfl) hd hg hp (fun a hs w _ hw=>?_) (fun v' C' L' _ ⟨⟨A,n',c,e0⟩,e1,e2⟩=>by subst e0;subst e1;subst e2;exact h A n' c);have hw':=St.perm hw (aC hm);have hown:w.ownsRow 0 e 1 v0 m xs:=hw'.sep.e _ (br ..);obtain ⟨v',w',hr1,hr2,hr3,hr5⟩:=iK (P:=cx.P) w t u o.type e inf hu hus hi (by rw [hz0,hz]) (by rw [hsize,hs1]) (by rw [hby,hb1]) v0 m xs hown ⟨s.toArray⟩ (by rw [hsz];simp [maxLen];omega) (by rw [hsz];exact hbytes);rw [hsz] at hr2;have hr1':(Builtin.append_ #[t,u] o.type #[v0,aA s]).run cx.P w=.ok v' w':=hr1;have hrun:(execOp a.eval o).run cx.P w=.ok (.value v') w':=by
  have e1:execOp a.eval o=(do let dd <- resolve a.eval ⟨.builtin .append,#[x,y],#[t,u]⟩ o.type;invoke dd.target dd.args:Sem Next):=by unfold execOp;rw [hop]
  rw [e1];simp only [resolve,invoke,builtin,Sem.run_bind,Sem.run_pure,Result.andThen_ok,MZ,Li,M3,hs _ _ hx,hs _ _ hy,hr1']
 unfold Oper.wp;rw [hrun];have hform:∃ A n c,v'=.slice A n c:=by
  rcases hr2.2 with ⟨h1,_⟩ | ⟨g0,cap,cur,h1,_⟩
  ·exact ⟨_,_,_,h1⟩
  ·exact ⟨_,_,_,h1⟩
 exact ⟨v',C,_,Z,Mem.le.refl _,fun h2=>by omega,St.turn hw' hr2 hr3 (bw _ hr1) hr5,hform,Z,Z⟩

theorem D.vj {t g0 m cap:Nat}{x:Operand}(hk:Nat.ble k 1=true)(hd:o.dst=some d)(hop:o.op=.call ⟨.builtin .unsafeSliceData,#[x],#[t]⟩)(hg:gOf ds fr o.guard=some g)(hx:ev fr g x=some (.slice (some ⟨g0,0,none⟩) m cap))(hc:cap≠0)
  (hp:aO n ds ((d,g,.pointer (some ⟨g0,0,none⟩))::fr) d=true) (hwf:wfG ds fr g=true)
  (hh:D cx R its ((d,g,.pointer (some ⟨g0,0,none⟩))::fr) C L):D cx R ((i,k,o)::its) fr C L:=by
 refine D.run _ hk hd hg (fun hG a hs w=>?_) hp hwf hh;have e1:execOp a.eval o=(do let dd <- resolve a.eval ⟨.builtin .unsafeSliceData,#[x],#[t]⟩ o.type;invoke dd.target dd.args:Sem Next):=by unfold execOp;rw [hop]
 rw [e1];simp only [resolve,invoke,builtin,Sem.run_bind,Sem.run_pure,Result.andThen_ok,MZ,Li,M3,hs _ _ hx,Lib.run_unsafeSliceData_row _ _ _ _ _ _ hc]

theorem D.vi {t u e j g0 m cap:Nat}{x y:Operand}{s:List UInt8}(hk:k=3)(hd:o.dst=some d)(hg:gOn ds fr o.guard=true)
  (hop:o.op=.call ⟨.builtin .unsafeString,#[x,y],#[t,u]⟩) (hpt:cx.P.underlying t=some (.pointer e)) (hce:cx.P.cellsOf e=1)
  (hx:ev fr [] x=some (.pointer (some ⟨g0,0,none⟩))) (hy:ev fr [] y=some (.int .i64 s.length)) (hm:L[j]?=some (.arr (.slice (some ⟨g0,0,none⟩) m cap) e 1 s.length (s.map fun b=>Value.int .u8 b.toNat))) (h0:s≠[])
  (hlen:s.length<=140737488355328) (hp:∀ v,aO n ds ((d,[],v)::fr) d=true)
  (h:D cx R its ((d,[],aA s)::fr) C (L.eraseIdx j)):D cx R ((i,k,o)::its) fr C L:=by
 refine D.gF (S:=fun v' C' L'=>v'=aA s/\C'=C/\L'=L.eraseIdx j) (by subst hk;rfl) hd hg hp (fun a hs w _ hw=>?_) (fun v' C' L' _ ⟨e0,e1,e2⟩=>by subst e0;subst e1;subst e2;exact h);have hw':=St.perm hw (aC hm);have hown:w.ownsRow 0 e 1 (.slice (some ⟨g0,0,none⟩) m cap) s.length (s.map fun b=>Value.int .u8 b.toNat):=hw'.sep.e _ (br ..);rcases hown.2 with ⟨hq,_⟩ | ⟨g1,cap1,cur,hq,hbg,hg1,hnc,hcm,hcs,htake⟩
 ·cases hq
 ·cases hq
  have hcs':cur.size=cap:=by simpa using hcs
  have hr:=Lib.run_unsafeString_row (P:=cx.P) w t u o.type e hpt hce g0 cur.size (by simp [World.shape?,hg1]) s h0 om_ om_ (fun j x hj=>hown.cells (g:=g0) rfl j _ (by rw [bX,hj];rfl));have hrun:(execOp a.eval o).run cx.P w=.ok (.value (aA s)) (w.freeze ⟨g0,0,none⟩ s.length):=by
   have e1:execOp a.eval o=(do let dd <- resolve a.eval ⟨.builtin .unsafeString,#[x,y],#[t,u]⟩ o.type;invoke dd.target dd.args:Sem Next):=by unfold execOp;rw [hop]
   rw [e1];simp only [resolve,invoke,builtin,Sem.run_bind,Sem.run_pure,Result.andThen_ok,MZ,Li,M3,hs _ _ hx,hs _ _ hy,hr];rfl
  unfold Oper.wp;rw [hrun];have hlt:g0<w.heap.size:=cP hg1;have hother:∀ k,k≠g0->(w.freeze ⟨g0,0,none⟩ s.length).heap[k]?=w.heap[k]?:=fun k hk=>by
   unfold World.freeze;split <;> first | rfl | (simp only [Oz];rw [a7 (fun e=>hk e.symm)]) | (simp [Array.getElem?_setIfInBounds,Ne.symm hk])
  have hsz:(w.freeze ⟨g0,0,none⟩ s.length).heap.size=w.heap.size:=by
   unfold World.freeze;split <;> simp
  obtain ⟨ob',hob'⟩:∃ ob',(w.freeze ⟨g0,0,none⟩ s.length).heap[g0]?=some ob':=⟨_,Array.getElem?_eq_getElem (by rw [hsz];exact hlt)⟩;have hobj:St _ _ _ C (.obj g0 (.cells cur e (0,0))::L.eraseIdx j) w :=
   ⟨⟨hw'.sep.c,fun x hx=>by
    rcases cI.1 hx with rfl | hx
    ·exact hg1
    ·exact hw'.sep.e x (by simp [hx]),by
    have:=Ls.1 hw'.sep.d;exact Ls.2 ⟨fun y hy k hk=>this.1 y hy k (by simp only [Ent.own] at hk ⊢;simp [Value.ownBlock,hk]),this.2⟩,fun k ⟨x,hx,hk⟩=>by
    rcases cI.1 hx with rfl | hx
    ·simp only [Ent.own] at hk;exact hw'.sep.n k ⟨_,br ..,by simp [Ent.own,Value.ownBlock,hk]⟩
    ·exact hw'.sep.n k ⟨x,by simp [hx],hk⟩⟩,hw'.ev,hw'.c0,hw'.cn,fun k ⟨x,hx,hk⟩=>by
    rcases cI.1 hx with rfl | hx
    ·simp only [Ent.own] at hk;exact hw'.ln k ⟨_,br ..,by simp [Ent.own,Value.ownBlock,hk]⟩
    ·exact hw'.ln k ⟨x,by simp [hx],hk⟩⟩
  have hput:=hobj.put (w':=w.freeze ⟨g0,0,none⟩ s.length) (o':=ob') hob' hother hsz (by unfold World.freeze;split <;> rfl) (by unfold World.freeze;split <;> rfl) (by unfold World.freeze;split <;> rfl) (by unfold World.freeze;split <;> exact aP _);exact ⟨aA s,C,_,Z,Mem.le.refl _,fun h2=>by omega,hput.drop,Z,Z,Z⟩
end
end Go.Jog
namespace Go.Jog
open Go Go.Proofs Go.Shelf Go.Sort

section
variable {P:Program} {ρ:Ren}
theorem uK (L:Lays.n285 P ρ)(b cap u t:Nat)(cs:List Value)(hu64:u<18446744073709551616)(hz:∀ j,j<Lib.nDigits u->cs[j]?=some (.int .u8 0))(hsz:Lib.nDigits u<4611686018427387904)(C:Mem)(hen:Enters P (ρ.f 285)=true) :
  Fn P (ρ.f 285) [.slice (some ⟨b,0,none⟩) (Lib.nDigits u) cap,.int .u64 u] C [.obj b (.cells ⟨cs⟩ t (0,0))] fun r C' L'=>r=.tuple #[]/\C'=C/\∃ cs',L'=[.obj b (.cells ⟨cs'⟩ t (0,0))]/\cs'.length=cs.length/\∀ (j:Nat) x,(aT u)[j]?=some x->cs'[j]?=some (.int .u8 x.toNat) :=
 ⟨hen,fun w hw=>by
  have hb:w.heap[b]?=some (.cells ⟨cs⟩ t (0,0)):=hw.e _ (br ..);have hH:Holds (fun (b:UInt8)=>Value.int .u8 (b.toNat:Int)) w b 0 (Array.replicate (Lib.nDigits u) (0:UInt8)):=fun j hj=>by
   have hj':j<Lib.nDigits u:=by simpa using hj
   constructor
   ·simp [World.cell?,hb,hz j hj',hj']
   ·simp [World.frozen?,hb]
  have hfmt:=Any.internal_strconv_formatBase10 L b 0 cap u (Array.replicate (Lib.nDigits u) 0) w hH (by rw [OE];exact Lib.lt_pow_nDigits u) hu64 (by rw [OE];exact hsz);rw [OE] at hfmt;refine hfmt.mono ?_;rintro e w' ⟨h1,q,v',dk,h2,hF⟩;subst h2;have hheap:((putRow (fun (b:UInt8)=>Value.int .u8 (b.toNat:Int)) w b 0 dk).drewN q).heap[b]?=some (.cells ⟨(putCells (fun (b:UInt8)=>Value.int .u8 (b.toNat:Int)) 0 dk ⟨cs⟩).toList⟩ t (0,0)):=by
   simp [putRow,mapBlock,onCells,Oz,hb]
  refine ⟨_,C,_,h1, ?_,Z,Z,(putCells (fun (b:UInt8)=>Value.int .u8 (b.toNat:Int)) 0 dk ⟨cs⟩).toList,Z, ?_,fun j x hx=>?_⟩
  ·exact (St.start hw).put hheap (fun k hk=>by simp [putRow,mapBlock,Oz,Ne.symm hk]) (by simp [putRow,mapBlock]) Z Z Z (Nat.le_add_right _ _)
  ·simp [putCells]
  ·rw [<- dv] at hx;obtain ⟨hj,hx2⟩:=aJ.1 hx;have hr:=Lib.row_is_numeral hF j hj;have hj2:j<Lib.nDigits u:=by rw [<- Lib.decDigits_length];exact hj
   have hjc:j<cs.length:=(aJ.1 (hz j hj2)).1;have hds:=hF.size;simp only [putCells,Array.getElem?_toList,Array.getElem?_mapIdx];rw [show ((⟨cs⟩:Array Value)[j]?)=some cs[j] from by simp [hjc]];simp only [MR];rw [bW ⟨ch _,by omega⟩,N7,<- hr,hx2]⟩
theorem sI (L : LaysM.n284 P ρ) (u : Nat) (h1 : 1 <= u) (h2 : u < 18446744073709551616) (C : Mem) (hT : VarC P C "internal/strconv.uint64pow10" (Lib.pow10Tab.map fun z => Value.int .u64 z).toArray) (hen : Enters P (ρ.f 284) = true) :
  Gives P (ρ.f 284) [.int .u64 u] C (.int .i64 (Lib.nDigits u)) :=
 ⟨hen,fun w hw=>(Any.internal_strconv_numDigits L u h1 h2 w (hT.var hw)).mono fun e w' ⟨h3,h4⟩=>by
  subst h4;exact ⟨_,C,[],h3,St.start hw,Z,Z⟩⟩
end
end Go.Jog
namespace Go.Jog
open Go

section
variable {F:Fx} {k:List KI} {fr:Fr} {C:Mem} {L:List Ent}
theorem F9 {cx:Cx}{fn:Func}{n r:Nat}{dd:List Deferred}{w0:World}{C0:Mem}{L0:List Ent}{x:Value}(hres:fn.results=#[.tmp r])
  (hr:ev fr [] (.tmp r)=some x) :
  ∀ a w,FrOk n [] dd fr a->St w0 C0 L0 C L w->(results fn a.tmps).run cx.P w=.ok x w:=fun a w ha _=>by
 have hr':=bd ha (fun p hp=>by cases hp) hr;simp only [Act.eval,Le] at hr';simp [results,hres,hr']
end
theorem Fn.give {P:Program}{f:FuncId}{args:List Value}{C:Mem}{L:List Ent}{v:Value}{t size len:Nat}(rows:List (List Value)){post:Value->Mem->List Ent->Prop}(hen:Enters P f=true)(hl:∀ r∈rows,r.length=size)(hn:rows.length=len)
  (h:∀ C',C.le C'->Sl C' size v rows->Fn P f args C' L post):Fn P f args C (.arr v t size len rows.flatten::L) post :=
 ⟨hen,fun w hw=>by
  obtain ⟨C1,h1,h2,h3⟩:=St.freezeArr (St.start hw) hl hn;refine ((h C1 h1 h2).2 w h3.sep).mono fun e w' ⟨u,C',L',e1,hs,hq⟩=>⟨u,C',L',e1, ?_,hq⟩;have:=St.call (Lp:=L) (Lr:=[]) (by rw [LY];exact h3) hs
  rwa [LY] at this⟩
end Go.Jog
namespace Go.Jog
open Go

section
variable {cx:Cx} {n:Nat} {ds:List (Option Nat)} {R:Rg n ds} {its:List It} {fr:Fr} {C:Mem} {L:List Ent} {i k d:Nat} {o:Oper} {g:GL} {v:Value}

theorem D.FT {t e ty:Nat}{x:Operand}{p:Option Addr}(hk:Nat.ble k 1=true)(hd:o.dst=some d)(hop:o.op=.binOp .eql t x (.const (.pointer none)) ty)(hg:gOf ds fr o.guard=some g)
  (hx:ev fr g x=some (.pointer p)) (hu:cx.P.underlying t=some (.pointer e)) (hu2:cx.P.pointee t=e)
  (hp:aO n ds ((d,g,.bool p.isNone)::fr) d=true) (hwf:wfG ds fr g=true)
  (h:D cx R its ((d,g,.bool p.isNone)::fr) C L):D cx R ((i,k,o)::its) fr C L:=by
 subst hu2;refine D.run _ hk hd hg (fun _ a hs w=>?_) hp hwf h;rw [bB hop (hs _ _ hx) rfl (fun _ _=>.inl (by simp)) (.inl (by simp)) w];simp only [Act.eval,run_eql_pointer_nil w t p hu,Result.andThen_ok]
theorem D.vm {t e ty:Nat}{x y:Operand}{a0:Addr}(hk:Nat.ble k 1=true)(hd:o.dst=some d)(hop:o.op=.binOp .neq t x y ty)(hg:gOf ds fr o.guard=some g)
  (hx:ev fr g x=some (.pointer (some a0))) (hy:ev fr g y=some (.pointer (some a0))) (hu:cx.P.underlying t=some (.pointer e)) (hi:(cx.P.info? e).isSome=true)
  (hp:aO n ds ((d,g,.bool false)::fr) d=true) (hwf:wfG ds fr g=true)
  (h:D cx R its ((d,g,.bool false)::fr) C L):D cx R ((i,k,o)::its) fr C L:=by
 obtain ⟨j,hj⟩:=MK.1 hi;refine D.run _ hk hd hg (fun _ a hs w=>?_) hp hwf h;rw [bB hop (hs _ _ hx) (hs _ _ hy) (fun _ _=>.inl (by simp)) (.inl (by simp)) w];simp only [Lib.run_neq_ptr_same w a0 hu hj,Result.andThen_ok]
theorem D.zm {src dst t e b:Nat}{x:Operand}{cs:List Value}{fz:Nat × Nat}(hk:k=2)(hd:o.dst=some d)(hop:o.op=.convert src dst x)(hg:gOn ds fr o.guard=true)(hx:ev fr [] x=some (.pointer (some ⟨b,0,none⟩)))
  (hm:Ent.obj b (.cells ⟨cs⟩ e fz)∈L) (hs:cx.P.underlying src=some (.pointer t)) (hdd:cx.P.underlying dst=some .unsafePointer) (ht:((cx.P.info? t).map fun i=>Nat.beq i.size 0)=some false) (hcs:0<cs.length)
  (hp:∀ v,aO n ds ((d,[],v)::fr) d=true)
  (h:D cx R its ((d,[],.pointer (some ⟨b,0,none⟩))::fr) C L):D cx R ((i,k,o)::its) fr C L:=by
 obtain ⟨j,hj,hjs⟩:=MB.1 ht;refine D.gF (S:=fun v C' L'=>v=.pointer (some ⟨b,0,none⟩)/\C'=C/\L'=L) (by subst hk;rfl) hd hg hp (fun a hss w _ hw=>?_) (fun v' C' L' _ ⟨e0,e1,e2⟩=>by subst e0;subst e1;subst e2;exact h);have hb:w.heap[b]?=some (.cells ⟨cs⟩ e fz):=hw.sep.e _ hm;have hr:=Lib.run_to_unsafe (P:=cx.P) w (src:=src) (dst:=dst) (e:=e) (cells:=cs.length) ⟨b,0,none⟩ hs hdd hj (fun e=>by rw [e] at hjs;cases hjs) (by simp [World.shape?,hb]) hcs;have e1:execOp a.eval o=(do Pure.pure (.value (<- convert src dst (a.eval x))):Sem Next):=by unfold execOp;rw [hop]
 unfold Oper.wp;rw [e1,hss _ _ hx];simp only [Sem.run_bind,hr,Result.andThen_ok,Sem.run_pure];exact ⟨_,C,L,Z,Mem.le.refl _,fun _ _ h=>h,hw,Z,Z,Z⟩
theorem D.tR {src dst t e b:Nat}{x:Operand}{cs:List Value}{fz:Nat × Nat}(hk:k=2)(hd:o.dst=some d)(hop:o.op=.convert src dst x)(hg:gOn ds fr o.guard=true)(hx:ev fr [] x=some (.pointer (some ⟨b,0,none⟩)))
  (hm:Ent.obj b (.cells ⟨cs⟩ e fz)∈L) (hs:cx.P.underlying src=some .unsafePointer) (hdd:cx.P.underlying dst=some (.pointer t)) (ht:(cx.P.info? t).isSome=true) (hlies:liesAt cx.P cx.P.depth e (cs.length / cx.P.cellsOf e) 0 t 1=true)
  (hp:∀ v,aO n ds ((d,[],v)::fr) d=true)
  (h:D cx R its ((d,[],.pointer (some ⟨b,0,none⟩))::fr) C L):D cx R ((i,k,o)::its) fr C L:=by
 obtain ⟨j,hj⟩:=MK.1 ht;refine D.gF (S:=fun v C' L'=>v=.pointer (some ⟨b,0,none⟩)/\C'=C/\L'=L) (by subst hk;rfl) hd hg hp (fun a hss w _ hw=>?_) (fun v' C' L' _ ⟨e0,e1,e2⟩=>by subst e0;subst e1;subst e2;exact h);have hb:w.heap[b]?=some (.cells ⟨cs⟩ e fz):=hw.sep.e _ hm;have hr:=Lib.run_from_unsafe (P:=cx.P) w (src:=src) (dst:=dst) (e:=e) (cells:=cs.length) ⟨b,0,none⟩ hs hdd hj (by simp [World.shape?,hb]) hlies;have e1:execOp a.eval o=(do Pure.pure (.value (<- convert src dst (a.eval x))):Sem Next):=by unfold execOp;rw [hop]
 unfold Oper.wp;rw [e1,hss _ _ hx];simp only [Sem.run_bind,hr,Result.andThen_ok,Sem.run_pure];exact ⟨_,C,L,Z,Mem.le.refl _,fun _ _ h=>h,hw,Z,Z,Z⟩
theorem D.zr {f:FuncId}{fn:Func}{x:Operand}{ts:Array TypeId}{u:Value}(hk:Nat.ble k 1=false)(hd:o.dst=some d)(hop:o.op=.call ⟨.value (.func f),#[x],ts⟩)(hg:gOn ds fr o.guard=true)
  (hx : ev fr [] x = some u) (hf : cx.P.funcs[f]? = some fn) (hname : (fn.name == "runtime.NumGoroutine") = false) (hb : fn.body.isNone = true) (hn : Extern.findNext fn = none) (he : Extern.find fn = some Extern.AbiNoEscape.same)
  (hp:∀ v,aO n ds ((d,[],v)::fr) d=true)
  (h:D cx R its ((d,[],u)::fr) C L):D cx R ((i,k,o)::its) fr C L:=by
 refine D.gF (S:=fun v C' L'=>v=u/\C'=C/\L'=L) hk hd hg hp (fun a hs w _ hw=>?_) (fun v' C' L' _ ⟨e0,e1,e2⟩=>by subst e0;subst e1;subst e2;exact h);have e1:execOp a.eval o=(do let dd <- resolve a.eval ⟨.value (.func f),#[x],ts⟩ o.type;invoke dd.target dd.args:Sem Next):=by unfold execOp;rw [hop]
 have e2:a.eval (.func f)=.func (.func f) #[] #[]:=rfl;unfold Oper.wp;rw [e1];simp only [resolve,e2,Deferred.ofValue,Sem.run_bind,Sem.run_pure,Result.andThen_ok,invoke,MZ,Li,M3,hs _ _ hx];rw [run_callFunc_extern hf hname hb hn he];simp only [Array.empty_append,Array.append_empty,Lib.run_noEscape,Result.andThen_ok];exact ⟨_,C,L,Z,Mem.le.refl _,fun _ _ h=>h,hw,Z,Z,Z⟩
theorem gY {P:Program}{op:BinOp}{t:Nat}{x:Operand}(u:Value)(w:World)(hu:∀ a,u≠.agg a):(eqGuard op t x (.const .nilIface) u .nilIface).run P w=.ok () w:=by
 by_cases h:u=.nilIface
 ·subst h;cases op <;> first | rfl | (unfold eqGuard;simp)
 ·exact dQ w (fun a _=>.inl (hu a)) (.inl h)
theorem D.pO (b:Bool){op:BinOp}{t ty:Nat}{x:Operand}(hk:Nat.ble k 1=true)(hd:o.dst=some d)(hop:o.op=.binOp op t x (.const .nilIface) ty)(hg:gOf ds fr o.guard=some g)
  (hx:ev fr g x=some .nilIface) (hb:(op=.eql/\b=true)∨(op=.neq/\b=false)) (hu:cx.P.underlying t=some (.interface (cx.P.methodsAt t)))
  (hp:aO n ds ((d,g,.bool b)::fr) d=true) (hwf:wfG ds fr g=true)
  (h:D cx R its ((d,g,.bool b)::fr) C L):D cx R ((i,k,o)::its) fr C L:=by
 refine D.run _ hk hd hg (fun _ a hs w=>?_) hp hwf h;rw [f8 hop,hs _ _ hx];have e:a.eval (.const .nilIface)=.nilIface:=rfl;rcases hb with ⟨rfl,rfl⟩ | ⟨rfl,rfl⟩
 ·simp only [e,Sem.run_bind,gY .nilIface w (by intro a;simp),Result.andThen_ok,run_eql_nil_nil w t hu,Sem.run_pure]
 ·simp only [e,Sem.run_bind,gY .nilIface w (by intro a;simp),Result.andThen_ok,run_neq_nil_nil w t hu,Sem.run_pure]
theorem vY {cx:Cx}{fn:Func}{n s t u b:Nat}{fr:Fr}{C:Mem}{L:List Ent}{dd:List Deferred}{w0:World}{C0:Mem}{L0:List Ent}{tb:TypeId}{fz:Nat × Nat}{cs:List Value}{ti:TI}{y z:Value}(hm:Ent.obj b (.cells ⟨cs⟩ tb fz)∈L)(hres:fn.results=#[.cell s t,.tmp u])
  (hs:ev fr [] (.tmp s)=some (.pointer (some ⟨b,0,none⟩))) (hu:ev fr [] (.tmp u)=some z) (ht:cx.T.get t=some ti) (hv:bR ti (cs.take ti.size)=some y) :
  ∀ a w,FrOk n [] dd fr a->St w0 C0 L0 C L w->(results fn a.tmps).run cx.P w=.ok (.tuple #[y,z]) w:=fun a w ha hw=>by
 have hs':=bd ha (fun p hp=>by cases hp) hs;have hu':=bd ha (fun p hp=>by cases hp) hu;simp only [Act.eval] at hs' hu';have hl:=ed (F:=⟨cx,fn,n,⟨w0,C0,L0⟩,fun _ _ _=>True,Cw.plain cx.P,dd,fun _ _ _=>True⟩) ht (hw.sep.e _ hm) hv;simp only [Le] at hs' hu';simp [results,hres,hs',hu',asAddr,hl]
theorem D.dg {t ty:Nat}{x y:Operand}{ki:IntKind}{p q:Int}(c:Int)(e_0:Z6 (Nat.ble k 1) true o.dst (some d) o.op (.binOp .rem t x y ty) (gOf ds fr o.guard) (some g) (ev fr g x) (some (.int ki p)) (ev fr g y) (some (.int ki q)))(hq:q≠0)(e_1:Z3 (p.tmod q) c (aO n ds ((d,g,.int ki c)::fr) d) true (wfG ds fr g) true)(h:D cx R its ((d,g,.int ki c)::fr) C L):D cx R ((i,k,o)::its) fr C L :=
 have ⟨hk,hd,hop,hg,hx,hy⟩:=e_0;have ⟨hc,hp,hwf⟩:=e_1;D.run _ hk hd hg (fun _ a hs w=>by
  rw [bB hop (hs _ _ hx) (hs _ _ hy) (fun _ _=>.inl (by simp)) (.inl (by simp)) w];simp [binOp,Op.intDiv,hq,hc]) hp hwf h
theorem D.dV (p:Nat)(q:Nat){t ty:Nat}{x y:Operand}{ki:IntKind}(e_0:Z6 (Nat.ble k 1) true o.dst (some d) o.op (.binOp .rem t x y ty) (gOf ds fr o.guard) (some g) (ev fr g x) (some (.int ki (p:Nat))) (ev fr g y) (some (.int ki (q:Nat))))(hq:0<q)(e_1:Z2 (aO n ds ((d,g,.int ki ((p % q:Nat):Int))::fr) d) true (wfG ds fr g) true)(h:D cx R its ((d,g,.int ki ((p % q:Nat):Int))::fr) C L):D cx R ((i,k,o)::its) fr C L:=by
 have ⟨hk,hd,hop,hg,hx,hy⟩:=e_0;have ⟨hp,hwf⟩:=e_1;rw [Int.natCast_emod] at hp h;exact D.ox ⟨hk,hd,hop,hg,hx,hy⟩ om_ om_ ⟨hp,hwf⟩ h
theorem D.iZ (p:Nat)(q:Nat){t ty:Nat}{x y:Operand}{ki:IntKind}(e_0:Z6 (Nat.ble k 1) true o.dst (some d) o.op (.binOp .quo t x y ty) (gOf ds fr o.guard) (some g) (ev fr g x) (some (.int ki (p:Nat))) (ev fr g y) (some (.int ki (q:Nat))))(hq:0<q)(hm:(ki=.i64/\p<9223372036854775808)∨(ki=.u64/\p<18446744073709551616))(e_1:Z2 (aO n ds ((d,g,.int ki ((p / q:Nat):Int))::fr) d) true (wfG ds fr g) true)(h:D cx R its ((d,g,.int ki ((p / q:Nat):Int))::fr) C L):D cx R ((i,k,o)::its) fr C L:=by
 have ⟨hk,hd,hop,hg,hx,hy⟩:=e_0;have ⟨hp,hwf⟩:=e_1;have hr:ki.wrap ((p / q:Nat):Int)=((p / q:Nat):Int):=by
  have hle:=Lu p q;generalize p / q=z at hle ⊢;rcases hm with ⟨rfl,hm⟩ | ⟨rfl,hm⟩
  ·rw [IntKind.wrap_i64];omega
  ·rw [IntKind.wrap_u64];omega
 rw [NY] at hp h hr;exact D.quo hk hd hop hg hx hy om_ om_ hr hp hwf h
end
end Go.Jog
namespace Go.Proofs.YtgfiffppookakaaGreatDoor
open Go Go.Jog
set_option maxRecDepth 100000

abbrev Kj (b:Nat):Value:=.pointer (some ⟨b,0,none⟩)
abbrev Ib (b:Nat)(q:Option Addr)(v:Value):Ent:=.obj b (.cells ⟨[.pointer q,v]⟩ 402 (0,0))
abbrev u8s (s:Str):List Value:=s.map fun c=>Value.int .u8 c.toNat
abbrev Ic (v:Value)(s:Str):Ent:=.arr v 5 1 s.length (u8s s)
theorem px (C:Mem)(b:Nat)(q:Option Addr)(v:Value)(hq:q=none∨q=some ⟨b,0,none⟩):Jog.Fn cx.P 324 [Kj b] C [Ib b q v] fun _ _ L'=>L'=[Ib b (some ⟨b,0,none⟩) v]:=by
 refine Fn.it kr_ Tryz.func324 20 fun w0=>?_;refine G.be (L':=[.obj b (.cells ⟨[.pointer q,v]⟩ 402 (0,0))]) Z ?_;refine G.rp 3 fun R hR=>?_;refine D.af (.head _) ?_;refine D.FT (e:=402) Z Z Z Z Z kr_ kr_ Z Z ?_;refine D.e2 0 6 hR ?_;refine G.cd (fun h6=>?_) fun h6=>?_
 ·have hq0:q=none:=by simpa using h6
  subst hq0;refine G.rp 2 fun R hR=>?_;refine D.zm (t:=402) Z Z Z Z Z (.head _) kr_ kr_ kr_ (by simp) fl_ ?_;refine D.zr (fn:=Tryz.f333) Z Z Z Z Z Tryz.func333 kr_ kr_ kr_ kr_ fl_ ?_;refine D.tR (t:=402) Z Z Z Z Z (.head _) kr_ kr_ kr_ kr_ fl_ ?_;refine D.ps 2 ?_;refine D.ae (j:=0) ?_;refine D.bA [] trivial (hR _ _ _ Z ?_);refine G.lA Z ?_;rfl
 ·have hq1:q=some ⟨b,0,none⟩:=by
   rcases hq with rfl | rfl
   ·simp at h6
   ·rfl
  subst hq1;refine G.rp 3 fun R hR=>?_;refine D.af (.head _) ?_;refine D.ac ?_;refine D.vm (e:=402) Z Z Z Z Z Z kr_ kr_ Z Z ?_;refine D.e1 19 hR ?_;refine G.cd (fun h19=>?_) fun h19=>?_
  ·cases h19
  ·refine G.lA Z ?_;rfl
theorem rQ (C:Mem)(b:Nat)(q:Option Addr)(v:Value)(s:Str)(c:UInt8)(hq:q=none∨q=some ⟨b,0,none⟩)(hl:s.length<=1000000000):Jog.Fn cx.P 305 [Kj b,.int .u8 c.toNat] C [Ib b q v,Ic v s] fun _ _ L'=>∃ v',L'=[Ib b (some ⟨b,0,none⟩) v',Ic v' (s++[c])]:=by
 refine Fn.it kr_ Tryz.func305 17 fun w0=>?_;refine G.be (L':=[.obj b (.cells ⟨[.pointer q,v]⟩ 402 (0,0)),.arr v 5 1 s.length (u8s s)]) Z ?_;refine G.z2 1 0 1 ?_;refine G.aY [(1,3)] Z (fun R hR=>?_);refine D.ac ?_;refine D.call (px _ b q v hq) Z (.inr dc_) U6 (il _) fl_ (fun v6 _ L6 _ hq6=>?_);refine D.e2 0 1 hR ?_;subst hq6;refine G.be (L':=[.obj b (.cells ⟨[.pointer (some ⟨b,0,none⟩),v]⟩ 402 (0,0)),.arr v 5 1 s.length (u8s s)]) Z ?_;refine G.rp 4 fun R hR=>?_;refine D.af (.head _) ?_;refine D.ac ?_;refine D.ah [[.int .u8 c.toNat]] (fun p13 _ _ hs13=>?_);refine D.aQ (j:=1) U11 hs13 Z (by simp only [bz,maxLen];omega) (by simp only [bz];omega) fl_ (fun A14 n14 c14=>?_);refine D.ps 2 ?_;refine D.ae (j:=1) ?_;refine D.bA [] trivial (hR _ _ _ Z ?_);refine G.z1 1 4 ?_;refine G.perm (L':=[.obj b (.cells ⟨[.pointer (some ⟨b,0,none⟩),.slice A14 n14 c14]⟩ 402 (0,0)),.arr (.slice A14 n14 c14) 5 1 (s.length+1) (u8s s++[Value.int .u8 c.toNat])]) (il _) ?_;refine G.aB (G.DL Z Z ?_);exact ⟨.slice A14 n14 c14,by simp [Ic,u8s]⟩
theorem iP (C:Mem)(b:Nat)(q:Option Addr)(v:Value)(s t:Str)(hq:q=none∨q=some ⟨b,0,none⟩)(hl:s.length+t.length<=1000000000):Jog.Fn cx.P 308 [Kj b,aA t] C [Ib b q v,Ic v s] fun _ _ L'=>∃ v',L'=[Ib b (some ⟨b,0,none⟩) v',Ic v' (s++t)]:=by
 refine Fn.it kr_ Tryz.func308 19 fun w0=>?_;refine G.be (L':=[.obj b (.cells ⟨[.pointer q,v]⟩ 402 (0,0)),.arr v 5 1 s.length (u8s s)]) Z ?_;refine G.z2 2 0 1 ?_;refine G.aY [(1,3)] Z (fun R hR=>?_);refine D.ac ?_;refine D.call (px _ b q v hq) Z (.inr dc_) U6 (il _) fl_ (fun v7 _ L7 _ hq7=>?_);refine D.e2 0 1 hR ?_;subst hq7;refine G.be (L':=[.obj b (.cells ⟨[.pointer (some ⟨b,0,none⟩),v]⟩ 402 (0,0)),.arr v 5 1 s.length (u8s s)]) Z ?_;refine G.rp 4 fun R hR=>?_;refine D.af (.head _) ?_;refine D.ac ?_;refine D.vw (j:=1) Z Z Z Z Z Z Z Z Z Z Z Z Z Z Z om_ fl_ (fun A2 n2 c2=>?_);refine D.ps 2 ?_;refine D.ae (j:=1) ?_;refine D.e1 1 hR ?_;refine G.z2 4 4 5 ?_;refine G.perm (L':=[.obj b (.cells ⟨[.pointer (some ⟨b,0,none⟩),.slice A2 n2 c2]⟩ 402 (0,0)),.arr (.slice A2 n2 c2) 5 1 (s.length+t.length) (u8s s++t.map fun b=>Value.int .u8 b.toNat)]) (il _) ?_;refine G.aB (G.a8 U3 ?_);exact ⟨.slice A2 n2 c2,by simp [Ic,u8s]⟩
theorem y8 (C:Mem)(b:Nat)(q:Option Addr)(v:Value)(s:Str)(h0:s≠[])(hl:s.length<=1000000000):Jog.Fn cx.P 309 [Kj b] C [Ib b q v,Ic v s] fun u _ L'=>u=aA s/\L'=[]:=by
 refine Fn.it kr_ Tryz.func309 14 fun w0=>?_;refine G.be (L':=[.obj b (.cells ⟨[.pointer q,v]⟩ 402 (0,0)),.arr v 5 1 s.length (u8s s)]) Z ?_;refine G.form (.tail _ (.head _)) (fun hf hfl=>?_);have hp0:=K6.2 h0;rcases hf with ⟨h1,h2⟩ | ⟨g0,c0,rfl,hc1,hc2⟩
 ·omega
 refine G.z1 1 0 ?_;refine G.aG [0,1,2,3,4,5,6,7,8,9,10,11] [(4,0)] Z kr_ (fun R hB hR=>?_);refine D.ps 3 ?_;refine D.af (.head _) ?_;refine D.vj Z Z Z Z Z om_ Z Z ?_;refine D.ps 3 ?_;refine D.af (.head _) ?_;refine D.ac ?_;refine D.vi (j:=1) (e:=5) Z Z Z Z kr_ kr_ Z Z Z h0 om_ fl_ ?_;refine D.q1 1 2 hR ?_;refine G.rf ?_;exact ⟨Z,Z⟩

def bU (x:Nat):List Value:=[.int .u64 x]
theorem dT (x:Nat):(bU x).length=1:=rfl
def NineC (C:Mem)(v:Value)(n:Nat):Prop:=∃ l,tU l/\bc l=n/\Sl C 1 v (l.map bU)
theorem NineC.mono {C D:Mem}{v:Value}{n:Nat}(h:NineC C v n)(hl:C.le D):NineC D v n:=by
 obtain ⟨l,h1,h2,h3⟩:=h;exact ⟨l,h1,h2,h3.mono hl⟩
theorem NineC.m_ {C D:Mem}{v:Value}{n:Nat}(h:NineC C v n)(hl:C.le D:=by exact mup):NineC D v n:=NineC.mono h hl
theorem vL (C:Mem)(v:Value)(l:List Nat)(hv:Sl C 1 v (l.map bU)):Pur cx.P 304 [v] C fun u C'=>Sl C' 1 u ((zA l).map bU):=by
 obtain ⟨A0,c0,rfl,hlc,_⟩:=id hv;simp only [aH] at hv hlc ⊢;refine Fn.it kr_ Tryz.func304 21 fun w0=>?_;refine G.z1 1 0 ?_;refine G.loop (fun fr C' L' μ=>∃ (k:Nat)(A:Option Addr)(c:Nat),(k<=l.length/\Sl C' 1 (.slice A k c) ((l.take k).map bU)/\kW l l.length=kW l k)/\fr=[(0,[],.slice A k c)]/\L'=[]/\μ=k+1) (h_1 0) ⟨l.length,A0,c0,⟨aP _,by rw [cK];exact hv,Z⟩,Z,Z,Z⟩ (fun fr C0' L0' m _ hI=>?_);obtain ⟨k,A,c,⟨hk,hs,ht⟩,rfl,rfl,rfl⟩:=hI;obtain ⟨_,c9,hqe,hkc,_⟩:=id hs;have hmx:maxLen<=9223372036854775807:=by simp [maxLen]
 have hkc2:k<=c:=by
  rw [aH,eB] at hkc;injection hqe with h1 h2 h3;omega
 have hrow:0<k->((l.take k).map bU)[((k:Int)-1).toNat]?=some (bU (g9 l (k-1))):=fun h=>by
  rw [show ((k:Int)-1).toNat=k-1 by omega,bX,Ly,bW om_,aq (by omega:k-1<l.length)];unfold g9;rw [aF,aq (by omega:k-1<l.length)];rfl
 refine G.rp 7 fun R hR=>?_;refine D.ar _ ?_;refine D.index U10 (fun hg=>⟨hs,(by have h:decide ((0:Int)<(k:Int))=true:=hg.1;simp at h;omega),hrow (by have h:decide ((0:Int)<(k:Int))=true:=hg.1;simp at h;omega)⟩) fl_ Z (fun p11 hp11=>?_);refine D.aN U6 hp11 U3 ?_;refine D.ac ?_;refine D.aw ?_;refine D.e2 0 14 hR ?_;refine G.cd (fun h14=>?_) fun h14=>?_
 ·have hk0:0<k/\g9 l (k-1)=0:=by
   have:(0:Int)<(k:Int)/\((g9 l (k-1):Nat):Int)=0:=by simpa using h14
   omega
  refine G.rp 3 fun R hR=>?_;refine D.cf (((k-1:Nat):Int)) U4 om_ om_ om_ U2 ?_;refine D.fp 0 (k-1) c U12 (fun _=>⟨.inl ⟨Z,Z⟩,.inr ⟨_,Z⟩,.inl ⟨Z,Z⟩,by omega,by omega,aP _⟩) U2 ?_;refine D.q1 1 0 hR ?_;have hsub:=Sl.sub hs (l:=0) (h:=k-1) (m:=c) (ch _) (by simp;omega) om_ (aP _);have esub:(((l.take k).map bU).take (k-1)).drop 0=(l.take (k-1)).map bU:=by
   rw [LR,<- Ov,NR,Lt om_]
  rw [esub] at hsub;have etr:kW l l.length=kW l (k-1):=by
   rw [ht];obtain ⟨j,rfl⟩:∃ j,k=j+1:=⟨k-1,by omega⟩;simp only [M1] at hk0 ⊢;rw [kW,bW];unfold g9 at hk0;rw [aF,aq om_] at hk0;rw [aq om_];exact congrArg some hk0.2
  refine G.ax (m':=k-1+1) om_ mup (h_1 0) ⟨k-1,_,c,⟨by omega,hsub.mono mup,etr⟩,Z,Z,Z⟩
 ·have hk0:¬ (0<k/\g9 l (k-1)=0):=fun hh=>by
   have h1:(decide ((0:Int)<(k:Int)) && (((g9 l (k-1):Nat):Int) == 0))=true:=by
    rw [hh.2];simp;omega
   rw [h1] at h14;cases h14
  refine G.z1 2 2 ?_;refine G.rf ?_;refine ⟨Z, ?_⟩;have e:kW l k=k:=by
   cases k with
   | zero=>rfl
   | succ j =>
    simp only [M1] at hk0;rw [kW,a7];intro h;refine hk0 ⟨by omega, ?_⟩;unfold g9;rw [aF,h];rfl
  unfold zA;rw [ht,e];exact hs
theorem fH (C:Mem)(v:Value)(l:List Nat){n:Nat}(hn:l.length=n):Jog.Fn cx.P 304 [v] C [.arr v 284 1 n (l.map bU).flatten] fun u C' L'=>L'=[]/\Sl C' 1 u ((zA l).map bU) :=
 Jog.Fn.give (l.map bU) kr_ (by intro r hr;obtain ⟨y,_,rfl⟩:=j5.1 hr;rfl) (by rw [aH,hn]) (fun C' _ hs=>vL C' v l hs)
def iw (m n:Nat):Int:=if m<n then -1 else if n<m then 1 else 0
theorem g8 {m n:Nat}:iw m n<0 ↔ m<n:=by unfold iw;split <;> (try split) <;> omega
theorem Bk {m n:Nat}:0<iw m n ↔ n<m:=by unfold iw;split <;> (try split) <;> omega
theorem Bj (C:Mem)(va vb:Value)(a b:List Nat)(ha:Sl C 1 va (a.map bU))(hb:Sl C 1 vb (b.map bU))(hca:tU a)(hcb:tU b):Gives cx.P 300 [va,vb] C (.int .i64 (iw (bc a) (bc b))):=by
 have hmx:maxLen<=9223372036854775807:=by simp [maxLen]
 obtain ⟨A0,c0,rfl,hla,hla2,_⟩:=id ha;obtain ⟨B0,d0,rfl,hlb,hlb2,_⟩:=id hb;simp only [aH] at ha hb hla hlb ⊢;refine Fn.it kr_ Tryz.func300 41 fun w0=>?_;refine G.z2 1 0 1 ?_;refine G.z3 5 0 1 10 ?_;refine G.cd (fun h10=>?_) fun h10=>?_
 ·have hne:a.length≠b.length:=fun e=>by
   rw [e] at h10;simp at h10
  refine G.z1 5 15 ?_;refine G.cd (fun h15=>?_) fun h15=>?_
  ·have hlt:a.length<b.length:=by
    have:(a.length:Int)<b.length:=by simpa using h15
    omega
   refine G.z1 1 4 ?_;refine G.rf ?_;exact ⟨by rw [show iw (bc a) (bc b)=-1 from bW (qL hca.1 hcb hlt)],Z⟩
  ·have hlt:b.length<a.length:=by
    have:¬ (a.length:Int)<b.length:=by simpa using h15
    omega
   have hvv:=qL hcb.1 hca hlt;refine G.z1 1 4 ?_;refine G.rf ?_;exact ⟨by rw [show iw (bc a) (bc b)=1 from by unfold iw;rw [a7 om_,bW hvv]],Z⟩
 ·have hlen:a.length=b.length:=by
   have:(a.length:Int)=b.length:=by simpa using h10
   omega
  refine G.rp 2 fun R hR=>?_;refine D.ar _ ?_;refine D.q3 1 0 1 5 hR ?_;refine G.loop (fun fr C' L' μ=>∃ (k:Nat),(k<=a.length/\a.drop k=b.drop k)/\fr=[(0,[],.slice A0 a.length c0),(1,[],.slice B0 b.length d0),(5,[],.int .i64 ((k:Int)-1))]/\L'=[]/\μ=k+1) (h_3 0 1 5) ⟨a.length,⟨aP _,by rw [LI,hlen,LI]⟩,Z,Z,Z⟩ (fun fr C0' L0' m _ hI=>?_);obtain ⟨k,⟨hk,he⟩,rfl,rfl,rfl⟩:=hI;refine G.z4 2 0 1 5 20 ?_;refine G.cd (fun h20=>?_) fun h20=>?_
  ·have hk0:0<k:=by
    have:(0:Int)<=(k:Int)-1:=by simpa using h20
    omega
   obtain ⟨j,rfl⟩:∃ j,k=j+1:=⟨k-1,by omega⟩;obtain ⟨x,hx⟩:∃ x,a[j]?=some x:=⟨a[j],aq om_⟩;obtain ⟨y,hy⟩:∃ y,b[j]?=some y:=⟨b[j],aq om_⟩;have hrx:(a.map bU)[(((j+1:Nat):Int)-1).toNat]?=some (bU x):=by
    rw [show (((j+1:Nat):Int)-1).toNat=j by omega,bX,hx];rfl
   have hry:(b.map bU)[(((j+1:Nat):Int)-1).toNat]?=some (bU y):=by
    rw [show (((j+1:Nat):Int)-1).toNat=j by omega,bX,hy];rfl
   refine G.aG [0,1,2,3,4,5,6,7,8] [] Z kr_ (fun R hB hR=>?_);refine D.ps 2 ?_;refine D.ak ha.m_ U10 om_ hrx fl_ (fun p25 hp25=>?_);refine D.aa hp25 ?_;refine D.ps 2 ?_;refine D.ak hb.m_ U10 om_ hry fl_ (fun p29 hp29=>?_);refine D.aa hp29 ?_;refine D.q4 1 0 1 5 31 hR ?_;refine G.cd (fun h31=>?_) fun h31=>?_
   ·have hxy:x≠y:=fun h=>by
     subst h;simp at h31
    refine G.aG [0,1,2,3,4,5,6,7,8] [] Z kr_ (fun R hB hR=>?_);refine D.ps 2 ?_;refine D.ak ha.m_ U10 om_ hrx fl_ (fun p34 hp34=>?_);refine D.aa hp34 ?_;refine D.ps 2 ?_;refine D.ak hb.m_ U10 om_ hry fl_ (fun p38 hp38=>?_);refine D.aa hp38 ?_;refine D.q1 1 40 hR ?_;refine G.cd (fun h40=>?_) fun h40=>?_
    ·have hxy:x<y:=by
      have:(x:Int)<y:=by simpa using h40
      omega
     refine G.z1 1 4 ?_;refine G.rf ?_;exact ⟨by rw [show iw (bc a) (bc b)=-1 from bW (GE hca.1 hlen hx hy hxy he)],Z⟩
    ·have hyx:y<x:=by
      have:¬ (x:Int)<y:=by simpa using h40
      omega
     have hvv:=GE hcb.1 hlen.symm hy hx hyx he.symm;refine G.z1 1 4 ?_;refine G.rf ?_;exact ⟨by rw [show iw (bc a) (bc b)=1 from by unfold iw;rw [a7 om_,bW hvv]],Z⟩
   ·have hxy2:x=y:=by
     have:(x:Int)=y:=by simpa using h31
     omega
    refine G.rp 1 fun R hR=>?_;refine D.ar _ ?_;refine D.q3 1 0 1 5 hR ?_;rw [show ((j+1:Nat):Int)-1-1=(j:Int)-1 by omega];refine G.ax (m':=j+1) om_ mup (h_3 0 1 5) ⟨j,⟨by omega,by
     rw [K2 (by omega:j<a.length),K2 (by omega:j<b.length),he,(aJ.1 hx).2,(aJ.1 hy).2,hxy2]⟩,rfl,rfl,rfl⟩
  ·have hk0:k=0:=by
    have:¬ (0:Int)<=(k:Int)-1:=by simpa using h20
    omega
   subst hk0;refine G.z1 1 4 ?_;refine G.rf ?_;have hab:a=b:=by simpa using he
   subst hab;exact ⟨by rw [show iw (bc a) (bc a)=0 from by unfold iw;rw [a7 om_,a7 om_]],Z⟩
end Go.Proofs.YtgfiffppookakaaGreatDoor
