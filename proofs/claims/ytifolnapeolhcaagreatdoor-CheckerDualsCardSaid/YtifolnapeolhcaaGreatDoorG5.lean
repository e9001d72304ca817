/- Laws that the proofs of this seat share, part 5. -/
import Derived.Test.YtifolnapeolhcaaGreatDoorG4
import Derived.Test.YtifolnapeolhcaaGreatDoorShelf
set_option maxHeartbeats 4000000
namespace Go.Proofs.YtifolnapeolhcaaGreatDoor
open Go Go.Jog
set_option maxRecDepth 100000

theorem number_fn (C:Mem)(s:Str)(hl:s.length<1000000):Gives cx.P 14 [strV s] C (.bool (bP s).isSome):=by
 refine Fn.it kr_ Tryz.func14 11 fun w0=>?_
 refine G.z1 1 0 ?_
 refine G.rp 1 fun R hR=>?_
 refine D.aS (read_fn _ s hl) (fun v7 C7 hle7 hq7=>?_)
 obtain ⟨vf,rfl,hvf⟩:=hq7
 obtain ⟨x,rfl⟩:=hvf.fv
 refine D.ps 3 ?_
 refine D.aC (fun b3=>?_)
 refine D.ag (j:=0) ?_
 refine D.q1 1 4 hR ?_
 refine G.z1 2 2 ?_
 refine G.rf ?_
 exact ⟨rfl,rfl⟩
theorem open1_fn (C:Mem)(x:FV):Gives cx.P 62 [.agg ⟨x.enc⟩] C (.bool x.b):=by
 refine Fn.it kr_ Tryz.func62 5 fun w0=>?_
 refine G.rg fun R hR=>?_
 refine D.aX (fun b1=>?_)
 refine D.q1 1 1 hR ?_
 refine G.rp 1 fun R hR=>?_
 refine D.ah (.head _) ?_
 refine D.q1 1 2 hR ?_
 refine G.rf ?_
 exact ⟨rfl,rfl⟩
theorem indexFr_fn (C:Mem)(v:Value)(xs:List FV)(g:FuncId)(cb:List Value)(p:FV->Bool)(hv:Sl C 3 v (xs.map FV.enc))(hcb:∀ x∈xs,∀ C',C.le C'->Gives cx.P g (.agg ⟨x.enc⟩::cb) C' (.bool (p x))) :
  Gives cx.P 71 [v,.func (.func g) #[] ⟨cb⟩] C (.int .i64 (findI p xs 0)):=by
 obtain ⟨A0,c0,rfl,hlx,hlx2,_⟩:=id hv
 have hmx:maxLen<=9223372036854775807:=by simp [maxLen]
 simp only [List.length_map] at hv hlx hlx2 ⊢
 refine Fn.it kr_ Tryz.func71 19 fun w0=>?_
 refine G.z2 1 0 1 ?_
 refine G.z4 3 0 1 7 8 ?_
 refine G.loop (fun fr C' L' μ=>∃ (k:Nat),(k<=xs.length/\∀ y∈xs.take k,p y=false)/\fr=[(0,[],.slice A0 xs.length c0),(1,[],.func (.func g) #[] ⟨cb⟩),(7,[],.int .i64 xs.length),(8,[],.int .i64 k)]/\L'=[]/\μ=xs.length-k) (h_4 0 1 7 8) ⟨0,⟨Nat.zero_le _,by simp⟩,rfl,rfl,rfl⟩ (fun fr C0' L0' m hle0 hI=>?_)
 obtain ⟨k,⟨hk,hall⟩,rfl,rfl,rfl⟩:=hI
 refine G.z5 1 0 1 7 8 9 ?_
 refine G.cd (fun h9=>?_) fun h9=>?_
 ·have hkl:k<xs.length:=by simpa using h9
  obtain ⟨x,hx⟩:∃ x,xs[k]?=some x:=⟨xs[k],List.getElem?_eq_getElem hkl⟩
  have hrow:(xs.map FV.enc)[k]?=some x.enc:=by rw [List.getElem?_map,hx];rfl
  refine G.z5 2 0 1 5 7 8 ?_
  refine G.rp 3 fun R hR=>?_
  refine D.ak (hv.mono mup) rfl rfl rfl rfl rfl rfl rfl rfl rfl rfl om_ hrow fl_ (fun p14 hp14=>?_)
  refine D.ac hp14 ?_
  refine D.aj (hcb x (List.mem_of_getElem? hx) _ mup) ?_
  refine D.e6 0 1 5 7 8 16 hR ?_
  refine G.cd (fun h16=>?_) fun h16=>?_
  ·refine G.z1 2 4 ?_
   refine G.rf ?_
   refine ⟨?_,rfl⟩
   rw [findI_at (k:=k) (j:=0) hx hall h16,Nat.zero_add]
  ·refine G.rg fun R hR=>?_
   refine D.aq _ ?_
   refine D.q4 1 0 1 7 8 hR ?_
   refine G.ap (m':=xs.length-(k+1)) om_ hle0 (h_4 0 1 7 8) ⟨k+1,⟨by omega,fun y hy=>by
    rw [List.take_add_one,hx] at hy
    rcases List.mem_append.1 hy with h6 | h6
    ·exact hall y h6
    ·simp only [Option.toList_some,List.mem_singleton] at h6
     subst h6
     exact h16⟩,rfl,rfl,rfl⟩
 ·have hkl:xs.length<=k:=by
   have:¬ k<xs.length:=by simpa using h9
   omega
  refine G.z1 1 4 ?_
  refine G.rf ?_
  rw [List.take_of_length_le hkl] at hall
  exact ⟨by rw [findI_none hall],rfl⟩
theorem contFr_fn (C:Mem)(v:Value)(xs:List FV)(g:FuncId)(cb:List Value)(p:FV->Bool)(hv:Sl C 3 v (xs.map FV.enc))(hcb:∀ x∈xs,∀ C',C.le C'->Gives cx.P g (.agg ⟨x.enc⟩::cb) C' (.bool (p x))) :
  Gives cx.P 30 [v,.func (.func g) #[] ⟨cb⟩] C (.bool (xs.any p)):=by
 obtain ⟨A0,c0,rfl,hlx,hlx2,_⟩:=id hv
 refine Fn.it kr_ Tryz.func30 9 fun w0=>?_
 refine G.z2 1 0 1 ?_
 refine G.rp 2 fun R hR=>?_
 refine D.aj (indexFr_fn _ _ xs g cb p hv hcb) ?_
 refine D.q1 2 4 hR ?_
 refine G.rf ?_
 exact ⟨by rw [findI_any],rfl⟩

theorem split_fn (C:Mem)(s:Str):Gives cx.P 155 [strV s] C (.tuple #[.bool (aP 45 s).2,strV (aP 45 s).1]):=by
 refine Fn.it kr_ Tryz.func155 17 fun w0=>?_
 refine G.z1 2 0 ?_
 refine G.z1 2 4 ?_
 refine G.rp 5 fun R hR=>?_
 refine D.be (b:=s.headD 0) rfl rfl rfl rfl rfl rfl rfl rfl (fun hg=>⟨by omega,(by
  cases s with
  | nil=>exact Bool.noConfusion (show false=true from hg.1)
  | cons b s=>rfl)⟩) rfl rfl ?_
 refine D.ae ?_
 refine D.au ?_
 refine D.e2 4 13 hR ?_
 refine G.cd (fun h13=>?_) fun h13=>?_
 ·have hh:s.head?=some 45:=by
   cases s with
   | nil=>cases h13
   | cons b s =>
    have h1:b=45:=by
     refine UInt8.toNat_inj.1 ?_
     show b.toNat=45
     simp at h13
     omega
    rw [h1];rfl
  have hlen:1<=s.length:=by cases s with
   | nil=>cases hh
   | cons b s=>simp
  refine G.aH [0,1,2,3] [] rfl kr_ (fun R hB hR=>?_)
  refine D.ae ?_
  refine D.bG 1 s.length rfl rfl rfl rfl rfl rfl rfl rfl rfl (fun _=>⟨.inr ⟨_,rfl⟩,.inl ⟨rfl,rfl⟩,.inl ⟨rfl,rfl⟩,by omega,Nat.le_refl _,Nat.le_refl _⟩) rfl rfl ?_
  refine D.q2 2 2 3 hR ?_
  refine G.ay (G.dropAll (G.bg rfl rfl rfl ?_))
  unfold aP
  rw [if_pos hh]
  refine ⟨?_,rfl⟩
  rw [List.take_length,List.drop_one];rfl
 ·have hh:¬ s.head?=some 45:=by
   cases s with
   | nil=>simp
   | cons b s =>
    intro h
    have h1:b=45:=by simpa using h
    subst h1
    simp at h13
  refine G.z2 3 2 3 ?_
  refine G.ay (G.dropAll (G.bg rfl rfl rfl ?_))
  unfold aP
  rw [if_neg hh]
  exact ⟨rfl,rfl⟩
def canonB (s:Str):Bool:=(aP 45 s).1.all digB && !((aP 45 s).1 == []) && !((aP 45 s).1.head? == some 48 && ((aP 45 s).2 || decide (1<(aP 45 s).1.length)))
def bq (s:Str):Bool:=canonB s && decide ((aP 45 s).1.length<=200)

theorem cut_p_fn (C:Mem)(v:Value)(l:List Nat)(hv:Sl C 1 v (l.map encN)):Pur cx.P 190 [v] C fun u C'=>Sl C' 1 u ((cutP l).map encN):=by
 obtain ⟨A0,c0,rfl,hlc,_⟩:=id hv
 simp only [List.length_map] at hv hlc ⊢
 refine Fn.it kr_ Tryz.func190 21 fun w0=>?_
 refine G.z1 1 0 ?_
 refine G.loop (fun fr C' L' μ=>∃ (k:Nat)(A:Option Addr)(c:Nat),(k<=l.length/\Sl C' 1 (.slice A k c) ((l.take k).map encN)/\cutN l l.length=cutN l k)/\fr=[(0,[],.slice A k c)]/\L'=[]/\μ=k+1) (h_1 0) ⟨l.length,A0,c0,⟨Nat.le_refl _,by rw [List.take_length];exact hv,rfl⟩,rfl,rfl,rfl⟩ (fun fr C0' L0' m hle0 hI=>?_)
 obtain ⟨k,A,c,⟨hk,hs,ht⟩,rfl,rfl,rfl⟩:=hI
 obtain ⟨_,c9,hqe,hkc,_⟩:=id hs
 have hmx:maxLen<=9223372036854775807:=by simp [maxLen]
 have hkc2:k<=c:=by
  rw [List.length_map,List.length_take] at hkc
  injection hqe with h1 h2 h3
  omega
 have hrow:0<k->((l.take k).map encN)[((k:Int)-1).toNat]?=some (encN (gP l (k-1))):=fun h=>by
  rw [show ((k:Int)-1).toNat=k-1 by omega,List.getElem?_map,List.getElem?_take,if_pos om_,List.getElem?_eq_getElem (by omega:k-1<l.length)]
  unfold gP
  rw [List.getD_eq_getElem?_getD,List.getElem?_eq_getElem (by omega:k-1<l.length)];rfl
 refine G.rp 7 fun R hR=>?_
 refine D.aq _ ?_
 refine D.index rfl rfl rfl rfl rfl rfl rfl rfl rfl rfl (fun hg=>⟨hs,(by have h:decide ((0:Int)<(k:Int))=true:=hg.1;simp at h;omega),hrow (by have h:decide ((0:Int)<(k:Int))=true:=hg.1;simp at h;omega)⟩) fl_ rfl (fun p11 hp11=>?_)
 refine D.aK rfl rfl rfl rfl rfl rfl hp11 rfl rfl rfl ?_
 refine D.ae ?_
 refine D.au ?_
 refine D.e2 0 14 hR ?_
 refine G.cd (fun h14=>?_) fun h14=>?_
 ·have hk0:0<k/\gP l (k-1)=0:=by
   have:(0:Int)<(k:Int)/\((gP l (k-1):Nat):Int)=0:=by simpa using h14
   omega
  refine G.rp 3 fun R hR=>?_
  refine D.cR (((k-1:Nat):Int)) rfl rfl rfl rfl om_ om_ om_ rfl rfl ?_
  refine D.dq 0 (k-1) c rfl rfl rfl rfl rfl rfl rfl rfl rfl rfl rfl rfl (fun _=>⟨.inl ⟨rfl,rfl⟩,.inr ⟨_,rfl⟩,.inl ⟨rfl,rfl⟩,by omega,by omega,Nat.le_refl _⟩) rfl rfl ?_
  refine D.q1 1 0 hR ?_
  have hsub:=Sl.sub hs (l:=0) (h:=k-1) (m:=c) (Nat.zero_le _) (by simp;omega) om_ (Nat.le_refl _)
  have esub:(((l.take k).map encN).take (k-1)).drop 0=(l.take (k-1)).map encN:=by
   rw [List.drop_zero,<- List.map_take,List.take_take,Nat.min_eq_left om_]
  rw [esub] at hsub
  have etr:cutN l l.length=cutN l (k-1):=by
   rw [ht]
   obtain ⟨j,rfl⟩:∃ j,k=j+1:=⟨k-1,by omega⟩
   simp only [Nat.add_sub_cancel] at hk0 ⊢
   rw [cutN,if_pos]
   unfold gP at hk0
   rw [List.getD_eq_getElem?_getD,List.getElem?_eq_getElem om_] at hk0
   rw [List.getElem?_eq_getElem om_]
   exact congrArg some hk0.2
  refine G.ap (m':=k-1+1) om_ mup (h_1 0) ⟨k-1,_,c,⟨by omega,hsub.mono mup,etr⟩,rfl,rfl,rfl⟩
 ·have hk0:¬ (0<k/\gP l (k-1)=0):=fun hh=>by
   have h1:(decide ((0:Int)<(k:Int)) && (((gP l (k-1):Nat):Int) == 0))=true:=by
    rw [hh.2];simp;omega
   rw [h1] at h14
   cases h14
  refine G.z1 2 2 ?_
  refine G.rf ?_
  refine ⟨rfl, ?_⟩
  have e:cutN l k=k:=by
   cases k with
   | zero=>rfl
   | succ j =>
    simp only [Nat.add_sub_cancel] at hk0
    rw [cutN,if_neg]
    intro h
    refine hk0 ⟨by omega, ?_⟩
    unfold gP
    rw [List.getD_eq_getElem?_getD,h];rfl
  unfold cutP
  rw [ht,e]
  exact hs
theorem cutO_fn (C:Mem)(v:Value)(l:List Nat){n:Nat}(hn:l.length=n):Jog.Fn cx.P 190 [v] C [.arr v 3 1 n (l.map encN).flatten] fun u C' L'=>L'=[]/\Sl C' 1 u ((cutP l).map encN) :=
 Jog.Fn.give (l.map encN) kr_ (by intro r hr;obtain ⟨y,_,rfl⟩:=List.mem_map.1 hr;rfl) (by rw [List.length_map,hn]) (fun C' _ hs=>cut_p_fn C' v l hs)
def PieC (C:Mem)(v:Value)(n:Nat):Prop:=∃ l,CanP l/\valP l=n/\Sl C 1 v (l.map encN)
theorem PieC.mono {C D:Mem}{v:Value}{n:Nat}(h:PieC C v n)(hl:C.le D):PieC D v n:=by
 obtain ⟨l,h1,h2,h3⟩:=h
 exact ⟨l,h1,h2,h3.mono hl⟩
theorem pless_fn (C:Mem)(va vb:Value)(a b:List Nat)(ha:Sl C 1 va (a.map encN))(hb:Sl C 1 vb (b.map encN))(hca:CanP a)(hcb:CanP b):Gives cx.P 191 [va,vb] C (.bool (decide (valP a<valP b))):=by
 have hmx:maxLen<=9223372036854775807:=by simp [maxLen]
 obtain ⟨A0,c0,rfl,hla,hla2,_⟩:=id ha
 obtain ⟨B0,d0,rfl,hlb,hlb2,_⟩:=id hb
 simp only [List.length_map] at ha hb hla hlb ⊢
 refine Fn.it kr_ Tryz.func191 41 fun w0=>?_
 refine G.z2 1 0 1 ?_
 refine G.z3 5 0 1 10 ?_
 refine G.cd (fun h10=>?_) fun h10=>?_
 ·have hne:a.length≠b.length:=fun e=>by
   rw [e] at h10;simp at h10
  refine G.z1 6 4 ?_
  refine G.rf ?_
  refine ⟨?_,rfl⟩
  congr 1
  rw [decide_eq_decide]
  rcases Nat.lt_or_ge a.length b.length with h | h
  ·have:=lenP_lt hca.1 hcb h
   constructor
   ·intro _;exact this
   ·intro _;omega
  ·have:=lenP_lt hcb.1 hca om_
   constructor <;> intro _ <;> omega
 ·have hlen:a.length=b.length:=by
   have:(a.length:Int)=b.length:=by simpa using h10
   omega
  refine G.rp 2 fun R hR=>?_
  refine D.aq _ ?_
  refine D.q3 1 0 1 5 hR ?_
  refine G.loop (fun fr C' L' μ=>∃ (k:Nat),(k<=a.length/\a.drop k=b.drop k)/\fr=[(0,[],.slice A0 a.length c0),(1,[],.slice B0 b.length d0),(5,[],.int .i64 ((k:Int)-1))]/\L'=[]/\μ=k+1) (h_3 0 1 5) ⟨a.length,⟨Nat.le_refl _,by rw [List.drop_length,hlen,List.drop_length]⟩,rfl,rfl,rfl⟩ (fun fr C0' L0' m hle0 hI=>?_)
  obtain ⟨k,⟨hk,he⟩,rfl,rfl,rfl⟩:=hI
  refine G.z4 2 0 1 5 20 ?_
  refine G.cd (fun h20=>?_) fun h20=>?_
  ·have hk0:0<k:=by
    have:(0:Int)<=(k:Int)-1:=by simpa using h20
    omega
   obtain ⟨j,rfl⟩:∃ j,k=j+1:=⟨k-1,by omega⟩
   obtain ⟨x,hx⟩:∃ x,a[j]?=some x:=⟨a[j],List.getElem?_eq_getElem om_⟩
   obtain ⟨y,hy⟩:∃ y,b[j]?=some y:=⟨b[j],List.getElem?_eq_getElem om_⟩
   have hrx:(a.map encN)[(((j+1:Nat):Int)-1).toNat]?=some (encN x):=by
    rw [show (((j+1:Nat):Int)-1).toNat=j by omega,List.getElem?_map,hx];rfl
   have hry:(b.map encN)[(((j+1:Nat):Int)-1).toNat]?=some (encN y):=by
    rw [show (((j+1:Nat):Int)-1).toNat=j by omega,List.getElem?_map,hy];rfl
   refine G.aH [0,1,2,3,4,5,6,7,8] [] rfl kr_ (fun R hB hR=>?_)
   refine D.ps 2 ?_
   refine D.ak (ha.mono mup) rfl rfl rfl rfl rfl rfl rfl rfl rfl rfl om_ hrx fl_ (fun p25 hp25=>?_)
   refine D.ac hp25 ?_
   refine D.ps 2 ?_
   refine D.ak (hb.mono mup) rfl rfl rfl rfl rfl rfl rfl rfl rfl rfl om_ hry fl_ (fun p29 hp29=>?_)
   refine D.ac hp29 ?_
   refine D.q4 1 0 1 5 31 hR ?_
   refine G.cd (fun h31=>?_) fun h31=>?_
   ·have hxy:x≠y:=fun e=>by
     subst e;simp at h31
    refine G.aH [0,1,2,3,4,5,6,7,8,9] [] rfl kr_ (fun R hB hR=>?_)
    refine D.ps 2 ?_
    refine D.ak (ha.mono mup) rfl rfl rfl rfl rfl rfl rfl rfl rfl rfl om_ hrx fl_ (fun p34 hp34=>?_)
    refine D.ac hp34 ?_
    refine D.ps 2 ?_
    refine D.ak (hb.mono mup) rfl rfl rfl rfl rfl rfl rfl rfl rfl rfl om_ hry fl_ (fun p38 hp38=>?_)
    refine D.ac hp38 ?_
    refine D.q1 2 4 hR ?_
    refine G.rf ?_
    refine ⟨?_,rfl⟩
    congr 1
    rw [decide_eq_decide]
    rcases Nat.lt_or_ge x y with h | h
    ·have:=atP_lt hca.1 hlen hx hy h he
     constructor
     ·intro _;exact this
     ·intro _;omega
    ·have:=atP_lt hcb.1 hlen.symm hy hx om_ he.symm
     constructor <;> intro _ <;> omega
   ·have hxy:x=y:=by
     have:(x:Int)=y:=by simpa using h31
     omega
    refine G.rp 1 fun R hR=>?_
    refine D.aq _ ?_
    refine D.q3 1 0 1 5 hR ?_
    rw [show ((j+1:Nat):Int)-1-1=(j:Int)-1 by omega]
    refine G.ap (m':=j+1) om_ mup (h_3 0 1 5) ⟨j,⟨by omega,by
     rw [List.drop_eq_getElem_cons (by omega:j<a.length),List.drop_eq_getElem_cons (by omega:j<b.length),he,(List.getElem?_eq_some_iff.1 hx).2,(List.getElem?_eq_some_iff.1 hy).2,hxy]⟩,rfl,rfl,rfl⟩
  ·have hk0:k=0:=by
    have:¬ (0:Int)<=(k:Int)-1:=by simpa using h20
    omega
   subst hk0
   refine G.z1 1 4 ?_
   refine G.rf ?_
   refine ⟨?_,rfl⟩
   have:a=b:=by simpa using he
   subst this
   simp

theorem cutS_step {s:Str}{lo i:Nat}{c:UInt8}(hlo:lo<=i)(hc:s[i]?=some c):decV (cutS s lo (i+1))=10*decV (cutS s lo i)+(c.toNat-48):=by
 have hlt:=(List.getElem?_eq_some_iff.1 hc).1
 have e:cutS s lo (i+1)=cutS s lo i++[c]:=by
  unfold cutS
  rw [List.take_add_one,hc,Option.toList_some,List.drop_append,List.length_take,Nat.min_eq_left om_,show lo-i=0 by omega]
  rfl
 rw [e]
 unfold decV
 rw [List.foldl_append]
 rfl
theorem cutS_nil (s:Str)(lo:Nat):cutS s lo lo=[]:=by
 unfold cutS
 rw [List.drop_eq_nil_iff,List.length_take]
 omega
theorem take_fn (C:Mem)(s:Str)(hs:∀ c∈s,digB c=true)(hl:s.length<=100000):Pur cx.P 157 [strV s] C fun u D=>PieC D u (decV s):=by
 refine Fn.it kr_ Tryz.func157 35 fun w0=>?_
 refine G.z1 1 0 ?_
 refine G.z2 1 0 3 ?_
 refine G.z3 3 0 3 4 ?_
 refine G.nilArr 3 1 ?_
 refine G.loop (fun fr C' L' μ=>∃ (e j:Nat)(ei:Int)(out:List Nat)(w:Value),((ei=e/\e+4*j=s.length∨ei<=0/\e=0)/\-4<=ei/\ei<=100000/\e<=s.length/\out.length=j/\j<=100000/\DigP out/\valP out=decV (s.drop e))/\fr=[(0,[],strV s),(3,[],w),(4,[],.int .i64 ei)]/\L'=[.arr w 3 1 j (out.map encN).flatten]/\μ=e+1) (h_3 0 3 4) ⟨s.length,0,(s.length:Int),[],_,⟨.inl ⟨rfl,rfl⟩,by omega,by omega,Nat.le_refl _,rfl,by omega,(fun x hx=>(by cases hx)),by rw [List.drop_length];rfl⟩,rfl,rfl,rfl⟩ (fun fr C0' L0' m hle0 hI=>?_)
 obtain ⟨e,j,ei,out,w,⟨hei,hem,heM,hes,hol,hjM,hod,hov⟩,rfl,rfl,rfl⟩:=hI
 refine G.z4 2 0 3 4 10 ?_
 refine G.cd (fun h10=>?_) fun h10=>?_
 ·obtain ⟨rfl,hej⟩:ei=e/\e+4*j=s.length:=by
   have h0:0<ei:=by simpa using h10
   rcases hei with h | h
   ·exact h
   ·omega
  have he0:0<e:=by
   have h0:(0:Int)<(e:Int):=by simpa using h10
   omega
  refine G.z4 1 0 3 4 5 ?_
  refine G.rp 1 fun R hR=>?_
  refine D.aq _ ?_
  refine D.max (((e-4:Nat):Int)) rfl rfl rfl rfl rfl rfl om_ rfl rfl ?_
  refine D.q5 1 0 3 4 5 6 hR ?_
  rw [show (Value.int .i64 0)=.int .i64 ((decV (cutS s (e-4) (e-4)):Nat):Int) by rw [cutS_nil];rfl]
  refine G.loop (fun fr C' L' μ=>∃ (i:Nat),(e-4<=i/\i<=e)/\fr=[(0,[],strV s),(3,[],w),(4,[],.int .i64 (e:Int)),(5,[],.int .i64 (decV (cutS s (e-4) i):Nat)),(6,[],.int .i64 i)]/\L'=[.arr w 3 1 j (out.map encN).flatten]/\μ=e-i) (h_5 0 3 4 5 6) ⟨e-4,⟨Nat.le_refl _,by omega⟩,rfl,rfl,rfl⟩ (fun fr C1' L1' m hle1 hI=>?_)
  obtain ⟨i,⟨hi1,hi2⟩,rfl,rfl,rfl⟩:=hI
  refine G.z6 3 0 3 4 5 6 18 ?_
  refine G.cd (fun h18=>?_) fun h18=>?_
  ·have hie:i<e:=by simpa using h18
   obtain ⟨c,hc⟩:∃ c,s[i]?=some c:=⟨s[i]'om_,List.getElem?_eq_getElem _⟩
   have hcd:=hs c (List.mem_of_getElem? hc)
   have hcd2:48<=c.toNat/\c.toNat<=57:=by unfold digB at hcd;simpa using hcd
   have hlt:decV (cutS s (e-4) i)<10000:=cutS_lt hs om_
   refine G.rp 1 fun R hR=>?_
   refine D.cR (((10*decV (cutS s (e-4) i):Nat):Int)) rfl rfl rfl rfl om_ om_ om_ rfl rfl ?_
   refine D.ps 2 ?_
   refine D.be rfl rfl rfl rfl rfl rfl rfl rfl (fun _=>⟨by omega,hc⟩) rfl rfl ?_
   refine D.bT (c:=((c.toNat:Nat):Int)) rfl rfl rfl rfl rfl rfl rfl rfl (by rw [IntKind.wrap_i64];omega) fl_ ?_
   refine D.cR (((10*decV (cutS s (e-4) i)+c.toNat:Nat):Int)) rfl rfl rfl rfl om_ om_ om_ rfl rfl ?_
   refine D.cR (((10*decV (cutS s (e-4) i)+(c.toNat-48):Nat):Int)) rfl rfl rfl rfl om_ om_ om_ rfl rfl ?_
   refine D.q5 1 0 3 4 5 6 hR ?_
   refine G.rp 1 fun R hR=>?_
   refine D.aq _ ?_
   refine D.q5 1 0 3 4 5 6 hR ?_
   rw [<- cutS_step hi1 hc]
   refine G.ap (m':=e-(i+1)) om_ mup (h_5 0 3 4 5 6) ⟨i+1,⟨by omega,by omega⟩,rfl,rfl,rfl⟩
  ·have hie:i=e:=by
    have:¬ i<e:=by simpa using h18
    omega
   subst hie
   refine G.rp 2 fun R hR=>?_
   refine D.af [encN (decV (cutS s (i-4) i))] (fun p31 C31 hle31 hs31=>?_)
   refine D.append (j:=0) rfl rfl rfl rfl rfl rfl rfl rfl rfl rfl rfl hs31 rfl (by simp only [List.length_singleton,maxLen];omega) (by show (j+1)*8<=_;omega) fl_ (fun v32=>?_)
   refine D.q3 1 0 3 4 hR ?_
   refine G.rp 1 fun R hR=>?_
   refine D.aq _ ?_
   refine D.q3 1 0 3 4 hR ?_
   refine G.aM (L':=[.arr v32 3 1 (j+1) ((out++[decV (cutS s (i-4) i)]).map encN).flatten]) (by simp [encN]) ?_
   refine G.ap (m':=i-4+1) om_ mup (h_3 0 3 4) ⟨i-4,j+1,(i:Int)-4,out++[decV (cutS s (i-4) i)],v32,⟨by
    rcases Nat.lt_or_ge i 4 with h | h
    ·exact .inr ⟨by omega,by omega⟩
    ·exact .inl ⟨by omega,by omega⟩,by omega,by omega,by omega,by simp [hol],by omega,hod.snoc (cutS_lt hs om_),take_step hej hol om_ hov⟩,rfl,rfl,rfl⟩
 ·have he0:e=0:=by
   have h0:¬ 0<ei:=by simpa using h10
   rcases hei with h | h
   ·omega
   ·exact h.2
  refine G.aA [(1,3)] rfl (fun R hR=>?_)
  refine D.ae ?_
  refine D.call (cutO_fn _ _ out hol) rfl (.inr (by decide)) rfl rfl rfl rfl rfl rfl (List.Perm.refl _) fl_ (fun v34 C34 L34 hle34 hq34=>?_)
  obtain ⟨rfl,hu⟩:=hq34
  refine D.q1 1 2 hR ?_
  refine G.rf ?_
  refine ⟨rfl,cutP out,cutP_can hod, ?_,hu⟩
  rw [eT,hov,he0,List.drop_zero]

theorem itoaN_g (C:Mem)(hT:Tabs C)(n:Nat)(h:n<=1000000000000000000):Gives cx.P 106 [.int .i64 n] C (strV (decS n)):=by
 have h1:=itoa_g C hT (n:Int) om_ om_
 rwa [itoa_nat] at h1
theorem itoaZ_g (C:Mem)(hT:Tabs C)(z:Int)(h0:-9223372036854775808<=z)(h1:z<=9223372036854775807):Gives cx.P 106 [.int .i64 z] C (strV (txt z)):=by
 have h:=itoa_g C hT z h0 h1
 rwa [itoa_txt] at h
theorem itoaK_g (C:Mem)(hT:Tabs C)(x:Nat)(hx:x<10000):Gives cx.P 106 [.int .i64 (10000+x:Nat)] C (strV (49::padS 4 x)):=by
 have h:=itoaN_g C hT (10000+x) om_
 rwa [tenK hx] at h
theorem dI {n k:Nat}(h:n<10 ^ k)(hk:0<k):(decS n).length<=k:=by
 apply Classical.byContradiction
 intro hn
 have h1:=canS_low (aO n).1 om_
 rw [(aO n).2] at h1
 have h2:10 ^ k<=10 ^ ((decS n).length-1):=Nat.pow_le_pow_right (by decide) om_
 omega
theorem decS_valP_len {l:List Nat}(h:DigP l):(decS (valP l)).length<=4*l.length+1:=by
 refine dI ?_ om_
 have h1:=valP_lt h
 rw [<- pow_BP] at h1
 have h2:10 ^ (4*l.length)<=10 ^ (4*l.length+1):=Nat.pow_le_pow_right (by decide) om_
 omega
theorem gP_row {l:List Nat}{k:Nat}(h:k<l.length):(l.map encN)[k]?=some (encN (gP l k))/\l[k]?=some (gP l k):=by
 have e:l[k]?=some (gP l k):=by
  unfold gP;rw [List.getD_eq_getElem?_getD,List.getElem?_eq_getElem h];rfl
 exact ⟨by rw [List.getElem?_map,e];rfl,e⟩
theorem give_fn (C:Mem)(hT:Tabs C)(v:Value)(l:List Nat)(hv:Sl C 1 v (l.map encN))(hc:CanP l)(hl:l.length<=100000):Gives cx.P 193 [v] C (strV (decS (valP l))):=by
 obtain ⟨A0,c0,rfl,_⟩:=id hv
 simp only [List.length_map] at hv ⊢
 have hd:=hc.1
 refine Fn.it kr_ Tryz.func193 34 fun w0=>?_
 refine G.z1 1 0 ?_
 refine G.z2 3 0 8 ?_
 refine G.cd (fun h8=>?_) fun h8=>?_
 ·have h0:l=[]:=by
   have:(l.length:Int)=0:=by simpa using h8
   exact List.eq_nil_of_length_eq_zero om_
  refine G.z1 1 2 ?_
  refine G.rf ?_
  refine ⟨?_,rfl⟩
  rw [h0,show decS (valP [])=[48] by rw [decS];rfl];rfl
 ·have h0:0<l.length:=by
   have:¬ (l.length:Int)=0:=by simpa using h8
   omega
  have hrl:(l.map encN)[((l.length:Int)-1).toNat]?=some (encN (gP l (l.length-1))):=by rw [show ((l.length:Int)-1).toNat=l.length-1 by omega];exact (gP_row om_).1
  have hgl:gP l (l.length-1)<10000:=gP_lt hd _
  have hdr:valP (l.drop (l.length-1))=gP l (l.length-1):=by
   rw [List.drop_eq_getElem_cons om_,List.drop_of_length_le om_]
   have h1:=(gP_row (l:=l) (k:=l.length-1) om_).2
   rw [(List.getElem?_eq_some_iff.1 h1).2]
   simp [valP]
  have hgp:0<gP l (l.length-1):=by
   have h1:=(gP_row (l:=l) (k:=l.length-1) om_).2
   have h2:=hc.2
   rw [List.getLast?_eq_getElem?,h1] at h2
   rcases Nat.eq_zero_or_pos (gP l (l.length-1)) with h | h
   ·rw [h] at h2;exact absurd rfl h2
   ·exact h
  refine G.rp 3 fun R hR=>?_
  refine D.aq _ ?_
  refine D.ak (hv.mono mup) rfl rfl rfl rfl rfl rfl rfl rfl rfl rfl om_ hrl fl_ (fun p13 hp13=>?_)
  refine D.ac hp13 ?_
  refine D.al (itoaN_g _ (hT.mono mup) (gP l (l.length-1)) om_) rfl rfl rfl rfl rfl rfl rfl fl_ ?_
  refine D.q2 1 0 3 hR ?_
  refine G.rp 2 fun R hR=>?_
  refine D.aq _ ?_
  refine D.q3 1 0 3 4 hR ?_
  rw [show (l.length:Int)-2=((l.length-1:Nat):Int)-1 by omega]
  refine G.loop (fun fr C' L' μ=>∃ (k:Nat)(o:Str),(k<l.length/\CanS o/\decV o=valP (l.drop k)/\0<decV o/\o.length<=25+4*(l.length-k))/\fr=[(0,[],.slice A0 l.length c0),(3,[],strV o),(4,[],.int .i64 ((k:Int)-1))]/\L'=[]/\μ=k+1) (h_3 0 3 4) ⟨l.length-1,decS (gP l (l.length-1)),⟨by omega,(aO _).1,by rw [(aO _).2,hdr],by rw [(aO _).2];exact hgp,by
   have h2:=dI (k:=4) (n:=gP l (l.length-1)) hgl om_
   omega⟩,rfl,rfl,rfl⟩ (fun fr C0' L0' m hle0 hI=>?_)
  obtain ⟨k,o,⟨hk,hoc,hov,ho0,hol⟩,rfl,rfl,rfl⟩:=hI
  refine G.z4 2 0 3 4 20 ?_
  refine G.cd (fun h20=>?_) fun h20=>?_
  ·have hk0:0<k:=by
    have:(0:Int)<=(k:Int)-1:=by simpa using h20
    omega
   obtain ⟨j,rfl⟩:∃ j,k=j+1:=⟨k-1,by omega⟩
   rw [show ((j+1:Nat):Int)-1=(j:Int) by omega]
   obtain ⟨hrj,hgj⟩:=gP_row (l:=l) (k:=j) om_
   have hx:=gP_lt hd j
   have hx2:gP l j<10000:=hx
   have hpl:=(padS_ok 4 (gP l j) hx).1
   refine G.rp 2 fun R hR=>?_
   refine D.ak (hv.mono mup) rfl rfl rfl rfl rfl rfl rfl rfl rfl rfl om_ hrj fl_ (fun p25 hp25=>?_)
   refine D.ac hp25 ?_
   refine D.cR (((10000+gP l j:Nat):Int)) rfl rfl rfl rfl om_ om_ om_ rfl rfl ?_
   refine D.aj (itoaK_g _ (hT.mono mup) _ hx2) ?_
   refine D.q4 1 0 3 4 5 hR ?_
   refine G.rp 2 fun R hR=>?_
   refine D.bG 1 (49::padS 4 (gP l j)).length rfl rfl rfl rfl rfl rfl rfl rfl rfl (fun _=>⟨.inr ⟨_,rfl⟩,.inl ⟨rfl,rfl⟩,.inl ⟨rfl,rfl⟩,by simp,Nat.le_refl _,Nat.le_refl _⟩) rfl rfl ?_
   refine D.dr rfl rfl rfl rfl rfl rfl (fun _=>(by simp only [List.length_drop,List.length_take,List.length_cons];omega)) rfl rfl ?_
   refine D.q3 1 0 3 4 hR ?_
   refine G.rp 1 fun R hR=>?_
   refine D.aq _ ?_
   refine D.q3 1 0 3 4 hR ?_
   rw [List.take_length,List.drop_one,List.tail_cons]
   obtain ⟨g1,g2,g3⟩:=give_step hd hgj hoc hov ho0
   refine G.ap (m':=j+1) om_ mup (h_3 0 3 4) ⟨j,o++padS 4 (gP l j),⟨by omega,g1,g2,g3,by rw [List.length_append,hpl];omega⟩,rfl,rfl,rfl⟩
  ·have hk0:k=0:=by
    have:¬ (0:Int)<=(k:Int)-1:=by simpa using h20
    omega
   subst hk0
   refine G.z1 2 2 ?_
   refine G.rf ?_
   refine ⟨?_,rfl⟩
   rw [canS_dec hoc,hov,List.drop_zero]
def sgZ (m:Bool)(n:Nat):Int:=if m then -(n:Int) else n
theorem txt_sg (m:Bool)(n:Nat)(h:m=true->0<n):txt (sgZ m n)=if m then 45::decS n else decS n:=by
 unfold txt sgZ
 cases m with
 | false=>simp
 | true=>have:=h rfl;simp;omega
theorem made_fn (C:Mem)(hT:Tabs C)(m:Bool)(v:Value)(l:List Nat)(hv:Sl C 1 v (l.map encN))(hd:DigP l)(hl:l.length<=100000):Gives cx.P 159 [.bool m,v] C (strV (txt (sgZ m (valP l)))):=by
 have hcc:=cutP_can hd
 have hcl:(cutP l).length<=100000:=by unfold cutP;rw [List.length_take];omega
 have hnil:(cutP l).length=0 ↔ valP l=0:=by rw [<- eT,canP_nil hcc,List.length_eq_zero_iff]
 refine Fn.it kr_ Tryz.func159 18 fun w0=>?_
 refine G.z2 1 0 1 ?_
 refine G.rp 1 fun R hR=>?_
 refine D.aS (cut_p_fn _ _ l hv) (fun v6 C6 hle6 hq6=>?_)
 obtain ⟨A1,c1,rfl,_⟩:=id hq6
 rw [List.length_map] at hq6
 rw [List.length_map]
 refine D.q2 1 0 1 hR ?_
 refine G.rp 5 fun R hR=>?_
 refine D.au ?_
 refine D.e2 1 12 hR ?_
 refine G.cd (fun h12=>?_) fun h12=>?_
 ·have hm:m=true/\0<valP l:=by
   simp at h12
   refine ⟨h12.1, ?_⟩
   have h2:=h12.2
   rcases Nat.eq_zero_or_pos (valP l) with h | h
   ·have:=hnil.2 h;omega
   ·exact h
  refine G.rp 1 fun R hR=>?_
  refine D.aj (give_fn _ (hT.mono mup) _ (cutP l) (hq6.mono mup) hcc hcl) ?_
  refine D.dr rfl rfl rfl rfl rfl rfl (fun _=>(by have:=decS_valP_len hcc.1;simp only [List.length_cons,List.length_nil];omega)) rfl rfl ?_
  refine D.q1 1 4 hR ?_
  refine G.rf ?_
  refine ⟨?_,rfl⟩
  rw [txt_sg m _ (fun _=>hm.2),if_pos hm.1,eT];rfl
 ·have hm:m=true->valP l=0:=fun h=>by
   rcases Nat.eq_zero_or_pos (cutP l).length with h0 | h0
   ·exact hnil.1 h0
   ·exfalso
    have h1:decide ((0:Int)<((cutP l).length:Nat))=true:=decide_eq_true om_
    rw [h,h1] at h12
    cases h12
  refine G.rp 1 fun R hR=>?_
  refine D.aj (give_fn _ (hT.mono mup) _ (cutP l) (hq6.mono mup) hcc hcl) ?_
  refine D.q1 1 4 hR ?_
  refine G.rf ?_
  refine ⟨?_,rfl⟩
  rw [eT]
  congr 1
  cases m with
  | false=>rw [txt_sg false _ (fun h=>by cases h)];rfl
  | true=>rw [hm rfl];rfl

def gI (p:List Int)(i:Nat):Int:=p.getD i 0
theorem gI_row {p:List Int}{k:Nat}(h:k<p.length):(p.map encI)[k]?=some (encI (gI p k))/\p[k]?=some (gI p k):=by
 have e:p[k]?=some (gI p k):=by
  unfold gI;rw [List.getD_eq_getElem?_getD,List.getElem?_eq_getElem h];rfl
 exact ⟨by rw [List.getElem?_map,e];rfl,e⟩
theorem gI_out {p:List Int}{k:Nat}(h:p.length<=k):gI p k=0:=by
 unfold gI;rw [List.getD_eq_getElem?_getD,List.getElem?_eq_none h];rfl
theorem valI_tk (p:List Int)(k:Nat):valI (p.take (k+1))=valI (p.take k)+(10000:Int) ^ k*gI p k:=by
 rcases Nat.lt_or_ge k p.length with h | h
 ·exact valI_take (gI_row h).2
 ·rw [gI_out h,List.take_of_length_le h,List.take_of_length_le om_];simp
theorem quo_exact (o:Int):(o-o % 10000).tdiv 10000=(o-o % 10000) / 10000:=Int.tdiv_eq_ediv_of_dvd (Int.dvd_of_emod_eq_zero om_)
theorem carry_fn (C:Mem)(v:Value)(p:List Int)(hv:Sl C 1 v (p.map encI))(hpos:0<=valI p)(hb:∀ x∈p, -1000000000000<=x/\x<=1000000000000)(hl:p.length<=100000):Pur cx.P 192 [v] C fun u D=>PieC D u (valI p).toNat:=by
 obtain ⟨A0,c0,rfl,_⟩:=id hv
 simp only [List.length_map] at hv ⊢
 refine Fn.it kr_ Tryz.func192 43 fun w0=>?_
 refine G.z1 1 0 ?_
 refine G.z2 1 0 3 ?_
 refine G.z3 1 0 3 4 ?_
 refine G.z4 1 0 3 4 5 ?_
 refine G.nilArr 3 1 ?_
 refine G.loop (fun fr C' L' μ=>∃ (i:Nat)(o:Int)(out:List Nat)(w:Value),(out.length=i/\DigP out/\-1000000000000<=o/\o<=1000000000000/\valI (p.take i)=(valP out:Nat)+(10000:Int) ^ i*o/\(p.length<=i->(i:Int)+o<=1000000100000))/\fr=[(0,[],.slice A0 p.length c0),(3,[],w),(4,[],.int .i64 o),(5,[],.int .i64 i)]/\L'=[.arr w 3 1 i (out.map encN).flatten]/\μ=(p.length-i)*4611686018427387904+o.natAbs) (h_4 0 3 4 5) ⟨0,0,[],_,⟨rfl,(fun x hx=>(by cases hx)),by omega,by omega,by simp [valI,valP],fun h=>by omega⟩,rfl,rfl,rfl⟩ (fun fr C0' L0' m hle0 hI=>?_)
 obtain ⟨i,o,out,w,⟨hol,hod,ho1,ho2,hov,hi2⟩,rfl,rfl,rfl⟩:=hI
 have hopos:p.length<=i->0<=o:=fun h=>by
  refine over_pos hol hod (V:=valI p) hpos ?_
  rw [<- hov,List.take_of_length_le h]
 have hiM:(i:Int)<=1000000100000:=by
  rcases Nat.lt_or_ge i p.length with h | h
  ·omega
  ·have:=hopos h;have:=hi2 h;omega
 refine G.rp 7 fun R hR=>?_
 refine D.aG rfl rfl rfl rfl rfl rfl rfl rfl ?_
 refine D.e5 0 3 4 5 14 hR ?_
 refine G.cd (fun h14=>?_) fun h14=>?_
 ·have hgo:i<p.length∨o≠0:=by
   simp at h14
   omega
  have hgb:-1000000000000<=gI p i/\gI p i<=1000000000000:=by
   rcases Nat.lt_or_ge i p.length with h | h
   ·exact hb _ (List.mem_of_getElem? (gI_row h).2)
   ·rw [gI_out h];omega
  refine G.z5 4 0 3 4 5 20 ?_
  refine G.bW (fun fr C' L' μ=>(True)/\fr=[(0,[],.slice A0 p.length c0),(3,[],w),(4,[],.int .i64 (o+gI p i)),(5,[],.int .i64 i)]/\L'=[.arr w 3 1 i (out.map encN).flatten]) ?_ (fun fr C20 L20 μ hle20 hI=>?_)
  ·refine G.cd (fun h20=>?_) fun h20=>?_
   ·have hil:i<p.length:=by simpa using h20
    refine G.rp 3 fun R hR=>?_
    refine D.ak (hv.mono mup) rfl rfl rfl rfl rfl rfl rfl rfl rfl rfl om_ (gI_row hil).1 fl_ (fun p24 hp24=>?_)
    refine D.ac hp24 ?_
    refine D.aq _ ?_
    refine D.q4 1 0 3 4 5 hR ?_
    refine G.ar 0 (Mem.le.refl _) (h_4 0 3 4 5) ⟨trivial,rfl,rfl⟩
   ·have hil:p.length<=i:=by
     have:¬ i<p.length:=by simpa using h20
     omega
    rw [show o=o+gI p i by rw [gI_out hil,Int.add_zero]]
    refine G.ar 0 (Mem.le.refl _) (h_4 0 3 4 5) ⟨trivial,by rw [gI_out hil];simp,rfl⟩
  ·obtain ⟨_,rfl,rfl⟩:=hI
   refine G.rp 1 fun R hR=>?_
   refine D.remT (Int.tmod (o+gI p i) 10000) rfl rfl rfl rfl rfl rfl om_ rfl rfl rfl ?_
   refine D.q5 1 0 3 4 5 6 hR ?_
   have hrp:=rest_pos (o+gI p i)
   have htm:-10000<=Int.tmod (o+gI p i) 10000/\Int.tmod (o+gI p i) 10000<10000:=by
    have:=Int.emod_nonneg (o+gI p i) (show (10000:Int)≠0 by decide)
    have:=Int.emod_lt_of_pos (o+gI p i) (show (0:Int)<10000 by decide)
    split at hrp <;> omega
   refine G.z6 2 0 3 4 5 6 30 ?_
   refine G.bW (fun fr C' L' μ=>(True)/\fr=[(0,[],.slice A0 p.length c0),(3,[],w),(4,[],.int .i64 (o+gI p i)),(5,[],.int .i64 i),(6,[],.int .i64 (((o+gI p i) % 10000).toNat:Nat))]/\L'=[.arr w 3 1 i (out.map encN).flatten]) ?_ (fun fr C30 L30 μ hle30 hI=>?_)
   ·refine G.cd (fun h30=>?_) fun h30=>?_
    ·have hneg:Int.tmod (o+gI p i) 10000<0:=by simpa using h30
     rw [if_pos hneg] at hrp
     refine G.rp 1 fun R hR=>?_
     refine D.cR (((((o+gI p i) % 10000).toNat:Nat):Int)) rfl rfl rfl rfl om_ om_ om_ rfl rfl ?_
     refine D.q5 1 0 3 4 5 6 hR ?_
     refine G.ar 0 (Mem.le.refl _) (h_5 0 3 4 5 6) ⟨trivial,rfl,rfl⟩
    ·have hneg:¬ Int.tmod (o+gI p i) 10000<0:=by simpa using h30
     rw [if_neg hneg] at hrp
     rw [show Int.tmod (o+gI p i) 10000=((((o+gI p i) % 10000).toNat:Nat):Int) by omega]
     refine G.ar 0 (Mem.le.refl _) (h_5 0 3 4 5 6) ⟨trivial,rfl,rfl⟩
   ·obtain ⟨_,rfl,rfl⟩:=hI
    refine G.rp 2 fun R hR=>?_
    refine D.af [encN (((o+gI p i) % 10000).toNat)] (fun p35 C35 hle35 hs35=>?_)
    refine D.append (j:=0) rfl rfl rfl rfl rfl rfl rfl rfl rfl rfl rfl hs35 rfl (by simp only [List.length_singleton,maxLen];omega) (by show (i+1)*8<=_;omega) fl_ (fun v36=>?_)
    refine D.q5 1 0 3 4 5 6 hR ?_
    refine G.rp 2 fun R hR=>?_
    refine D.cR ((o+gI p i-(o+gI p i) % 10000)) rfl rfl rfl rfl om_ om_ om_ rfl rfl ?_
    refine D.quoT ((o+gI p i-(o+gI p i) % 10000) / 10000) rfl rfl rfl rfl rfl rfl om_ (quo_exact _) (by rw [IntKind.wrap_i64];omega) rfl rfl ?_
    refine D.q4 1 0 3 4 5 hR ?_
    refine G.rp 1 fun R hR=>?_
    refine D.aq _ ?_
    refine D.q4 1 0 3 4 5 hR ?_
    have hm:(p.length-(i+1))*4611686018427387904+((o+gI p i-(o+gI p i) % 10000) / 10000).natAbs<(p.length-i)*4611686018427387904+o.natAbs:=by
     rcases Nat.lt_or_ge i p.length with h2 | h2
     ·omega
     ·have h3:=hopos h2
      rw [gI_out h2]
      omega
    refine G.aM (L':=[.arr v36 3 1 (i+1) ((out++[((o+gI p i) % 10000).toNat]).map encN).flatten]) (by simp [encN]) ?_
    refine G.ap (m':=(p.length-(i+1))*4611686018427387904+((o+gI p i-(o+gI p i) % 10000) / 10000).natAbs) om_ mup (h_4 0 3 4 5) ⟨i+1,(o+gI p i-(o+gI p i) % 10000) / 10000,out++[((o+gI p i) % 10000).toNat],v36,⟨by simp [hol],hod.snoc (by show ((o+gI p i) % 10000).toNat<10000;omega),by omega,by omega,by
     refine carry_one hol ?_
     rw [valI_tk,hov,Int.mul_add]
     omega,fun h=>by
     rcases Nat.lt_or_ge i p.length with h2 | h2
     ·omega
     ·have h3:=hopos h2
      have h4:=hi2 h2
      rw [gI_out h2] at *
      omega⟩,rfl,rfl,rfl⟩
 ·have hgo:p.length<=i/\o=0:=by
   simp at h14
   omega
  refine G.aA [(1,3)] rfl (fun R hR=>?_)
  refine D.ae ?_
  refine D.call (cutO_fn _ _ out hol) rfl (.inr (by decide)) rfl rfl rfl rfl rfl rfl (List.Perm.refl _) fl_ (fun v42 C42 L42 hle42 hq42=>?_)
  obtain ⟨rfl,hu⟩:=hq42
  refine D.q1 1 2 hR ?_
  refine G.rf ?_
  refine ⟨rfl,cutP out,cutP_can hod, ?_,hu⟩
  rw [List.take_of_length_le hgo.1,hgo.2] at hov
  rw [eT]
  omega

theorem valI_set:∀ (l:List Int)(i:Nat)(x:Int),i<l.length->valI (l.set i x)=valI l+(10000:Int) ^ i*(x-gI l i)
 | [],i,x,h=>by simp at h
 | a::l,0,x,_=>by
  show x+10000*valI l=a+10000*valI l+1*(x-a)
  omega
 | a::l,i+1,x,h=>by
  have ih:=valI_set l i x (by simpa using h)
  show a+10000*valI (l.set i x)=a+10000*valI l+(10000:Int) ^ (i+1)*(x-gI l i)
  rw [ih,Int.mul_add,<- Int.mul_assoc,Int.pow_succ,Int.mul_comm ((10000:Int) ^ i) 10000]
  omega
theorem valI_zero (l:List Int):valI (l++[0])=valI l:=by rw [valI_snoc];omega
structure Joins (p q:List Nat)(k:Int)(i:Nat)(o:List Int):Prop where
 len:o.length=max p.length i
 val:valI o=(valP p:Nat)+k*(valP (q.take i):Nat)
 rest:∀ j,i<=j->gI o j=(gP p j:Nat)
 lim:∀ x∈o, -100000000<=x/\x<=100000000
theorem gI_nat (p:List Nat)(j:Nat):gI (p.map fun x:Nat=>(x:Int)) j=(gP p j:Nat):=by
 unfold gI gP
 rw [List.getD_eq_getElem?_getD,List.getD_eq_getElem?_getD,List.getElem?_map]
 cases p[j]? <;> rfl
theorem joins_start (p q:List Nat)(k:Int)(hp:DigP p):Joins p q k 0 (p.map fun x:Nat=>(x:Int)):=by
 refine ⟨by simp,by rw [valI_nat];simp [valP],fun j _=>gI_nat p j,fun x hx=>?_⟩
 obtain ⟨y,hy,rfl⟩:=List.mem_map.1 hx
 have:y<10000:=hp y hy
 omega
theorem Joins.zero {p q:List Nat}{k:Int}{i:Nat}{o:List Int}(h:Joins p q k i o)(hl:o.length<=i):valI (o++[0])=(valP p:Nat)+k*(valP (q.take i):Nat)/\(∀ j,i<=j->gI (o++[0]) j=(gP p j:Nat))/\(∀ x∈o++[0], -100000000<=x/\x<=100000000):=by
 refine ⟨by rw [valI_zero,h.val],fun j hj=>?_,fun x hx=>?_⟩
 ·have h1:=h.rest j hj
  have h2:gI o j=0:=by unfold gI;rw [List.getD_eq_getElem?_getD,List.getElem?_eq_none om_];rfl
  rw [<- h1,h2]
  unfold gI
  rw [List.getD_eq_getElem?_getD,List.getElem?_append_right om_]
  cases j-o.length <;> rfl
 ·rcases List.mem_append.1 hx with h1 | h1
  ·exact h.lim x h1
  ·simp at h1;subst h1;omega
theorem gI_set_ne {o:List Int}{i j:Nat}{x:Int}(h:i≠j):gI (o.set i x) j=gI o j:=by
 unfold gI
 rw [List.getD_eq_getElem?_getD,List.getD_eq_getElem?_getD,List.getElem?_set_ne h]
theorem joins_step {p q:List Nat}{k:Int}{i y:Nat}{o:List Int}(hp:DigP p)(hq:DigP q)(hk:-9999<=k/\k<=9999)(hy:q[i]?=some y)(hlen:o.length=max p.length (i+1))
  (hv:valI o=(valP p:Nat)+k*(valP (q.take i):Nat)) (hr:∀ j,i<=j->gI o j=(gP p j:Nat)) (hm:∀ x∈o, -100000000<=x/\x<=100000000) :
  Joins p q k (i+1) (o.set i (gI o i+k*(y:Nat))):=by
 have hy1:y<10000:=hq y (List.mem_of_getElem? hy)
 have hg:gP p i<10000:=gP_lt hp i
 have hmul:-99980001<=k*(y:Int)/\k*(y:Int)<=99980001:=by
  have h0:(0:Int)<=y:=by omega
  have h1:k*(y:Int)<=9999*(y:Int):=Int.mul_le_mul_of_nonneg_right hk.2 h0
  have h2:(-9999:Int)*(y:Int)<=k*(y:Int):=Int.mul_le_mul_of_nonneg_right hk.1 h0
  omega
 refine ⟨by rw [List.length_set];exact hlen, ?_,fun j hj=>?_,fun x hx=>?_⟩
 ·rw [valI_set o i _ om_,hv,valP_take hy]
  have e:((valP (q.take i)+BP ^ i*y:Nat):Int)=(valP (q.take i):Nat)+(10000:Int) ^ i*(y:Int):=by
   rw [Int.natCast_add,Int.natCast_mul,Int.natCast_pow];rfl
  rw [e,Int.mul_add,show gI o i+k*(y:Int)-gI o i=k*(y:Int) by omega,Int.mul_left_comm]
  omega
 ·rw [gI_set_ne om_];exact hr j om_
 ·rcases List.mem_or_eq_of_mem_set hx with h1 | h1
  ·exact hm x h1
  ·subst h1
   rw [hr i (Nat.le_refl _)]
   omega
theorem gI_someI {p:List Int}{k:Nat}(h:k<p.length):p[k]?=some (gI p k):=by
 unfold gI;rw [List.getD_eq_getElem?_getD,List.getElem?_eq_getElem h];rfl
theorem canP_short {l:List Nat}(h:CanP l){m:Nat}(hv:valP l<BP ^ m):l.length<=m:=by
 apply Classical.byContradiction
 intro hn
 have h1:=canP_low h om_
 have h2:BP ^ m<=BP ^ (l.length-1):=Nat.pow_le_pow_right (by decide) om_
 omega
theorem encI_len (x:Int):(encI x).length=1:=rfl
theorem dH (x:Nat):(encN x).length=1:=rfl
theorem carryO_fn (C:Mem)(v:Value)(p:List Int){n:Nat}(hn:p.length=n)(hpos:0<=valI p)(hb:∀ x∈p, -1000000000000<=x/\x<=1000000000000)(hl:p.length<=100000):Jog.Fn cx.P 192 [v] C [.arr v 3 1 n (p.map encI).flatten] fun u C' L'=>L'=[]/\PieC C' u (valI p).toNat :=
 Jog.Fn.give (p.map encI) kr_ (by intro r hr;obtain ⟨y,_,rfl⟩:=List.mem_map.1 hr;rfl) (by rw [List.length_map,hn]) (fun C' _ hs=>carry_fn C' v p hs hpos hb hl)
theorem joined_fn (C:Mem)(vp vq:Value)(p q:List Nat)(k:Int)(hp:Sl C 1 vp (p.map encN))(hq:Sl C 1 vq (q.map encN))(hdp:DigP p)(hdq:DigP q)(hk:-9999<=k/\k<=9999)(hpos:0<=(valP p:Int)+k*(valP q:Int))(hlp:p.length<=50000)(hlq:q.length<=50000) :
  Pur cx.P 158 [vp,vq,.int .i64 k,.int .i64 0] C fun u D=>PieC D u ((valP p:Int)+k*(valP q:Int)).toNat:=by
 obtain ⟨A0,c0,rfl,_⟩:=id hq
 simp only [List.length_map] at hq ⊢
 refine Fn.it kr_ Tryz.func158 45 fun w0=>?_
 refine G.z4 1 0 1 2 3 ?_
 refine G.rg fun R hR=>?_
 refine D.bw [] rfl rfl rfl rfl rfl rfl rfl rfl rfl rfl rfl rfl fl_ (fun b11=>?_)
 refine D.ae ?_
 refine D.append (j:=0) rfl rfl rfl rfl rfl rfl rfl rfl rfl rfl rfl hp (by rw [List.all_eq_true];intro r hr;obtain ⟨y,_,rfl⟩:=List.mem_map.1 hr;rfl) (by rw [List.length_map];simp only [List.length_nil,maxLen];omega) (by rw [List.length_map];show (0+p.length)*8<=_;omega) fl_ (fun v13=>?_)
 refine D.q4 1 1 2 3 9 hR ?_
 refine G.z5 1 1 2 3 9 10 ?_
 refine G.aM (L':=[.arr v13 3 1 (p.map fun x:Nat=>(x:Int)).length (((p.map fun x:Nat=>(x:Int)).map encI).flatten)]) (by rw [List.map_map];simp;rfl) ?_
 refine G.loop (fun fr C' L' μ=>∃ (i:Nat)(o:List Int)(w:Value),(i<=q.length/\Joins p q k i o)/\fr=[(1,[],.slice A0 q.length c0),(2,[],.int .i64 k),(3,[],.int .i64 0),(9,[],w),(10,[],.int .i64 i)]/\L'=[.arr w 3 1 o.length (o.map encI).flatten]/\μ=q.length-i) (h_5 1 2 3 9 10) ⟨0,_,_,⟨Nat.zero_le _,joins_start p q k hdp⟩,rfl,rfl,rfl⟩ (fun fr C0' L0' m hle0 hI=>?_)
 obtain ⟨i,o,w,⟨hi,hJ⟩,rfl,rfl,rfl⟩:=hI
 refine G.z6 4 1 2 3 9 10 17 ?_
 refine G.cd (fun h17=>?_) fun h17=>?_
 ·have hil:i<q.length:=by simpa using h17
  have hol:=hJ.len
  refine G.loop (fun fr C' L' μ=>∃ (o2:List Int)(w2:Value),((o2=o∨(o2=o++[0]/\o.length<=i)))/\fr=[(1,[],.slice A0 q.length c0),(2,[],.int .i64 k),(3,[],.int .i64 0),(9,[],w2),(10,[],.int .i64 i)]/\L'=[.arr w2 3 1 o2.length (o2.map encI).flatten]/\μ=i+1-o2.length) (h_5 1 2 3 9 10) ⟨o,w,.inl rfl,rfl,rfl,rfl⟩ (fun fr C1' L1' m hle1 hI=>?_)
  obtain ⟨o2,w2,ho2,rfl,rfl,rfl⟩:=hI
  refine G.fh 0 rfl (fun Aw cw he=>?_)
  subst he
  have ho2l:o2.length<=50002:=by
   have h1:o2.length<=o.length+1:=by
    have h2:=ho2.imp (fun e=>congrArg List.length e) (fun e=>congrArg List.length e.1)
    rw [List.length_append,List.length_singleton] at h2
    omega
   omega
  refine G.rp 4 fun R hR=>?_
  refine D.cR (((i:Nat):Int)) rfl rfl rfl rfl om_ om_ om_ rfl rfl ?_
  refine D.q6 1 1 2 3 9 10 25 hR ?_
  refine G.cd (fun h25=>?_) fun h25=>?_
  ·have hle2:o2.length<=i:=by
    have:(o2.length:Int)<=i:=by simpa using h25
    omega
   have ho3:o2=o:=by
    refine ho2.elim id fun h=>?_
    have:=h.1 ▸ hle2
    rw [List.length_append,List.length_singleton] at this
    omega
   subst ho3
   refine G.rp 1 fun R hR=>?_
   refine D.af [encI 0] (fun p27 C27 hle27 hs27=>?_)
   refine D.append (j:=0) rfl rfl rfl rfl rfl rfl rfl rfl rfl rfl rfl hs27 rfl (by simp only [List.length_singleton,maxLen];omega) (by show (o2.length+1)*8<=_;omega) fl_ (fun v28=>?_)
   refine D.q5 1 1 2 3 9 10 hR ?_
   refine G.aM (L':=[.arr v28 3 1 (o2++[0]).length ((o2++[0]).map encI).flatten]) (by simp [encI]) ?_
   have hm1:i+1-(o2++[0]).length<i+1-o2.length:=by rw [List.length_append,List.length_singleton];omega
   refine G.ap (m':=i+1-(o2++[0]).length) om_ mup (h_5 1 2 3 9 10) ⟨o2++[0],v28,.inr ⟨rfl,hle2⟩,rfl,rfl,rfl⟩
  ·have hlt:i<o2.length:=by
    have:¬ (o2.length:Int)<=i:=by simpa using h25
    omega
   have hfacts:o2.length=max p.length (i+1)/\valI o2=(valP p:Nat)+k*(valP (q.take i):Nat)/\(∀ j,i<=j->gI o2 j=(gP p j:Nat))/\(∀ x∈o2, -100000000<=x/\x<=100000000):=by
    refine ho2.elim (fun h=>?_) fun h=>?_
    ·subst h
     exact ⟨by omega,hJ.val,hJ.rest,hJ.lim⟩
    ·obtain ⟨h1,h2⟩:=h
     subst h1
     have h3:=hJ.zero h2
     exact ⟨by rw [List.length_append,List.length_singleton];omega,h3⟩
   obtain ⟨hlen,hv2,hr2,hm2⟩:=hfacts
   obtain ⟨hrq,hgq⟩:=gP_row (l:=q) (k:=i) hil
   have hgl:gP q i<10000:=gP_lt hdq i
   have hmul:-99980001<=k*((gP q i:Nat):Int)/\k*((gP q i:Nat):Int)<=99980001:=by
    have h0:(0:Int)<=((gP q i:Nat):Int):=by omega
    have h1:k*((gP q i:Nat):Int)<=9999*((gP q i:Nat):Int):=Int.mul_le_mul_of_nonneg_right hk.2 h0
    have h2:(-9999:Int)*((gP q i:Nat):Int)<=k*((gP q i:Nat):Int):=Int.mul_le_mul_of_nonneg_right hk.1 h0
    omega
   have hgo:=hm2 _ (List.mem_of_getElem? (gI_someI hlt))
   refine G.rowForm 0 (m:=o2.length-1) (v:=.slice Aw o2.length cw) (t:=3) (s:=1) (xs:=(o2.map encI).flatten) (by rw [show o2.length-1+1=o2.length by omega];rfl) (fun g0 cc hgc=>?_)
   injection hgc with hgc1 hgc2 hgc3
   subst hgc1 hgc3
   refine G.aH [0,1,2,3,4,5,6,7,8,9,10,11,12,13,14] [] rfl kr_ (fun R hB hR=>?_)
   refine D.ps 3 ?_
   refine D.cR (((i:Nat):Int)) rfl rfl rfl rfl om_ om_ om_ rfl rfl ?_
   refine D.aD (i*1) rfl rfl rfl rfl rfl rfl rfl rfl rfl rfl (fun _=>⟨by omega,by omega,rfl⟩) rfl rfl ?_
   refine D.aT (.head _) rfl rfl rfl rfl rfl rfl (fun _=>(by rw [bU encI_len (gI_someI hlt)];rfl)) rfl rfl ?_
   refine D.ps 3 ?_
   refine D.ak (hq.mono mup) rfl rfl rfl rfl rfl rfl rfl rfl rfl rfl om_ hrq fl_ (fun p38 hp38=>?_)
   refine D.ac hp38 ?_
   refine D.aq _ ?_
   refine D.aq _ ?_
   refine D.aD (i*1) rfl rfl rfl rfl rfl rfl rfl rfl rfl rfl (fun _=>⟨by omega,by omega,rfl⟩) rfl rfl ?_
   refine D.aE (j:=0) rfl rfl rfl rfl rfl rfl rfl rfl rfl rfl rfl (by show i*1+1<=_;rw [aW encI_len];omega) ?_
   refine D.e5 1 2 3 9 10 hR ?_
   refine G.rp 1 fun R hR=>?_
   refine D.aq _ ?_
   refine D.q5 1 1 2 3 9 10 hR ?_
   refine G.aM (L':=[.arr (.slice (some ⟨g0,0,none⟩) o2.length cw) 3 1 (o2.set i (gI o2 i+k*((gP q i:Nat):Int))).length ((o2.set i (gI o2 i+k*((gP q i:Nat):Int))).map encI).flatten]) (by rw [<- aL encI_len _ hlt,List.length_set];rfl) ?_
   refine G.ap (m':=q.length-(i+1)) om_ mup (h_5 1 2 3 9 10) ⟨i+1,_,_,⟨by omega,joins_step hdp hdq hk hgq hlen hv2 hr2 hm2⟩,rfl,rfl,rfl⟩
 ·have hil:i=q.length:=by
   have:¬ i<q.length:=by simpa using h17
   omega
  have hval:valI o=(valP p:Int)+k*(valP q:Int):=by rw [hJ.val,hil,List.take_length]
  refine G.aA [(1,3)] rfl (fun R hR=>?_)
  refine D.ae ?_
  refine D.call (carryO_fn _ _ o rfl (by rw [hval];exact hpos) (fun x hx=>by have:=hJ.lim x hx;omega) (by have:=hJ.len;omega)) rfl (.inr (by decide)) rfl rfl rfl rfl rfl rfl (List.Perm.refl _) fl_ (fun v44 C44 L44 hle44 hq44=>?_)
  obtain ⟨rfl,hu⟩:=hq44
  refine D.q1 1 8 hR ?_
  refine G.rf ?_
  rw [hval] at hu
  exact ⟨rfl,hu⟩

theorem zrow_N (n:Nat):zrow ([.int .i64 0]:List Value) n=((List.replicate n 0).map encN).flatten:=by
 rw [bR,List.map_replicate];rfl
theorem valP_drop {l:List Nat}{j:Nat}(h:j<l.length):valP (l.drop j)=gP l j+BP*valP (l.drop (j+1)):=by
 rw [List.drop_eq_getElem_cons h,(List.getElem?_eq_some_iff.1 (gP_row h).2).2];rfl
theorem valP_set_drop {l:List Nat}{j x:Nat}(h:j<l.length):valP ((l.set j x).drop j)=x+BP*valP (l.drop (j+1)):=by
 rw [valP_drop (by rw [List.length_set];exact h),List.drop_set_of_lt om_]
 congr 1
 unfold gP
 rw [List.getD_eq_getElem?_getD,List.getElem?_set_self h];rfl
theorem digP_set {l:List Nat}(h:DigP l){j x:Nat}(hx:x<BP):DigP (l.set j x):=fun y hy=>by
 rcases List.mem_or_eq_of_mem_set hy with h1 | h1
 ·exact h y h1
 ·rw [h1];exact hx
theorem parts_fn (C:Mem)(vp vq:Value)(p q:List Nat)(hp:Sl C 1 vp (p.map encN))(hq:Sl C 1 vq (q.map encN))(hdp:DigP p)(hcq:CanP q)(hQ:0<valP q)(hlp:p.length<=10000)(hlq:q.length<=10000) :
  Pur cx.P 156 [vp,vq] C fun u D=>∃ u1 u2,u=.tuple #[u1,u2]/\PieC D u1 (valP p / valP q)/\PieC D u2 (valP p % valP q):=by
 obtain ⟨A0,c0,rfl,_⟩:=id hp
 obtain ⟨B0,d0,rfl,_⟩:=id hq
 simp only [List.length_map] at hp hq ⊢
 refine Fn.it kr_ Tryz.func156 58 fun w0=>?_
 refine G.z2 2 0 1 ?_
 refine G.rp 2 fun R hR=>?_
 refine D.bu rfl rfl rfl rfl rfl rfl rfl rfl rfl (Nat.le_refl _) (by show 8*p.length<=281474976710656;omega) (by simp only [maxLen];omega) fl_ (fun b14=>?_)
 refine D.q3 1 0 1 6 hR ?_
 refine G.z4 1 0 1 6 7 ?_
 refine G.rp 2 fun R hR=>?_
 refine D.aq _ ?_
 refine D.q5 1 0 1 6 7 8 hR ?_
 refine G.aM (L':=[.arr (qW b14 p.length p.length) 3 1 p.length ((List.replicate p.length 0).map encN).flatten]) (by rw [<- zrow_N];rfl) ?_
 refine G.loop (fun fr C' L' μ=>∃ (k:Nat)(o l:List Nat)(vr:Value),(k<=p.length/\o.length=p.length/\DigP o/\valP (o.drop k)=valP (p.drop k) / valP q/\Sl C' 1 vr (l.map encN)/\CanP l/\valP l=valP (p.drop k) % valP q)/\fr=[(0,[],.slice A0 p.length c0),(1,[],.slice B0 q.length d0),(6,[],qW b14 p.length p.length),(7,[],vr),(8,[],.int .i64 ((k:Int)-1))]/\L'=[.arr (qW b14 p.length p.length) 3 1 p.length (o.map encN).flatten]/\μ=k+1) (h_5 0 1 6 7 8) ⟨p.length,List.replicate p.length 0,[],.slice none 0 0,⟨Nat.le_refl _,List.length_replicate,(fun x hx=>by rw [List.eq_of_mem_replicate hx];decide),by rw [List.drop_length,List.drop_of_length_le (by simp)];simp [valP],Sl.nil _ _,⟨fun x hx=>(by cases hx),by simp⟩,by rw [List.drop_length];simp [valP]⟩,rfl,rfl,rfl⟩ (fun fr C0' L0' m hle0 hI=>?_)
 obtain ⟨k,o,l,vr,⟨hk,hol,hod,hov,hs,hcl,hlv⟩,rfl,rfl,rfl⟩:=hI
 refine G.z6 2 0 1 6 7 8 19 ?_
 refine G.cd (fun h19=>?_) fun h19=>?_
 ·have hk0:0<k:=by
   have:(0:Int)<=(k:Int)-1:=by simpa using h19
   omega
  obtain ⟨j,rfl⟩:∃ j,k=j+1:=⟨k-1,by omega⟩
  rw [show ((j+1:Nat):Int)-1=(j:Int) by omega]
  obtain ⟨hrj,hgj⟩:=gP_row (l:=p) (k:=j) om_
  have hx:gP p j<BP:=gP_lt hdp j
  have hx2:gP p j<10000:=hx
  have hllen:l.length<=q.length:=canP_short hcl (by rw [hlv];exact Nat.lt_trans (Nat.mod_lt _ hQ) (valP_lt hcq.1))
  have hrd:DigP (gP p j::l):=fun y hy=>by
   rcases List.mem_cons.1 hy with h | h
   ·rw [h];exact hx
   ·exact hcl.1 y h
  refine G.aA [(7,3)] rfl (fun R hR=>?_)
  refine D.ps 2 ?_
  refine D.ak (hp.mono mup) rfl rfl rfl rfl rfl rfl rfl rfl rfl rfl om_ hrj fl_ (fun p24 hp24=>?_)
  refine D.ac hp24 ?_
  refine D.bw [encN (gP p j)] rfl rfl rfl rfl rfl rfl rfl rfl rfl rfl rfl rfl fl_ (fun b26=>?_)
  refine D.ae ?_
  refine D.append (j:=0) rfl rfl rfl rfl rfl rfl rfl rfl rfl rfl rfl (hs.mono mup) (by rw [List.all_eq_true];intro r hr;obtain ⟨y,_,rfl⟩:=List.mem_map.1 hr;rfl) (by rw [List.length_map];simp only [List.length_singleton,maxLen];omega) (by rw [List.length_map];show (1+l.length)*8<=_;omega) fl_ (fun v28=>?_)
  refine D.call (cutO_fn _ _ (gP p j::l) (n:=1+(l.map encN).length) (by rw [List.length_map];simp;omega)) rfl (.inr (by decide)) rfl rfl rfl rfl rfl rfl (List.Perm.refl _) fl_ (fun v29 C29 L29 hle29 hq29=>?_)
  obtain ⟨rfl,hu⟩:=hq29
  refine D.q5 1 0 1 6 7 8 hR ?_
  obtain ⟨r,hrc,hrv,hrs,hrl⟩:∃ r,CanP r/\valP r=gP p j+BP*(valP (p.drop (j+1)) % valP q)/\Sl C29 1 v29 (r.map encN)/\r.length<=20000:=⟨cutP (gP p j::l),cutP_can hrd,by rw [eT];show gP p j+BP*valP l=_;rw [hlv],hu,by unfold cutP;rw [List.length_take,List.length_cons];omega⟩
  have hdm:=div_piece (t:=valP (p.drop (j+1))) (x:=gP p j) hQ
  rw [<- valP_drop om_,<- hrv] at hdm
  have hdl:valP r / valP q<BP:=by rw [hrv];exact div_piece_lt hQ hx
  have hdl2:valP r / valP q<10000:=hdl
  refine G.z7 2 0 1 6 7 8 9 10 ?_
  refine G.loop (fun fr C' L' μ=>∃ (low high:Nat),(low<=valP r / valP q/\valP r / valP q<=high/\high<=9999)/\fr=[(0,[],.slice A0 p.length c0),(1,[],.slice B0 q.length d0),(6,[],qW b14 p.length p.length),(7,[],v29),(8,[],.int .i64 j),(9,[],.int .i64 low),(10,[],.int .i64 high)]/\L'=[.arr (qW b14 p.length p.length) 3 1 p.length (o.map encN).flatten]/\μ=high-low) (h_7 0 1 6 7 8 9 10) ⟨0,9999,⟨Nat.zero_le _,by omega,Nat.le_refl _⟩,rfl,rfl,rfl⟩ (fun fr C1' L1' m hle1 hI=>?_)
  obtain ⟨low,high,⟨hlo,hhi,hh9⟩,rfl,rfl,rfl⟩:=hI
  refine G.z8 3 0 1 6 7 8 9 10 32 ?_
  refine G.cd (fun h32=>?_) fun h32=>?_
  ·have hlh:low<high:=by simpa using h32
   obtain ⟨hv1,hv2⟩:=halving hQ hlo hhi hlh
   refine G.rp 2 fun R hR=>?_
   refine D.aq _ ?_
   refine D.aq _ ?_
   refine D.quoT ((((low+high+1) / 2:Nat):Int)) rfl rfl rfl rfl rfl rfl om_ (by rw [Int.tdiv_eq_ediv_of_nonneg om_];omega) (by rw [IntKind.wrap_i64];omega) rfl rfl ?_
   refine D.q8 1 0 1 6 7 8 9 10 11 hR ?_
   refine G.rp 3 fun R hR=>?_
   refine D.ax (joined_fn _ _ _ [] q ((((low+high+1) / 2:Nat):Int)) (Sl.nil _ _) (hq.mono mup) (fun x hx=>(by cases hx)) hcq.1 om_ (by rw [<- Int.natCast_mul];omega) (by simp) om_) rfl rfl rfl rfl rfl rfl rfl fl_ (fun v41 C41 hle41 hq41=>?_)
   obtain ⟨l2,hc2,hv3,hs2⟩:=hq41
   have hv4:valP l2=valP q*((low+high+1) / 2):=by
    have h0:((valP ([]:List Nat):Nat):Int)=0:=rfl
    rw [hv3,h0,Int.zero_add,<- Int.natCast_mul,Int.toNat_natCast,Nat.mul_comm]
   refine D.aj (pless_fn _ _ _ r l2 (hrs.mono mup) (hs2.mono mup) hrc hc2) ?_
   refine D.e9 0 1 6 7 8 9 10 11 42 hR ?_
   refine G.cd (fun h42=>?_) fun h42=>?_
   ·have hlt:valP r<valP q*((low+high+1) / 2):=by
     rw [<- hv4];simpa using h42
    have hv5:=hv1 hlt
    refine G.rp 1 fun R hR=>?_
    refine D.aq _ ?_
    refine D.q7 1 0 1 6 7 8 9 10 hR ?_
    rw [show ((((low+high+1) / 2:Nat):Int))-1=(((low+high+1) / 2-1:Nat):Int) by omega]
    refine G.ap (m':=(low+high+1) / 2-1-low) om_ mup (h_7 0 1 6 7 8 9 10) ⟨low,(low+high+1) / 2-1,⟨hv5.1,hv5.2,by omega⟩,rfl,rfl,rfl⟩
   ·have hlt:¬ valP r<valP q*((low+high+1) / 2):=by
     rw [<- hv4];simpa using h42
    have hv5:=hv2 hlt
    refine G.z7 2 0 1 6 7 8 9 10 ?_
    refine G.ap (m':=high-(low+high+1) / 2) om_ mup (h_7 0 1 6 7 8 9 10) ⟨(low+high+1) / 2,high,⟨hv5.1,hv5.2,hh9⟩,rfl,rfl,rfl⟩
  ·have hlh:low=valP r / valP q:=by
    have:¬ low<high:=by simpa using h32
    omega
   have hrm:((valP r:Nat):Int) + -(low:Int)*((valP q:Nat):Int)=((valP r % valP q:Nat):Int):=by
    have h1:=Nat.div_add_mod (valP r) (valP q)
    rw [<- hlh] at h1
    have h2:((valP q*low+valP r % valP q:Nat):Int)=(valP r:Nat):=by rw [h1]
    rw [Int.natCast_add,Int.natCast_mul] at h2
    rw [Int.neg_mul,Int.mul_comm (low:Int)]
    omega
   refine G.rp 3 fun R hR=>?_
   refine D.aD (j*1) rfl rfl rfl rfl rfl rfl rfl rfl rfl rfl (fun _=>⟨by omega,by omega,rfl⟩) rfl rfl ?_
   refine D.aE (j:=0) rfl rfl rfl rfl rfl rfl rfl rfl rfl rfl rfl (by show j*1+1<=_;rw [aW dH];omega) ?_
   refine D.e6 0 1 6 7 8 9 hR ?_
   refine G.rp 4 fun R hR=>?_
   rw [show IntKind.i64.wrap (0-(low:Int))=-(low:Int) by rw [IntKind.wrap_i64];omega]
   refine D.ax (joined_fn _ _ _ r q (-(low:Int)) (hrs.mono mup) (hq.mono mup) hrc.1 hcq.1 om_ (by rw [hrm];omega) om_ om_) rfl rfl rfl rfl rfl rfl rfl fl_ (fun v54 C54 hle54 hq54=>?_)
   obtain ⟨l3,hc3,hv6,hs3⟩:=hq54
   rw [hrm,Int.toNat_natCast] at hv6
   refine D.q5 1 0 1 6 7 8 hR ?_
   refine G.rp 1 fun R hR=>?_
   refine D.aq _ ?_
   refine D.q5 1 0 1 6 7 8 hR ?_
   refine G.aM (L':=[.arr (qW b14 p.length p.length) 3 1 p.length ((o.set j low).map encN).flatten]) (by rw [<- aL dH _ (by omega:j<o.length)];rfl) ?_
   refine G.ap (m':=j+1) om_ mup (h_5 0 1 6 7 8) ⟨j,o.set j low,l3,_,⟨by omega,by rw [List.length_set];exact hol,digP_set hod (by show low<BP;omega),by rw [valP_set_drop om_,hov,hdm.1,hlh];omega,hs3.mono mup,hc3,by rw [hv6,hdm.2,hrv]⟩,rfl,rfl,rfl⟩
 ·have hk0:k=0:=by
   have:¬ (0:Int)<=(k:Int)-1:=by simpa using h19
   omega
  subst hk0
  refine G.aA [(1,3)] rfl (fun R hR=>?_)
  refine D.ae ?_
  refine D.call (cutO_fn _ _ o hol) rfl (.inr (by decide)) rfl rfl rfl rfl rfl rfl (List.Perm.refl _) fl_ (fun v56 C56 L56 hle56 hq56=>?_)
  obtain ⟨rfl,hu⟩:=hq56
  refine D.q2 3 4 5 hR ?_
  refine G.ay (G.dropAll (G.bg rfl rfl rfl ?_))
  exact ⟨rfl,_,_,rfl,⟨cutP o,cutP_can hod,by rw [eT,<- List.drop_zero (l:=o),hov,List.drop_zero],hu⟩,⟨l,hcl,by rw [hlv,List.drop_zero],hs.mono mup⟩⟩

theorem bZ (z:Int):aP 45 (txt z)=(decS z.natAbs,decide (z<0)):=by
 unfold txt
 split
 ·rename_i h
  rw [decide_eq_true h];rfl
 ·rename_i h
  rw [decide_eq_false h]
  unfold aP
  rw [if_neg]
  intro h0
  have h1:=(aO z.natAbs).1.1 45 (List.mem_of_mem_head? h0)
  revert h1;decide
theorem txt_zero (z:Int):txt z=[48] ↔ z=0:=by
 constructor
 ·intro h
  have h1:(aP 45 (txt z)).1=[48]:=by rw [h];rfl
  rw [bZ] at h1
  have h2:=(aO z.natAbs).2
  have h3:decS z.natAbs=[48]:=h1
  rw [h3] at h2
  have h4:decV [48]=0:=rfl
  omega
 ·rintro rfl
  unfold txt
  rw [if_neg om_,show decS (0:Int).natAbs=decS 0 from rfl,decS];rfl
theorem txtEq0 (z:Int):((⟨(txt z).toArray⟩:ByteArray).data.toList == (⟨#[48]⟩:ByteArray).data.toList)=decide (z=0):=by
 show (txt z == [48])=_
 rw [eqStr,decide_eq_decide];exact txt_zero z
theorem cH (n:Nat):txt (n:Int)=decS n:=by
 unfold txt
 rw [if_neg om_];rfl
theorem split_txt (C:Mem)(z:Int):Gives cx.P 155 [strV (txt z)] C (.tuple #[.bool (decide (z<0)),strV (decS z.natAbs)]):=by
 have h:=split_fn C (txt z)
 rwa [bZ] at h
theorem decV_tk10 {s:Str}{i:Nat}{c:UInt8}(h:s[i]?=some c):decV (s.take (i+1))=10*decV (s.take i)+(c.toNat-48):=by
 rw [decV_tk h];omega
theorem decV_le17 {s:Str}(hs:∀ c∈s,digB c=true)(hl:s.length<=17)(i:Nat):decV (s.take i)<100000000000000000:=by
 have h1:=cg (s:=s.take i) (fun c hc=>hs c (List.mem_of_mem_take hc))
 have h2:10 ^ (s.take i).length<=10 ^ 17:=Nat.pow_le_pow_right (by decide) (by rw [List.length_take];omega)
 omega
theorem small_fn (C:Mem)(z:Int)(hl:(decS z.natAbs).length<=17):Gives cx.P 189 [strV (txt z)] C (.tuple #[.int .i64 z,.bool true]):=by
 obtain ⟨s,hsd⟩:∃ s,decS z.natAbs=s:=⟨_,rfl⟩
 have hs:=(aO z.natAbs).1.1
 have hv:=(aO z.natAbs).2
 rw [hsd] at hl hs hv
 refine Fn.it kr_ Tryz.func189 45 fun w0=>?_
 refine G.z1 2 0 ?_
 refine G.rp 1 fun R hR=>?_
 refine D.al (by have h:=split_txt C z;rw [hsd] at h;exact h) rfl rfl rfl rfl rfl rfl rfl fl_ ?_
 refine D.q2 5 4 5 hR ?_
 refine G.z3 3 4 5 16 ?_
 refine G.cd (fun h16=>?_) fun h16=>?_
 ·exfalso
  have:(s.length:Int) > 19:=by simpa using h16
  omega
 ·refine G.z3 1 4 5 6 ?_
  refine G.z4 1 4 5 6 7 ?_
  refine G.loop (fun fr C' L' μ=>∃ (i:Nat),(i<=s.length)/\fr=[(4,[],.bool (decide (z<0))),(5,[],strV s),(6,[],.int .i64 (-((decV (s.take i):Nat):Int))),(7,[],.int .i64 i)]/\L'=[]/\μ=s.length-i) (h_4 4 5 6 7) ⟨0,Nat.zero_le _,rfl,rfl,rfl⟩ (fun fr C0' L0' m hle0 hI=>?_)
  obtain ⟨i,hi,rfl,rfl,rfl⟩:=hI
  refine G.z5 4 4 5 6 7 20 ?_
  refine G.cd (fun h20=>?_) fun h20=>?_
  ·have hil:i<s.length:=by simpa using h20
   obtain ⟨c,hc⟩:∃ c,s[i]?=some c:=⟨s[i],List.getElem?_eq_getElem hil⟩
   have hcd:=hs c (List.mem_of_getElem? hc)
   have hcr:48<=c.toNat/\c.toNat<=57:=by simpa [digB] using hcd
   have hV:=decV_le17 hs hl i
   have htd:(-9223372036854775808+(((c.toNat:Nat):Int)-48)).tdiv 10=-((9223372036854775808-(((c.toNat:Nat):Int)-48)) / 10):=by
    rw [show (-9223372036854775808+(((c.toNat:Nat):Int)-48))=-(9223372036854775808-(((c.toNat:Nat):Int)-48)) by omega,Int.neg_tdiv,Int.tdiv_eq_ediv_of_nonneg om_]
   refine G.rp 2 fun R hR=>?_
   refine D.be rfl rfl rfl rfl rfl rfl rfl rfl (fun _=>⟨by omega,hc⟩) rfl rfl ?_
   refine D.bT (c:=((c.toNat:Nat):Int)) rfl rfl rfl rfl rfl rfl rfl rfl (by rw [IntKind.wrap_i64];omega) fl_ ?_
   refine D.aq _ ?_
   refine D.q5 1 4 5 6 7 8 hR ?_
   refine G.rp 2 fun R hR=>?_
   refine D.aq _ ?_
   refine D.quoT (-((9223372036854775808-(((c.toNat:Nat):Int)-48)) / 10)) rfl rfl rfl rfl rfl rfl om_ htd (by rw [IntKind.wrap_i64];omega) rfl rfl ?_
   refine D.q6 1 4 5 6 7 8 32 hR ?_
   refine G.cd (fun h32=>?_) fun h32=>?_
   ·exfalso
    simp only [decide_eq_true_eq] at h32
    omega
   ·refine G.rp 1 fun R hR=>?_
    refine D.aq _ ?_
    refine D.ae ?_
    refine D.aq _ ?_
    refine D.q4 1 4 5 6 7 hR ?_
    refine G.rp 1 fun R hR=>?_
    refine D.aq _ ?_
    refine D.q4 1 4 5 6 7 hR ?_
    rw [show 10 * -((decV (s.take i):Nat):Int)-(((c.toNat:Nat):Int)-48)=-((decV (s.take (i+1)):Nat):Int) by rw [decV_tk10 hc];omega]
    refine G.ap (m':=s.length-(i+1)) om_ mup (h_4 4 5 6 7) ⟨i+1,om_,rfl,rfl,rfl⟩
  ·have hil:i=s.length:=by
    have:¬ i<s.length:=by simpa using h20
    omega
   rw [hil,List.take_length,hv]
   refine G.z2 2 6 37 ?_
   refine G.cd (fun h37=>?_) fun h37=>?_
   ·have hz:z<0:=by simpa using h37
    refine G.z2 3 2 3 ?_
    refine G.ay (G.dropAll (G.bg rfl rfl rfl ?_))
    refine ⟨?_,rfl⟩
    rw [show -((z.natAbs:Nat):Int)=z by omega]
   ·have hz:¬ z<0:=by simpa using h37
    have hzl:z.natAbs<100000000000000000:=by
     have:=decV_le17 hs hl s.length
     rwa [List.take_length,hv] at this
    refine G.z2 3 6 40 ?_
    refine G.cd (fun h40=>?_) fun h40=>?_
    ·exfalso
     simp at h40
     omega
    ·refine G.z2 4 2 3 ?_
     refine G.ay (G.dropAll (G.bg rfl rfl rfl ?_))
     refine ⟨?_,rfl⟩
     rw [show IntKind.i64.wrap (0 - -((z.natAbs:Nat):Int))=z by rw [IntKind.wrap_i64];omega]
theorem brief_fn (C:Mem)(z:Int):Gives cx.P 154 [strV (txt z)] C (.tuple #[.int .i64 (if (decS z.natAbs).length<=17 then z else 0),.bool (decide ((decS z.natAbs).length<=17))]):=by
 refine Fn.it kr_ Tryz.func154 18 fun w0=>?_
 refine G.z1 2 0 ?_
 refine G.rp 1 fun R hR=>?_
 refine D.aj (split_txt C z) ?_
 refine D.q2 5 0 5 hR ?_
 refine G.z2 3 0 13 ?_
 refine G.cd (fun h13=>?_) fun h13=>?_
 ·have hn:¬ (decS z.natAbs).length<=17:=by
   have:((decS z.natAbs).length:Int) > 17:=by simpa using h13
   omega
  refine G.z2 2 2 3 ?_
  refine G.ay (G.dropAll (G.bg rfl rfl rfl ?_))
  rw [if_neg hn,decide_eq_false hn]
  exact ⟨rfl,rfl⟩
 ·have hn:(decS z.natAbs).length<=17:=by
   have:¬ ((decS z.natAbs).length:Int) > 17:=by simpa using h13
   omega
  refine G.rp 1 fun R hR=>?_
  refine D.aj (small_fn _ z hn) ?_
  refine D.q2 4 2 3 hR ?_
  refine G.ay (G.dropAll (G.bg rfl rfl rfl ?_))
  rw [if_pos hn,decide_eq_true hn]
  exact ⟨rfl,rfl⟩
theorem of_ref_fn (C:Mem)(hT:Tabs C)(z:Int)(h0:-9223372036854775808<=z)(h1:z<=9223372036854775807):Gives cx.P 52 [.int .i64 z] C (strV (txt z)):=by
 refine Fn.it kr_ Tryz.func52 5 fun w0=>?_
 refine G.z1 1 0 ?_
 refine G.rp 1 fun R hR=>?_
 refine D.aj (itoaZ_g _ hT z h0 h1) ?_
 refine D.q1 1 2 hR ?_
 refine G.rf ?_
 exact ⟨rfl,rfl⟩
theorem abs_ref_fn (C:Mem)(z:Int):Gives cx.P 153 [strV (txt z)] C (strV (decS z.natAbs)):=by
 refine Fn.it kr_ Tryz.func153 11 fun w0=>?_
 refine G.z1 1 0 ?_
 refine G.rp 1 fun R hR=>?_
 refine D.aj (split_txt C z) ?_
 refine D.q1 5 4 hR ?_
 refine G.z1 2 2 ?_
 refine G.rf ?_
 exact ⟨rfl,rfl⟩

theorem BP200:BP ^ 200=10 ^ 800:=by decide +kernel
theorem decS_short {n:Nat}(h:n<BP ^ 200):(decS n).length<=800:=dI (by rw [<- BP200];exact h) om_
theorem PieC.take {D:Mem}{u:Value}{n:Nat}(h:PieC D u n)(hn:n<BP ^ 201):∃ l,CanP l/\valP l=n/\l.length<=201/\Sl D 1 u (l.map encN):=by
 obtain ⟨l,h1,h2,h3⟩:=h
 exact ⟨l,h1,h2,canP_short h1 (by rw [h2];exact hn),h3⟩
theorem takeN_fn (C:Mem)(n:Nat)(h:n<BP ^ 200):Pur cx.P 157 [strV (decS n)] C fun u D=>∃ l,CanP l/\valP l=n/\l.length<=200/\Sl D 1 u (l.map encN) :=
 (take_fn C (decS n) (aO n).1.1 (by have:=decS_short h;omega)).mono fun u D _ _ ⟨h0,l,h1,h2,h3⟩=>⟨h0,l,h1,by rw [h2,(aO n).2],canP_short h1 (by rw [h2,(aO n).2];exact h),h3⟩
theorem BP_lt:BP ^ 200+BP ^ 200<BP ^ 201:=by decide +kernel
theorem brief_lt {z:Int}(h:(decS z.natAbs).length<=17):z.natAbs<100000000000000000:=by
 have h1:=cg (aO z.natAbs).1.1
 rw [(aO z.natAbs).2] at h1
 have h2:10 ^ (decS z.natAbs).length<=10 ^ 17:=Nat.pow_le_pow_right (by decide) h
 omega
theorem sg_same {z w:Int}(h:decide (z<0)=decide (w<0)):sgZ (decide (z<0)) (z.natAbs+w.natAbs)=z+w:=by
 rw [decide_eq_decide] at h
 unfold sgZ
 by_cases hz:z<0
 ·have:=h.1 hz;rw [decide_eq_true hz,if_pos rfl];omega
 ·have:¬ w<0:=fun h1=>hz (h.2 h1)
  rw [decide_eq_false hz,if_neg (by simp)];omega
theorem sg_more {z w:Int}(h:decide (z<0)≠decide (w<0))(hl:¬ z.natAbs<w.natAbs):sgZ (decide (z<0)) (z.natAbs-w.natAbs)=z+w:=by
 rw [ne_eq,decide_eq_decide] at h
 unfold sgZ
 by_cases hz:z<0
 ·have:¬ w<0:=fun h1=>h ⟨fun _=>h1,fun _=>hz⟩
  rw [decide_eq_true hz,if_pos rfl];omega
 ·have:w<0:=Classical.byContradiction fun h1=>h ⟨fun h2=>absurd h2 hz,fun h2=>absurd h2 h1⟩
  rw [decide_eq_false hz,if_neg (by simp)];omega

theorem split_dec (C:Mem)(n:Nat):Gives cx.P 155 [strV (decS n)] C (.tuple #[.bool false,strV (decS n)]):=by
 have h:=split_txt C (n:Int)
 rw [cH,decide_eq_false om_] at h
 exact h
theorem brief_dec (C:Mem)(n:Nat):Gives cx.P 154 [strV (decS n)] C (.tuple #[.int .i64 (if (decS n).length<=17 then (n:Int) else 0),.bool (decide ((decS n).length<=17))]):=by
 have h:=brief_fn C (n:Int)
 rw [cH] at h
 exact h
theorem briefN_lt {n:Nat}(h:(decS n).length<=17):n<100000000000000000:=brief_lt (z:=(n:Int)) h
theorem of_dec (C:Mem)(hT:Tabs C)(n:Nat)(h:n<=9223372036854775807):Gives cx.P 52 [.int .i64 n] C (strV (decS n)):=by
 have h:=of_ref_fn C hT (n:Int) om_ om_
 rwa [cH] at h
theorem made_dec (C:Mem)(hT:Tabs C)(v:Value)(l:List Nat)(hv:Sl C 1 v (l.map encN))(hd:DigP l)(hl:l.length<=100000):Gives cx.P 159 [.bool false,v] C (strV (decS (valP l))):=by
 have h:=made_fn C hT false v l hv hd hl
 rw [show sgZ false (valP l)=((valP l:Nat):Int) from rfl,cH] at h
 exact h
theorem wrapN {q:Nat}(h:q<=9223372036854775807):IntKind.i64.wrap ((q:Nat):Int)=(q:Nat):=by rw [IntKind.wrap_i64];omega
theorem divmod_ref_fn (C:Mem)(hT:Tabs C)(a b:Nat)(ha:a<BP ^ 200)(hb:b<BP ^ 200)(hb0:0<b):Gives cx.P 105 [strV (decS a),strV (decS b)] C (.tuple #[strV (decS (a / b)),strV (decS (a % b))]):=by
 have hBl:=BP_lt
 refine Fn.it kr_ Tryz.func105 93 fun w0=>?_
 refine G.z2 2 0 1 ?_
 refine G.rp 1 fun R hR=>?_
 refine D.aj (brief_dec C a) ?_
 refine D.q4 5 0 1 6 7 hR ?_
 refine G.rp 1 fun R hR=>?_
 refine D.aj (brief_dec _ b) ?_
 refine D.q6 5 0 1 6 7 8 9 hR ?_
 refine G.rp 3 fun R hR=>?_
 refine D.au ?_
 refine D.e5 0 1 6 8 31 hR ?_
 refine G.cd (fun h31=>?_) fun h31=>?_
 ·have hs:(decS a).length<=17/\(decS b).length<=17:=by simpa using h31
  have h1:=briefN_lt hs.1
  have h2:=briefN_lt hs.2
  rw [if_pos hs.1,if_pos hs.2]
  have h0:=Nat.div_le_self a b
  refine G.aH [0,1,2,3,4,5,6,7] [] rfl kr_ (fun R hB hR=>?_)
  refine D.ps 2 ?_
  refine D.quoT (((a / b:Nat):Int)) rfl rfl rfl rfl rfl rfl om_ (by rw [Int.tdiv_eq_ediv_of_nonneg om_];rfl) (wrapN om_) rfl rfl ?_
  refine D.ps 2 ?_
  refine D.rem rfl rfl rfl rfl rfl rfl om_ om_ rfl rfl ?_
  refine D.q4 2 6 8 10 11 hR ?_
  refine G.z5 2 6 8 10 11 39 ?_
  refine G.cd (fun h39=>?_) fun h39=>?_
  ·exfalso
   have h3:=Int.emod_nonneg (a:Int) (show (b:Int)≠0 by omega)
   simp only [decide_eq_true_eq] at h39
   omega
  ·rw [<- Int.natCast_emod]
   have h3:=Nat.div_le_self a b
   have h4:=Nat.mod_lt a hb0
   refine G.rp 1 fun R hR=>?_
   refine D.al (of_dec _ hT (a / b) om_) rfl rfl rfl rfl rfl rfl rfl fl_ ?_
   refine D.ae ?_
   refine D.al (of_dec _ hT (a % b) om_) rfl rfl rfl rfl rfl rfl rfl fl_ ?_
   refine D.q2 2 4 5 hR ?_
   refine G.ay (G.dropAll (G.bg rfl rfl rfl ?_))
   exact ⟨rfl,rfl⟩
 ·refine G.rp 1 fun R hR=>?_
  refine D.aj (split_dec _ a) ?_
  refine D.q3 5 1 12 13 hR ?_
  refine G.rp 1 fun R hR=>?_
  refine D.aj (split_dec _ b) ?_
  refine D.q4 5 12 13 14 15 hR ?_
  refine G.rp 1 fun R hR=>?_
  refine D.aS (takeN_fn _ a ha) (fun v67 C67 hle67 hq67=>?_)
  obtain ⟨lp,hcp,hvp,hlp,hsp⟩:=hq67
  refine D.ae ?_
  refine D.aS (takeN_fn _ b hb) (fun v69 C69 hle69 hq69=>?_)
  obtain ⟨lq,hcq,hvq,hlq,hsq⟩:=hq69
  refine D.ax (parts_fn _ _ _ lp lq (hsp.mono mup) (hsq.mono mup) hcp.1 hcq om_ om_ om_) rfl rfl rfl rfl rfl rfl rfl fl_ (fun v70 C70 hle70 hq70=>?_)
  obtain ⟨u1,u2,rfl,hu1,hu2⟩:=hq70
  rw [hvp,hvq] at hu1 hu2
  obtain ⟨l1,hc1,hv1,hl1,hs1⟩:=PieC.take hu1 (by have:=Nat.div_le_self a b;omega)
  obtain ⟨l2,hc2,hv2,hl2,hs2⟩:=PieC.take hu2 (by have:=Nat.mod_lt a hb0;omega)
  obtain ⟨A2,c2,rfl,_⟩:=id hs2
  refine D.q5 5 12 14 15 16 17 hR ?_
  refine G.rp 5 fun R hR=>?_
  refine D.au ?_
  refine D.e6 12 14 15 16 17 78 hR ?_
  refine G.cd (fun h78=>?_) fun h78=>?_
  ·exfalso
   simp at h78
  ·refine G.rp 4 fun R hR=>?_
   refine D.al (made_dec _ (hT.mono mup) _ l1 (hs1.mono mup) hc1.1 om_) rfl rfl rfl rfl rfl rfl rfl fl_ ?_
   refine D.ae ?_
   refine D.al (made_dec _ (hT.mono mup) _ l2 (hs2.mono mup) hc2.1 om_) rfl rfl rfl rfl rfl rfl rfl fl_ ?_
   refine D.q2 2 4 5 hR ?_
   refine G.ay (G.dropAll (G.bg rfl rfl rfl ?_))
   rw [hv1,hv2]
   exact ⟨rfl,rfl⟩
theorem decEq0 (n:Nat):((⟨(decS n).toArray⟩:ByteArray).data.toList == (⟨#[48]⟩:ByteArray).data.toList)=decide (n=0):=by
 have h:=txtEq0 (n:Int)
 rw [cH] at h
 rw [h,decide_eq_decide];omega
theorem gcd_ref_fn (C:Mem)(hT:Tabs C)(z w:Int)(hz:z.natAbs<BP ^ 200)(hw:w.natAbs<BP ^ 200):Gives cx.P 104 [strV (txt z),strV (txt w)] C (strV (decS (Nat.gcd z.natAbs w.natAbs))):=by
 refine Fn.it kr_ Tryz.func104 22 fun w0=>?_
 refine G.z2 1 0 1 ?_
 refine G.rp 1 fun R hR=>?_
 refine D.aj (abs_ref_fn _ z) ?_
 refine D.ae ?_
 refine D.aj (abs_ref_fn _ w) ?_
 refine D.q2 2 0 1 hR ?_
 refine G.loop (fun fr C' L' μ=>∃ (a b:Nat),(a<BP ^ 200/\b<BP ^ 200/\Nat.gcd a b=Nat.gcd z.natAbs w.natAbs)/\fr=[(0,[],strV (decS a)),(1,[],strV (decS b))]/\L'=[]/\μ=b+1) (h_2 0 1) ⟨z.natAbs,w.natAbs,⟨hz,hw,rfl⟩,rfl,rfl,rfl⟩ (fun fr C0' L0' m hle0 hI=>?_)
 obtain ⟨a,b,⟨ha,hb,hg⟩,rfl,rfl,rfl⟩:=hI
 refine G.z3 2 0 1 12 ?_
 refine G.cd (fun h12=>?_) fun h12=>?_
 ·have hb0:0<b:=by
   rw [decEq0] at h12
   have:b≠0:=by simpa using h12
   omega
  have hlt:=Nat.mod_lt a hb0
  refine G.rp 2 fun R hR=>?_
  refine D.aj (divmod_ref_fn _ (hT.mono mup) a b ha hb hb0) ?_
  refine D.q2 5 1 6 hR ?_
  refine G.z2 4 0 1 ?_
  refine G.ap (m':=a % b+1) om_ mup (h_2 0 1) ⟨b,a % b,⟨hb,by omega,by rw [<- hg,euclid a b hb0]⟩,rfl,rfl,rfl⟩
 ·have hb0:b=0:=by
   rw [decEq0] at h12
   simpa using h12
  refine G.z1 2 4 ?_
  refine G.rf ?_
  refine ⟨?_,rfl⟩
  rw [<- hg,hb0,Nat.gcd_zero_right]
def decZ (s:Str):Int:=sgZ (aP 45 s).2 (decV (aP 45 s).1)
theorem canS_zero {t:Str}(h:CanS t):t.head?=some 48 ↔ decV t=0:=by
 constructor
 ·intro h0
  have h1:=h.2.2 h0
  cases t with
  | nil=>cases h0
  | cons b t =>
   have hb:b=48:=by simpa using h0
   have ht:t=[]:=by cases t with
    | nil=>rfl
    | cons c t=>simp at h1
   subst hb ht;rfl
 ·intro h0
  have:=canS_unique h (aO 0).1 (by rw [h0,(aO 0).2])
  rw [this,decS];rfl
theorem canon_iff {s:Str}:canonB s=true ↔ CanS (aP 45 s).1/\((aP 45 s).2=true->0<decV (aP 45 s).1):=by
 obtain ⟨t,neg,hdp⟩:∃ t b,aP 45 s=(t,b):=⟨_,_,rfl⟩
 unfold canonB
 rw [hdp]
 simp only [Bool.and_eq_true,Bool.not_eq_true',beq_eq_false_iff_ne,ne_eq,List.all_eq_true,Bool.and_eq_false_imp,beq_iff_eq,Bool.or_eq_false_iff,decide_eq_false_iff_not]
 constructor
 ·rintro ⟨⟨h1,h2⟩,h3⟩
  have hc:CanS t:=⟨h1,h2,fun h=>by
   have:=(h3 h).2
   have:0<t.length:=List.length_pos_iff.2 h2
   omega⟩
  refine ⟨hc,fun hn=>?_⟩
  rcases Nat.eq_zero_or_pos (decV t) with h | h
  ·have:=(h3 ((canS_zero hc).2 h)).1
   rw [hn] at this;cases this
  ·exact h
 ·rintro ⟨hc,h⟩
  refine ⟨⟨hc.1,hc.2.1⟩,fun h0=>?_⟩
  have h1:=(canS_zero hc).1 h0
  have h2:=hc.2.2 h0
  refine ⟨?_,by omega⟩
  cases hn:neg with
  | false=>rfl
  | true=>have:=h hn;omega
theorem dropP_put (s:Str):s=if (aP 45 s).2 then 45::(aP 45 s).1 else (aP 45 s).1:=by
 unfold aP
 split
 ·rename_i h
  cases s with
  | nil=>cases h
  | cons b s =>
   have hb:b=45:=by simpa using h
   subst hb;rfl
 ·rfl
theorem canon_txt {s:Str}(h:canonB s=true):s=txt (decZ s):=by
 obtain ⟨h1,h2⟩:=canon_iff.1 h
 unfold decZ
 rw [txt_sg _ _ h2,<- canS_dec h1]
 exact dropP_put s
def restOk (zn:Int):Option Str->Bool
 | none=>true
 | some b=>decide (1<decZ b) && !(zn == 0) && (Nat.gcd zn.natAbs (decZ b).natAbs == 1)
def aY (s:Str):Bool:=bq (cut1 47 s).1 && bq ((cut1 47 s).2.getD [49]) && restOk (decZ (cut1 47 s).1) (cut1 47 s).2
theorem cut1_drop (s:Str):aP 45 (cut1 47 s).1=((cut1 47 (aP 45 s).1).1,(aP 45 s).2)/\(cut1 47 s).2=(cut1 47 (aP 45 s).1).2:=by
 cases s with
 | nil=>exact ⟨rfl,rfl⟩
 | cons b s =>
  by_cases hb:b=45
  ·subst hb
   have e:aP 45 (45::s)=(s,true):=rfl
   have e2:cut1 47 (45::s)=(45::(cut1 47 s).1,(cut1 47 s).2):=rfl
   rw [e,e2];exact ⟨rfl,rfl⟩
  ·have e:aP 45 (b::s)=(b::s,false):=by unfold aP;rw [if_neg (by simp [hb])]
   rw [e]
   refine ⟨?_,rfl⟩
   unfold aP
   rw [if_neg]
   unfold cut1
   split
   ·simp
   ·simp [hb]
theorem el {s:Str}:bq s=true ↔ okD (aP 45 s).1=true/\((aP 45 s).2=true->0<decV (aP 45 s).1):=by
 unfold bq
 rw [Bool.and_eq_true,canon_iff,eI,decide_eq_true_eq]
 constructor
 ·rintro ⟨⟨h1,h2⟩,h3⟩;exact ⟨⟨h1,h3⟩,h2⟩
 ·rintro ⟨⟨h1,h3⟩,h2⟩;exact ⟨⟨h1,h2⟩,h3⟩
theorem okD_head {s:Str}(h:okD s=true):aP 45 s=(s,false):=by
 unfold aP
 rw [if_neg]
 intro h0
 have h1:=(eI.1 h).1.1 45 (List.mem_of_mem_head? h0)
 revert h1;decide
theorem den_iff {b:Str}:bq b=true/\1<decZ b ↔ okD b=true/\1<decV b:=by
 constructor
 ·rintro ⟨h1,h2⟩
  obtain ⟨h3,_⟩:=el.1 h1
  have hn:(aP 45 b).2=false:=by
   cases hn:(aP 45 b).2 with
   | false=>rfl
   | true=>unfold decZ sgZ at h2;rw [hn,if_pos rfl] at h2;omega
  have hb:(aP 45 b).1=b:=by have:=dropP_put b;rw [hn] at this;exact this.symm
  unfold decZ sgZ at h2
  rw [hn,hb] at h2
  rw [hb] at h3
  refine ⟨h3, ?_⟩
  have h4:(1:Int)<(decV b:Nat):=by simpa using h2
  omega
 ·rintro ⟨h1,h2⟩
  have hd:=okD_head h1
  refine ⟨el.2 (by rw [hd];exact ⟨h1,fun h=>by cases h⟩), ?_⟩
  unfold decZ sgZ
  rw [hd]
  show (1:Int)<(decV b:Nat)
  omega
theorem decZ_abs (s:Str):(decZ s).natAbs=decV (aP 45 s).1:=by
 unfold decZ sgZ;split <;> omega
theorem ratOk_eq (s:Str):aY s=(bP s).isSome:=by
 obtain ⟨hd,he⟩:=cut1_drop s
 rw [Bool.eq_iff_iff]
 unfold aY bP
 rw [Bool.and_eq_true,Bool.and_eq_true,he]
 have hr1:bq (cut1 47 s).1=true ↔ (okD (cut1 47 (aP 45 s).1).1 && !((aP 45 s).2 && decV (cut1 47 (aP 45 s).1).1 == 0))=true:=by
  rw [el,hd]
  cases (aP 45 s).2 <;> simp <;> omega
 rw [hr1]
 have hz:(decZ (cut1 47 s).1).natAbs=decV (cut1 47 (aP 45 s).1).1:=by rw [decZ_abs,hd]
 by_cases h0:(okD (cut1 47 (aP 45 s).1).1 && !((aP 45 s).2 && decV (cut1 47 (aP 45 s).1).1 == 0))=true
 ·rw [if_pos h0]
  cases hb:(cut1 47 (aP 45 s).1).2 with
  | none =>
   refine ⟨fun _=>rfl,fun _=>⟨⟨h0, ?_⟩,rfl⟩⟩
   show bq [49]=true
   decide
  | some b =>
   unfold restOk
   show (_/\bq b=true)/\_ ↔ _
   have hgd:(decZ (cut1 47 s).1 == 0)=(decV (cut1 47 (aP 45 s).1).1 == 0):=by
    rw [Bool.eq_iff_iff,beq_iff_eq,beq_iff_eq];omega
   simp only [hz,hgd,Bool.and_eq_true,decide_eq_true_eq]
   constructor
   ·rintro ⟨⟨_,h1⟩,⟨h2,h3⟩,h4⟩
    obtain ⟨h5,h6⟩:=den_iff.1 ⟨h1,h2⟩
    have hbz:(decZ b).natAbs=decV b:=by rw [decZ_abs,okD_head h5]
    rw [hbz] at h4
    rw [if_pos ⟨⟨⟨h5,h6⟩,h3⟩,h4⟩];rfl
   ·intro h
    split at h
    ·rename_i h1
     obtain ⟨⟨⟨h5,h6⟩,h3⟩,h4⟩:=h1
     obtain ⟨h7,h8⟩:=den_iff.2 ⟨h5,h6⟩
     have hbz:(decZ b).natAbs=decV b:=by rw [decZ_abs,okD_head h5]
     rw [hbz]
     exact ⟨⟨Bool.and_eq_true_iff.1 h0,h7⟩,⟨h8,h3⟩,h4⟩
    ·cases h
 ·rw [if_neg h0]
  constructor
  ·rintro ⟨⟨h,_⟩,_⟩;exact absurd h h0
  ·intro h;cases h
theorem ratOk_len {s:Str}{n:Nat}(h:s.length<=n):(cut1 47 s).1.length<=n/\((cut1 47 s).2.getD [49]).length<=n+1:=by
 rcases er 47 s with ⟨h1,_⟩ | ⟨pre,post,h1,h2,_⟩
 ·rw [h1];exact ⟨h,by simp⟩
 ·have e:=congrArg List.length h2
  rw [List.length_append,List.length_cons] at e
  rw [h1]
  simp only [Option.getD_some]
  omega
theorem one_val:([49]:Str)=txt 1:=by
 unfold txt
 rw [if_neg om_,show decS (1:Int).natAbs=decS 1 from rfl,decS];rfl
theorem decEq1 (n:Nat):((⟨(decS n).toArray⟩:ByteArray).data.toList == (⟨#[49]⟩:ByteArray).data.toList)=(n == 1):=by
 show (decS n == [49])=_
 rw [eqStr,Bool.eq_iff_iff,decide_eq_true_eq,beq_iff_eq]
 constructor
 ·intro h
  have h2:=(aO n).2
  rw [h] at h2
  exact h2.symm
 ·rintro rfl
  rw [decS];rfl

theorem parse9_fn (C:Mem)(s:Str)(hd:∀ c∈s,digB c=true)(h0:s≠[])(hl:s.length<=18):Gives cx.P 166 [strV s,.int .i64 10,.int .i64 64] C (.tuple #[.int .u64 (decV s),.nilIface]):=by
 refine Fn.it kr_ Tryz.func166 26 fun w0=>?_
 refine G.z3 2 0 1 2 ?_
 refine G.rp 3 fun R hR=>?_
 refine D.al (parseU_fn Tryz.parseU s hd h0 hl _ kr_) rfl rfl rfl rfl rfl rfl rfl fl_ ?_
 refine D.q5 5 0 1 2 8 9 hR ?_
 refine G.rp 1 fun R hR=>?_
 refine D.ifaceNil false rfl rfl rfl rfl rfl (.inr ⟨rfl,rfl⟩) kr_ rfl rfl ?_
 refine D.e6 0 1 2 8 9 18 hR ?_
 refine G.cd (fun h18=>?_) fun h18=>?_
 ·cases h18
 ·refine G.z2 3 6 7 ?_
  refine G.ay (G.dropAll (G.bg rfl rfl rfl ?_))
  exact ⟨rfl,rfl⟩
theorem small10_fn (C:Mem)(i:Nat)(h:i<100):Gives cx.P 212 [.int .i64 i] C (strV (decS i)):=by
 have h1:=Gives.ofCalls (f:=212) (args:=[.int .i64 i]) (P:=cx.P) kr_ (fun w=>Any.internal_strconv_small Tryz.small10 i h w) C
 rw [cG] at h1
 exact h1
theorem nDig_dec (u:Nat):Lib.nDigits u=(decS u).length:=by rw [<- cG,Lib.decDigits_length]
theorem formatI_fn (C:Mem)(hT:Tabs C)(u:Nat)(hu:u<9223372036854775808):Gives cx.P 201 [.int .u64 u,.int .i64 10] C (strV (decS u)):=by
 refine Fn.it kr_ Tryz.func201 32 fun w0=>?_
 refine G.z2 1 0 1 ?_
 refine G.z3 2 0 1 10 ?_
 refine G.cd (fun h10=>?_) fun h10=>?_
 ·refine G.z2 2 0 12 ?_
  refine G.cd (fun h12=>?_) fun h12=>?_
  ·have h12':u<100:=by
    have:(u:Int)<100:=by simpa using h12
    omega
   refine G.rp 1 fun R hR=>?_
   refine D.bT (c:=(u:Int)) rfl rfl rfl rfl rfl rfl rfl rfl (by rw [IntKind.wrap_i64];omega) fl_ ?_
   refine D.aj (small10_fn _ u h12') ?_
   refine D.q1 1 4 hR ?_
   refine G.rf ?_
   exact ⟨rfl,rfl⟩
  ·have h12':100<=u:=by
    have:¬ (u:Int)<100:=by simpa using h12
    omega
   have hnd:Lib.nDigits u<=19:=by
    rw [nDig_dec]
    exact dI om_ om_
   refine G.rg fun R hR=>?_
   refine D.aC (fun b5=>?_)
   refine D.e2 0 5 hR ?_
   refine G.rp 1 fun R hR=>?_
   refine D.al (numDigits_fn Tryz.nDig u om_ om_ _ (hT.pow.mono mup) kr_) rfl rfl rfl rfl rfl rfl rfl fl_ ?_
   refine D.q3 1 0 5 6 hR ?_
   refine G.aA [(3,3)] rfl (fun R hR=>?_)
   refine D.ae ?_
   refine D.sliceA 0 (Lib.nDigits u) 24 rfl rfl rfl rfl rfl rfl rfl rfl rfl rfl rfl rfl (fun _=>⟨.inl ⟨rfl,rfl⟩,.inr ⟨_,rfl⟩,.inl ⟨rfl,rfl⟩,by omega,by omega,by decide⟩) rfl rfl ?_
   refine D.ae ?_
   refine D.call (format10_fn Tryz.fmt10 b5 24 u 281 (List.replicate 24 (Value.int .u8 0)) om_ (fun j hj=>(by rw [List.getElem?_replicate,if_pos om_])) om_ _ kr_) rfl (.inr (by decide)) rfl rfl rfl rfl rfl rfl (List.Perm.refl _) fl_ (fun v21 C21 L21 hle21 hq21=>?_)
   refine D.e2 5 6 hR ?_
   obtain ⟨_,rfl,cs,rfl,hcl,hcx⟩:=hq21
   refine G.freeze 0 rfl (fun C7 hle7 hb7=>?_)
   have hds:(decS u).length=Lib.nDigits u:=(nDig_dec u).symm
   have hsl:Sl C7 1 (.slice (some ⟨b5,0,none⟩) ((decS u).map fun b=>[Value.int .u8 b.toNat]).length 24) ((decS u).map fun b=>[Value.int .u8 b.toNat]) :=
    Sl.ofBlock hb7 (by intro r hr;obtain ⟨y,_,rfl⟩:=List.mem_map.1 hr;rfl) (fun j v hj=>by
     rw [flatten_single,List.getElem?_map] at hj
     cases hx:(decS u)[j]? with
     | none=>rw [hx] at hj;cases hj
     | some x=>rw [hx] at hj;cases hj;simpa using hcx j x hx) (by simp;omega) (by simp [maxLen])
   rw [List.length_map,hds] at hsl
   refine G.rp 1 fun R hR=>?_
   refine D.sliceA 0 (Lib.nDigits u) 24 rfl rfl rfl rfl rfl rfl rfl rfl rfl rfl rfl rfl (fun _=>⟨.inl ⟨rfl,rfl⟩,.inr ⟨_,rfl⟩,.inl ⟨rfl,rfl⟩,by omega,by omega,by decide⟩) rfl rfl ?_
   refine D.strOf (hsl.mono mup) rfl rfl rfl rfl rfl rfl rfl rfl rfl rfl rfl fl_ ?_
   refine D.q1 1 4 hR ?_
   refine G.rf ?_
   exact ⟨rfl,rfl⟩
 ·exact absurd h10 (by decide)
theorem format9_fn (C:Mem)(hT:Tabs C)(u:Nat)(hu:u<9223372036854775808):Gives cx.P 170 [.int .u64 u,.int .i64 10] C (strV (decS u)):=by
 refine Fn.it kr_ Tryz.func170 8 fun w0=>?_
 refine G.z2 1 0 1 ?_
 refine G.rp 2 fun R hR=>?_
 refine D.aj (formatI_fn _ (hT.mono mup) u hu) ?_
 refine D.q1 1 4 hR ?_
 refine G.rf ?_
 exact ⟨rfl,rfl⟩

theorem quick_fn (C:Mem)(z:Int)(m:Nat)(hm:m<=18):Gives cx.P 132 [strV (txt z),.int .i64 m] C (.tuple #[.int .i64 (if (txt z).length<=m then z else 0),.bool (decide ((txt z).length<=m))]):=by
 refine Fn.it kr_ Tryz.func132 20 fun w0=>?_
 refine G.z2 2 0 1 ?_
 refine G.z2 4 0 11 ?_
 refine G.cd (fun h11=>?_) fun h11=>?_
 ·have h11':¬ (txt z).length<=m:=by
   have:(m:Int)<((txt z).length:Int):=by simpa using h11
   omega
  refine G.z2 2 4 5 ?_
  refine G.ay (G.dropAll (G.bg rfl rfl rfl ?_))
  exact ⟨by rw [if_neg h11',decide_eq_false h11'],rfl⟩
 ·have h11':(txt z).length<=m:=by
   have:¬ (m:Int)<((txt z).length:Int):=by simpa using h11
   omega
  refine G.rp 1 fun R hR=>?_
  refine D.al (atoi_fn Tryz.atoi z om_ _ kr_) rfl rfl rfl rfl rfl rfl rfl fl_ ?_
  refine D.q2 5 6 7 hR ?_
  refine G.aH [0,1,2,3,4] [] rfl kr_ (fun R hB hR=>?_)
  refine D.ps 2 ?_
  refine D.ifaceNil true rfl rfl rfl rfl rfl (.inl ⟨rfl,rfl⟩) kr_ rfl rfl ?_
  refine D.q2 2 4 5 hR ?_
  refine G.ay (G.dropAll (G.bg rfl rfl rfl ?_))
  exact ⟨by rw [if_pos h11',decide_eq_true h11'],rfl⟩
theorem open_fn (C:Mem)(z:Int)(hl:(decS z.natAbs).length<=1000000):Pur cx.P 134 [strV (txt z)] C fun u D=>∃ p,u=.agg ⟨[.bool (decide (z<0)),p]⟩/\NineC D p z.natAbs:=by
 obtain ⟨S,hS⟩:∃ S,decS z.natAbs=S:=⟨_,rfl⟩
 have hcan:=(aO z.natAbs).1
 have hdv:=(aO z.natAbs).2
 rw [hS] at hl hcan hdv
 refine Fn.it kr_ Tryz.func134 44 fun w0=>?_
 refine G.rg fun R hR=>?_
 refine D.aC (fun b2=>?_)
 refine D.e2 0 2 hR ?_
 refine G.rp 1 fun R hR=>?_
 refine D.aj (cutP_fn _ (txt z) 45) ?_
 rw [bZ,hS]
 refine D.q3 5 2 3 4 hR ?_
 refine G.rp 2 fun R hR=>?_
 refine D.quoN (S.length) (9) rfl rfl rfl rfl rfl rfl om_ (.inl ⟨rfl,by omega⟩) rfl rfl ?_
 refine D.cR (((S.length / 9+1:Nat):Int)) rfl rfl rfl rfl om_ om_ om_ rfl rfl ?_
 refine D.bu rfl rfl rfl rfl rfl rfl rfl rfl rfl (Nat.zero_le _) (by show 8*(S.length / 9+1)<=281474976710656;omega) (by simp only [maxLen];omega) fl_ (fun b18=>?_)
 refine D.q4 1 2 3 4 5 hR ?_
 rw [show (strV S:Value)=strV (S.take S.length) by rw [List.take_length]]
 refine G.loop (fun fr C' L' μ=>∃ (q j:Nat)(out:List Nat)(w:Value),(q<=S.length/\(q=0∨q+9*j=S.length)/\out.length=j/\j<=S.length/\(q=0∨j<S.length)/\Dig9 out/\val9 out=decV (S.drop q))/\fr=[(2,[],.pointer (some ⟨b2,0,none⟩)),(3,[],strV (S.take q)),(4,[],.bool (decide (z<0))),(5,[],w)]/\L'=[.arr w 197 1 j (out.map encU).flatten,.obj b2 (.cells ⟨[.bool false,.slice none 0 0]⟩ 209 (0,0))]/\μ=q+1) (h_4 2 3 4 5) ⟨S.length,0,[],_,⟨Nat.le_refl _,by omega,rfl,Nat.zero_le _,by have:=List.length_pos_iff.2 hcan.2.1;omega,(fun x hx=>(by cases hx)),by rw [List.drop_length];rfl⟩,rfl,rfl,rfl⟩ (fun fr C0' L0' m hle0 hI=>?_)
 obtain ⟨q,j,out,w,⟨hel,hej,hol,hjl,hj2,hod,hov⟩,rfl,rfl,rfl⟩:=hI
 refine G.z5 3 2 3 4 5 21 ?_
 refine G.cd (fun h21=>?_) fun h21=>?_
 ·have htl:(⟨(S.take q).toArray⟩:ByteArray).data.toList.length=q:=by
   show (S.take q).length=q
   rw [List.length_take];omega
  have htl2:(S.take q).length=q:=htl
  have hq0:0<q:=by
   have h:(0:Int)<(((⟨(S.take q).toArray⟩:ByteArray).data.toList.length:Nat):Int):=by simpa using h21
   omega
  have hcutl:(cutS S (q-9) q).length<=9/\0<(cutS S (q-9) q).length:=by
   unfold cutS;rw [List.length_drop,List.length_take];omega
  have hcutd:∀ c∈cutS S (q-9) q,digB c=true:=fun c hc=>hcan.1 c (List.mem_of_mem_take (List.mem_of_mem_drop hc))
  refine G.rp 2 fun R hR=>?_
  refine D.cR (((q:Int)-9)) rfl rfl rfl rfl om_ om_ om_ rfl rfl ?_
  refine D.max (((q-9:Nat):Int)) rfl rfl rfl rfl rfl rfl om_ rfl rfl ?_
  refine D.q5 1 2 3 4 5 6 hR ?_
  refine G.rp 2 fun R hR=>?_
  refine D.bG (q-9) (S.take q).length rfl rfl rfl rfl rfl rfl rfl rfl rfl (fun _=>⟨.inr ⟨_,rfl⟩,.inl ⟨rfl,rfl⟩,.inl ⟨rfl,rfl⟩,by omega,Nat.le_refl _,Nat.le_refl _⟩) rfl rfl ?_
  rw [show (((S.take q).take (S.take q).length).drop (q-9))=cutS S (q-9) q from by rw [List.take_length];rfl]
  refine D.al (parse9_fn _ (cutS S (q-9) q) hcutd (List.length_pos_iff.1 hcutl.2) om_) rfl rfl rfl rfl rfl rfl rfl fl_ ?_
  refine D.q6 5 2 3 4 5 6 7 hR ?_
  refine G.aH [0,1,4,5,6,2,3,7,8] [] rfl kr_ (fun R hB hR=>?_)
  refine D.ps 4 ?_
  refine D.bG 0 (q-9) rfl rfl rfl rfl rfl rfl rfl rfl rfl (fun _=>⟨.inl ⟨rfl,rfl⟩,.inr ⟨_,rfl⟩,.inl ⟨rfl,rfl⟩,by omega,by omega,Nat.le_refl _⟩) rfl rfl ?_
  refine D.af [encU (decV (cutS S (q-9) q))] (fun p35 C35 hle35 hs35=>?_)
  refine D.append (j:=0) rfl rfl rfl rfl rfl rfl rfl rfl rfl rfl rfl hs35 rfl (by simp only [List.length_singleton,maxLen];omega) (by show (j+1)*8<=_;omega) fl_ (fun v36=>?_)
  refine D.q4 2 2 3 4 5 hR ?_
  rw [show ((S.take q).take (q-9)).drop 0=S.take (q-9) from by rw [List.drop_zero,List.take_take,Nat.min_eq_left om_]]
  refine G.aM (L':=[.arr v36 197 1 (j+1) ((out++[decV (cutS S (q-9) q)]).map encU).flatten,.obj b2 (.cells ⟨[.bool false,.slice none 0 0]⟩ 209 (0,0))]) (by simp [encU]) ?_
  refine G.ap (m':=q-9+1) om_ mup (h_4 2 3 4 5) ⟨q-9,j+1,out++[decV (cutS S (q-9) q)],v36,⟨by omega,by omega,by simp [hol],by omega,by omega,hod.snoc (cutS9_lt hcan.1 om_),take9_step om_ hol om_ hov⟩,rfl,rfl,rfl⟩
 ·have hq0:q=0:=by
   have htl2:(S.take q).length=q:=by rw [List.length_take];omega
   have h:¬ (0:Int)<(((S.take q).length:Nat):Int):=by simpa using h21
   omega
  subst hq0
  rw [List.drop_zero,hdv] at hov
  refine G.aA [(2,3)] rfl (fun R hR=>?_)
  refine D.ps 2 ?_
  refine D.call (ek _ _ out (n:=j) hol) rfl (.inr (by decide)) rfl rfl rfl rfl rfl rfl (List.Perm.refl _) fl_ (fun v42 C42 L42 hle42 hq42=>?_)
  obtain ⟨rfl,hu⟩:=hq42
  obtain ⟨Au,cu,rfl,_⟩:=id hu
  refine D.build [.bool (decide (z<0)),_] rfl rfl rfl rfl rfl rfl rfl rfl ?_
  refine D.ag (j:=0) ?_
  refine D.e1 2 hR ?_
  refine G.ay (G.dz (.head _) rfl rfl rfl rfl ?_)
  exact ⟨rfl,_,rfl,cut9 out,eV hod,by rw [eU,hov],hu⟩

theorem decV_zeros (k:Nat)(s:Str):decV (List.replicate k 48++s)=decV s:=by
 induction k with
 | zero=>rfl
 | succ k ih=>rw [List.replicate_succ,List.cons_append,cq,ih];simp
theorem pad9_eq {x:Nat}(h:x<1000000000):padS 9 x=List.replicate (9-(decS x).length) 48++decS x:=by
 obtain ⟨h1,h2,h3⟩:=padS_ok 9 x h
 obtain ⟨h4,h5⟩:=aO x
 have hl:(decS x).length<=9:=dI om_ om_
 refine dec_inj h2 (fun c hc=>?_) (by rw [h1];simp;omega) (by rw [h3,decV_zeros,h5])
 rcases List.mem_append.1 hc with hc | hc
 ·rw [List.eq_of_mem_replicate hc];rfl
 ·exact h4.1 c hc
def LastT (l:List Nat)(j:Nat)(s:Str):Prop:=(j=0/\s=[])∨(0<j/\CanS s/\decV s=val9 (l.drop (l.length-j))/\0<decV s)
theorem lastT_step {l:List Nat}{j:Nat}{s:Str}(hc:Can9 l)(hj:j<l.length)(h:LastT l j s):LastT l (j+1) (s++if j=0 then decS (g9 l (l.length-1-j)) else padS 9 (g9 l (l.length-1-j))):=by
 have hx:l[l.length-1-j]?=some (g9 l (l.length-1-j)):=g9_get om_
 refine .inr ⟨by omega, ?_⟩
 rw [show l.length-(j+1)=l.length-1-j by omega]
 rcases h with ⟨rfl,rfl⟩ | ⟨h0,h1,h2,h3⟩
 ·rw [if_pos rfl,List.nil_append]
  obtain ⟨h4,h5⟩:=aO (g9 l (l.length-1-0))
  have h6:val9 (l.drop (l.length-1-0))=g9 l (l.length-1-0):=by
   rw [List.drop_eq_getElem_cons om_,show l.length-1-0+1=l.length by omega,List.drop_length]
   rw [List.getElem?_eq_getElem om_] at hx
   rw [Option.some.inj hx]
   show _+B9*0=_
   omega
  refine ⟨h4,by rw [h5,h6], ?_⟩
  rw [h5]
  rcases Nat.eq_zero_or_pos (g9 l (l.length-1-0)) with h | h
  ·rw [h] at hx
   exact absurd (by rw [List.getLast?_eq_getElem?];exact hx) hc.2
  ·exact h
 ·rw [if_neg om_]
  rw [show l.length-j=l.length-1-j+1 by omega] at h2
  exact give9_step hc.1 hx h1 h2 h3
theorem close_fn (C:Mem)(hT:Tabs C)(m:Bool)(v:Value)(n:Nat)(hv:NineC C v n)(hn:n<B9 ^ 100000):Gives cx.P 136 [.agg ⟨[.bool m,v]⟩] C (strV (txt (sgZ m n))):=by
 obtain ⟨ls,hc,hln,hll,hs⟩:=hv.get hn
 obtain ⟨A,c,rfl,_⟩:=id hs
 simp only [List.length_map] at hs ⊢
 refine Fn.introM kr_ Tryz.func136 rfl 34 rfl rfl (fun w0=>?_)
 refine G.rg fun R hR=>?_
 refine D.aX (fun b1=>?_)
 refine D.q1 1 1 hR ?_
 refine G.freeze 0 rfl (fun C1 hle1 hb1=>?_)
 refine G.rp 1 fun R hR=>?_
 refine D.ac (PtrTo.block (Mem.get hb1 mup) _) ?_
 refine D.q2 2 1 10 hR ?_
 refine G.cd (fun h10=>?_) fun h10=>?_
 ·have hl0:ls=[]:=by
   have:(ls.length:Int)=0:=by simpa using h10
   exact List.eq_nil_of_length_eq_zero om_
  refine G.z1 1 2 ?_
  refine G.ay (G.finR (res_t1 rfl rfl) ?_ endsM)
  subst hl0
  refine ⟨?_,rfl⟩
  rw [<- hln,(txt_zero (sgZ m (val9 []))).2 (by cases m <;> rfl)]
  rfl
 ·have hl0:0<ls.length:=by
   have:¬ (ls.length:Int)=0:=by simpa using h10
   omega
  obtain ⟨pre,hpre⟩:∃ pre:Str,(if m then [45] else [])=pre:=⟨_,rfl⟩
  have hprl:pre.length<=1:=by rw [<- hpre];split <;> simp
  refine G.rg fun R hR=>?_
  refine D.aC (fun b3=>?_)
  refine D.e2 1 3 hR ?_
  refine G.nilArr 5 1 ?_
  refine G.perm (L':=[.obj b3 (.cells ⟨[.pointer none,.slice none 0 0]⟩ 247 (0,0)),.arr (.slice none 0 0) 5 1 0 []]) (List.Perm.swap _ _ _) ?_
  refine G.rp 1 fun R hR=>?_
  refine D.ac (PtrTo.block (Mem.get hb1 mup) _) ?_
  refine D.e3 1 3 12 hR ?_
  refine G.bW (fun fr C' L' μ=>∃ (q:Option Addr)(w:Value),(q=none∨q=some ⟨b3,0,none⟩)/\fr=[(1,[],.pointer (some ⟨b1,0,none⟩)),(3,[],.pointer (some ⟨b3,0,none⟩))]/\L'=[.obj b3 (.cells ⟨[.pointer q,w]⟩ 247 (0,0)),.arr w 5 1 pre.length (u8s pre)]) ?_ (fun fr C12 L12 μ hle12 hI=>?_)
  ·refine G.cd (fun h12=>?_) fun h12=>?_
   ·rw [if_pos h12] at hpre
    subst hpre
    refine G.aA [(0,3)] rfl (fun R hR=>?_)
    refine D.call (writeByte_fn _ b3 none (.slice none 0 0) [] 45 (.inl rfl) (by simp)) rfl (.inr (by decide)) rfl rfl rfl rfl rfl rfl (List.Perm.refl _) fl_ (fun v13 C13 L13 hle13 hq13=>?_)
    refine D.e2 1 3 hR ?_
    obtain ⟨w1,rfl⟩:=hq13
    refine G.ar 0 mup (h_2 1 3) ⟨some ⟨b3,0,none⟩,w1,.inr rfl,rfl,rfl⟩
   ·rw [if_neg (by rw [h12];decide)] at hpre
    subst hpre
    refine G.ar 0 mup (h_2 1 3) ⟨none,.slice none 0 0,.inl rfl,rfl,rfl⟩
  ·obtain ⟨q ,w,hq,rfl,rfl⟩:=hI
   refine G.rp 1 fun R hR=>?_
   refine D.ac (PtrTo.block (Mem.get hb1 mup) _) ?_
   refine D.aS (backU_fn _ A ls.length c) (fun v16 C16 hle16 hq16=>?_)
   refine D.e3 1 3 16 hR ?_
   obtain ⟨bb,rfl,hbb⟩:=hq16
   refine G.aM (L':=[.obj b3 (.cells ⟨[.pointer q,w]⟩ 247 (0,0)),.arr w 5 1 (pre++[]).length (u8s (pre++[]))]) (by rw [List.append_nil]) ?_
   refine G.rangeFunc rfl rfl rfl kr_ (backU_iter _ bb _ _ ls hbb (hs.mono mup) om_) (fun j L'=>∃ (q:Option Addr)(w:Value)(s:Str),((q=none∨q=some ⟨b3,0,none⟩)/\LastT ls j s/\s.length<=9*j)/\L'=[.obj b3 (.cells ⟨[.pointer q,w]⟩ 247 (0,0)),.arr w 5 1 (pre++s).length (u8s (pre++s))]) ⟨q,w,[],⟨hq,.inl ⟨rfl,rfl⟩,by simp⟩,rfl⟩ rfl (fun _ _=>rfl) (fun u v=>[(1,[],.pointer (some ⟨b1,0,none⟩)),(3,[],.pointer (some ⟨b3,0,none⟩)),(4,[],u),(5,[],v)]) (fun l u v W1 L'=>?_) (fun l j u v L' W1 hI hj=>?_) (fun bD L' hI=>?_)
   ·refine G.z4 1 1 3 4 18 ?_
    refine G.z4 1 1 3 4 5 ?_
    exact G.fx ⟨rfl,rfl,rfl,rfl,trivial⟩
   ·obtain ⟨q,w,s,⟨hq2,hlt,hsl⟩,rfl⟩:=hI
    have hjl:j<ls.length:=by have:=(List.getElem?_eq_some_iff.1 hj).1;rwa [d2] at this
    rw [backW_at hjl] at hj
    cases hj
    have hst:=lastT_step hc hjl hlt
    obtain ⟨x,hx⟩:∃ x,g9 ls (ls.length-1-j)=x:=⟨_,rfl⟩
    have hx9:x<B9:=by rw [<- hx];exact g9_lt hc.1 _
    rw [show ls.getD (ls.length-1-j) 0=x from hx]
    rw [hx] at hst
    have hxl:(decS x).length<=9:=dI (by rw [B9v] at hx9;omega) om_
    have hp9:=pad9_eq (x:=x) (by rw [B9v] at hx9;exact hx9)
    have hpl:(padS 9 x).length=9:=(padS_ok 9 x (by rw [B9v] at hx9;omega)).1
    refine G.rp 1 fun R hR=>?_
    refine D.al (format9_fn _ (hT.mono mup) x (by rw [B9v] at hx9;omega)) rfl rfl rfl rfl rfl rfl rfl fl_ ?_
    refine D.q4 1 1 3 4 6 hR ?_
    refine G.rp 2 fun R hR=>?_
    refine D.ac (PtrTo.block (Mem.get hb1 mup) _) ?_
    refine D.ae ?_
    refine D.aq _ ?_
    refine D.q3 1 3 6 26 hR ?_
    refine G.bW (fun fr C' L' μ=>∃ (q3:Option Addr)(w3:Value)(t:Str),((q3=none∨q3=some ⟨b3,0,none⟩)/\t++decS x=pre++(s++if j=0 then decS x else padS 9 x)/\t.length<=9*j+10)/\fr=[(3,[],.pointer (some ⟨b3,0,none⟩)),(6,[],strV (decS x))]/\L'=[.obj b3 (.cells ⟨[.pointer q3,w3]⟩ 247 (0,0)),.arr w3 5 1 t.length (u8s t)]) ?_ (fun fr C26 L26 μ hle26 hI=>?_)
    ·refine G.cd (fun h26=>?_) fun h26=>?_
     ·have hj0:0<j:=by
       have:((ls.length-1-j:Nat):Int)<(ls.length:Int)-1:=by simpa using h26
       omega
      refine G.aA [(3,3)] rfl (fun R hR=>?_)
      refine D.ps 2 ?_
      refine D.bG (decS x).length 9 rfl rfl rfl rfl rfl rfl rfl rfl rfl (fun _=>⟨.inr ⟨_,rfl⟩,.inl ⟨rfl,rfl⟩,.inl ⟨rfl,rfl⟩,by omega,Nat.le_refl _,Nat.le_refl _⟩) rfl rfl ?_
      rw [show ((([48,48,48,48,48,48,48,48,48]:Str).take 9).drop (decS x).length)=List.replicate (9-(decS x).length) 48 from by rw [show (([48,48,48,48,48,48,48,48,48]:Str).take 9)=List.replicate 9 48 from rfl,List.drop_replicate]]
      refine D.call (writeString_fn _ b3 q w (pre++s) (List.replicate (9-(decS x).length) 48) hq2 (by simp;omega)) rfl (.inr (by decide)) rfl rfl rfl rfl rfl rfl (List.Perm.refl _) fl_ (fun v30 C30 L30 hle30 hq30=>?_)
      refine D.e2 3 6 hR ?_
      obtain ⟨w1,rfl⟩:=hq30
      refine G.ar 0 mup (h_2 3 6) ⟨some ⟨b3,0,none⟩,w1,_,⟨.inr rfl,by rw [if_neg om_,hp9];simp [List.append_assoc],by simp;omega⟩,rfl,rfl⟩
     ·have hj0:j=0:=by
       have:¬ ((ls.length-1-j:Nat):Int)<(ls.length:Int)-1:=by simpa using h26
       omega
      refine G.ar 0 mup (h_2 3 6) ⟨q,w,pre++s,⟨hq2,by rw [if_pos hj0,List.append_assoc],by simp;omega⟩,rfl,rfl⟩
    ·obtain ⟨q3 ,w3 ,t,⟨hq3,htt,htl⟩,rfl,rfl⟩:=hI
     refine G.aA [(1,3)] rfl (fun R hR=>?_)
     refine D.ae ?_
     refine D.call (writeString_fn _ b3 q3 w3 t (decS x) hq3 om_) rfl (.inr (by decide)) rfl rfl rfl rfl rfl rfl (List.Perm.refl _) fl_ (fun v32 C32 L32 hle32 hq32=>?_)
     refine D.done [] trivial (hR _ _ _ rfl ?_)
     obtain ⟨w4,rfl⟩:=hq32
     rw [htt]
     exact G.roundEnd (R:=fun L'=>∃ (q:Option Addr)(w:Value)(s:Str),((q=none∨q=some ⟨b3,0,none⟩)/\LastT ls (j+1) s/\s.length<=9*(j+1))/\L'=[.obj b3 (.cells ⟨[.pointer q,w]⟩ 247 (0,0)),.arr w 5 1 (pre++s).length (u8s (pre++s))]) (List.Perm.refl _) ⟨some ⟨b3,0,none⟩,w4,_,⟨.inr rfl,hst,by rw [List.length_append];split <;> omega⟩,rfl⟩
   ·obtain ⟨q,w,s,⟨hq2,hlt,hsl⟩,rfl⟩:=hI
    rw [d2] at hlt
    obtain ⟨hlt1,hlt2,hlt3,hlt4⟩:0<ls.length/\CanS s/\decV s=val9 (ls.drop (ls.length-ls.length))/\0<decV s:=hlt.elim (fun h=>by omega) id
    rw [Nat.sub_self,List.drop_zero,hln] at hlt3
    refine G.perm (L':=[.obj b3 (.cells ⟨[.pointer q,w]⟩ 247 (0,0)),.arr w 5 1 (pre++s).length (u8s (pre++s)),.obj bD (.deferred (some []))]) (pkL [1,1,0] rfl) ?_
    refine G.aA [(0,3)] rfl (fun R hR=>?_)
    refine D.call (bstring_fn _ b3 q w (pre++s) (fun h=>hlt2.2.1 (List.append_eq_nil_iff.1 h).2) (by simp;rw [d2] at hsl;omega)) rfl (.inr (by decide)) rfl rfl rfl rfl rfl rfl (List.Perm.refl _) fl_ (fun v33 C33 L33 hle33 hq33=>?_)
    refine D.q1 1 2 hR ?_
    obtain ⟨rfl,rfl⟩:=hq33
    refine G.ay (G.finM (res_t1 rfl rfl) ?_)
    refine ⟨?_,rfl⟩
    have es:s=decS n:=by rw [<- hlt3];exact canS_dec hlt2
    rw [txt_sg m n (fun _=>by omega),es,<- hpre]
    cases m <;> rfl

theorem div_piece9 {t Q x:Nat}(hQ:0<Q):(x+B9*t) / Q=B9*(t / Q)+(x+B9*(t % Q)) / Q/\(x+B9*t) % Q=(x+B9*(t % Q)) % Q:=by
 have h:x+B9*t=(x+B9*(t % Q))+Q*(B9*(t / Q)):=by
  have h1:=Nat.mod_add_div t Q
  have h2:B9*t=B9*(t % Q)+B9*(Q*(t / Q)):=by rw [<- Nat.mul_add,h1]
  rw [h2,Nat.mul_left_comm];omega
 rw [h,Nat.add_mul_div_left _ _ hQ,Nat.add_mul_mod_self_left]
 exact ⟨by omega,rfl⟩
theorem div_piece9_lt {t Q x:Nat}(hQ:0<Q)(hx:x<B9):(x+B9*(t % Q)) / Q<B9:=by
 rw [Nat.div_lt_iff_lt_mul hQ]
 have h1:=Nat.mod_lt t hQ
 have h2:B9*(t % Q+1)<=B9*Q:=Nat.mul_le_mul_left _ h1
 rw [Nat.mul_add] at h2
 omega
theorem dJ {l:List Nat}{j:Nat}(h:j<l.length):val9 (l.drop j)=g9 l j+B9*val9 (l.drop (j+1)):=by
 rw [List.drop_eq_getElem_cons h,val9,g9_some (List.getElem?_eq_getElem h)]
theorem val9_set_drop {l:List Nat}{j x:Nat}(h:j<l.length):val9 ((l.set j x).drop j)=x+B9*val9 (l.drop (j+1)):=by
 rw [List.drop_eq_getElem_cons (by simpa using h),val9,List.getElem_set_self,List.drop_set_of_lt om_]
theorem divide1_fn (C:Mem)(va vb:Value)(m d:Nat)(ha:NineC C va m)(hm:m<B9 ^ 200000)(hb:Sl C 1 vb ([d].map encU))(hd0:0<d)(hd:d<B9) :
  Pur cx.P 164 [va,vb] C fun u D=>∃ q r,u=.tuple #[q,r]/\NineC D q (m / d)/\NineC D r (m % d):=by
 have hbn:NineC C vb d:=⟨[d],⟨fun x hx=>(by rw [List.mem_singleton.1 hx];exact hd),by simp;omega⟩,by show d+B9*0=d;omega,hb⟩
 have ha0:=ha
 obtain ⟨a,hca,hav,hal,hsa⟩:=ha.get hm
 obtain ⟨A0,c0,rfl,_⟩:=id hsa
 obtain ⟨B0,d0,rfl,hbd⟩:=id hb
 simp only [List.length_map,List.length_singleton] at hb hbn hsa ha0 ⊢
 have hB:=B9v
 refine Fn.introM kr_ Tryz.func164 rfl 146 rfl rfl (fun w0=>?_)
 refine G.rg fun R hR=>?_
 refine D.aX (fun b3=>?_)
 refine D.aC (fun b4=>?_)
 refine D.q4 1 0 3 4 5 hR ?_;clear hR R
 refine G.freeze 1 rfl (fun C3 hle3 hb3=>?_)
 refine G.rp 1 fun R hR=>?_
 refine D.ac (PtrTo.block (Mem.get hb3 mup) _) ?_
 refine D.aj (order_n _ (ha0.mono mup) (hbn.mono mup)) ?_
 refine D.q5 1 0 3 4 5 17 hR ?_;clear hR R
 refine G.cd (fun h17=>?_) fun h17=>?_
 ·have hlt:m<d:=by
   have:ordZ m d<0:=by simpa using h17
   exact ordZ_lt.1 this
  refine G.rp 1 fun R hR=>?_
  refine D.ag (j:=0) ?_
  refine D.q2 1 4 5 hR ?_;clear hR R
  refine G.ay (G.finR (res_ct (.head _) rfl rfl rfl rfl rfl) ?_ endsM)
  refine ⟨rfl,_,_,rfl, ?_, ?_⟩
  ·rw [Nat.div_eq_of_lt hlt];exact NineC.zero _
  ·rw [Nat.mod_eq_of_lt hlt];exact ha0.mono mup
 ·have hlt:d<=m:=by
   have h:¬ ordZ m d<0:=by simpa using h17
   rw [ordZ_lt] at h
   omega
  obtain ⟨n,hn⟩:∃ n,a.length=n:=⟨_,rfl⟩
  refine G.rg fun R hR=>?_
  refine D.ac (PtrTo.block (Mem.get hb3 mup) _) ?_
  refine D.q5 2 0 3 4 5 21 hR ?_;clear hR R
  refine G.cd (fun h21=>?_) fun h21=>?_
  ·refine G.rp 2 fun R hR=>?_
   refine D.bu rfl rfl rfl rfl rfl rfl rfl rfl rfl (Nat.le_refl _) (by show 8*a.length<=281474976710656;omega) (by simp only [maxLen];omega) fl_ (fun b24=>?_)
   refine D.ag (j:=1) ?_
   refine D.e3 0 3 4 hR ?_;clear hR R
   refine G.rg fun R hR=>?_
   refine D.aC (fun b6=>?_)
   refine D.ag (j:=0) ?_
   refine D.e4 0 3 4 6 hR ?_;clear hR R
   refine G.rp 1 fun R hR=>?_
   refine D.aS (backU_fn _ A0 a.length c0) (fun v26 C26 hle26 hq26=>?_)
   refine D.e4 3 4 6 26 hR ?_;clear hR R
   obtain ⟨bb,rfl,hbb⟩:=hq26
   refine G.aM (L':=[.obj b6 (.cells ⟨[.int .u64 ((val9 (a.drop (a.length-0)) % d:Nat):Int)]⟩ 197 (0,0)),.obj b4 (.cells ⟨[qU b24 a.length a.length]⟩ 207 (0,0)),.arr (qU b24 a.length a.length) 197 1 a.length ((List.replicate a.length 0).map encU).flatten]) (by rw [<- zrow_U,Nat.sub_zero,List.drop_length,show val9 []=0 from rfl,Nat.zero_mod];rfl) ?_
   refine G.rangeFunc rfl rfl rfl kr_ (backU_iter _ bb _ _ a hbb (hsa.mono mup) om_) (fun j L'=>∃ (qs:List Nat),(qs.length=a.length/\Dig9 qs/\val9 (qs.drop (a.length-j))=val9 (a.drop (a.length-j)) / d)/\L'=[.obj b6 (.cells ⟨[.int .u64 ((val9 (a.drop (a.length-j)) % d:Nat):Int)]⟩ 197 (0,0)),.obj b4 (.cells ⟨[qU b24 a.length a.length]⟩ 207 (0,0)),.arr (qU b24 a.length a.length) 197 1 a.length (qs.map encU).flatten]) ⟨List.replicate a.length 0,⟨List.length_replicate,(fun x hx=>by rw [List.eq_of_mem_replicate hx];decide),by rw [Nat.sub_zero,List.drop_length,List.drop_of_length_le (by simp)];simp [val9]⟩,rfl⟩ rfl (fun _ _=>rfl) (fun u v=>[(3,[],.pointer (some ⟨b3,0,none⟩)),(4,[],.pointer (some ⟨b4,0,none⟩)),(6,[],.pointer (some ⟨b6,0,none⟩)),(7,[],u),(8,[],v)]) (fun l u v W1 L'=>?_) (fun l j u v L' W1 hI hj=>?_) (fun bD L' hI=>?_)
   ·refine G.z5 1 3 4 6 7 28 ?_
    refine G.z5 1 3 4 6 7 8 ?_
    exact G.fx ⟨rfl,rfl,rfl,rfl,rfl,trivial⟩
   ·obtain ⟨qs,⟨hql,hqd,hqv⟩,rfl⟩:=hI
    have hjl:j<a.length:=by have:=(List.getElem?_eq_some_iff.1 hj).1;rwa [d2] at this
    rw [backW_at hjl] at hj
    cases hj
    obtain ⟨i,hi⟩:∃ i,a.length-1-j=i:=⟨_,rfl⟩
    have hi1:a.length-j=i+1:=by omega
    obtain ⟨T,hT⟩:∃ T,val9 (a.drop (i+1))=T:=⟨_,rfl⟩
    have hx9:=g9_lt hca.1 i
    have hrd:=Nat.mod_lt T hd0
    have hX:T % d*B9+g9 a i<18446744073709551616:=by
     have:=Nat.mul_le_mul_right B9 (show T % d<=999999999 by omega)
     rw [hB] at this ⊢
     omega
    rw [hi,hi1,hT,show a.getD i 0=g9 a i from rfl]
    rw [hi1,hT] at hqv
    have hxx:T % d*B9+g9 a i=g9 a i+B9*(T % d):=by rw [Nat.mul_comm,Nat.add_comm]
    have hdp:=div_piece9 (t:=T) (x:=g9 a i) hd0
    have hdl:=div_piece9_lt (t:=T) hd0 hx9
    rw [<- hxx] at hdp hdl
    refine G.rg fun R hR=>?_
    refine D.ah (.head _) ?_
    refine D.int (((T % d*B9:Nat):Int)) rfl rfl rfl rfl (by rw [show (1000000000:Int)=((B9:Nat):Int) from rfl,<- Int.natCast_mul,IntKind.wrap_u64];omega) rfl rfl ?_
    refine D.ae ?_
    refine D.int (((T % d*B9+g9 a i:Nat):Int)) rfl rfl rfl rfl (by rw [IntKind.wrap_u64];omega) rfl rfl ?_
    refine D.ag (j:=0) ?_
    refine D.e4 3 4 6 7 hR ?_;clear hR R
    refine G.bW (fun fr C' L' μ=>(True)/\fr=[]/\L'=[.obj b6 (.cells ⟨[.int .u64 (((T % d*B9+g9 a i) % d:Nat):Int)]⟩ 197 (0,0)),.arr (qU b24 a.length a.length) 197 1 a.length (aw (qs.map encU).flatten [Value.int .u64 (((T % d*B9+g9 a i) / d:Nat):Int)] (i*1)),.obj b4 (.cells ⟨[qU b24 a.length a.length]⟩ 207 (0,0))]) ?_ (fun fr Cr10 Lr10 μ hler10 hI=>?_)
    ·refine G.fj (.cut [0,1,2,3,4,5,6,8,9,10,12] (.alt 7 (.fin [11,13,14]) (.alt 13 (.fin [7,11,14]) .stop))) [] rfl rfl kr_ (fun R hB hR hH=>?_)
     refine D.ah (.tail _ (.head _)) ?_
     refine D.ae ?_
     refine D.ah (.head _) ?_
     refine D.ac (PtrTo.block (Mem.get hb3 mup) _) ?_
     refine D.ak (hb.mono mup) rfl rfl rfl rfl rfl rfl rfl rfl rfl rfl om_ (rfl:([d].map encU)[(0:Int).toNat]?=some (encU d)) fl_ (fun p37 hp37=>?_)
     refine D.ac hp37 ?_
     refine D.quoN (T % d*B9+g9 a i) (d) rfl rfl rfl rfl rfl rfl om_ (.inr ⟨rfl,by omega⟩) rfl rfl ?_
     refine D.ac (PtrTo.block (Mem.get hb3 mup) _) ?_
     refine D.ak (hb.mono mup) rfl rfl rfl rfl rfl rfl rfl rfl rfl rfl om_ (rfl:([d].map encU)[(0:Int).toNat]?=some (encU d)) fl_ (fun p42 hp42=>?_)
     refine D.ac hp42 ?_
     refine D.aD (i*1) rfl rfl rfl rfl rfl rfl rfl rfl rfl rfl (fun _=>⟨by omega,by omega,rfl⟩) rfl rfl ?_
     refine D.ba hH rfl ⟨?_, ?_,trivial⟩
     ·first | refine D.loadL (.head _) rfl rfl rfl rfl rfl rfl rfl rfl rfl ?_ | refine D.loadL (.tail _ (.head _)) rfl rfl rfl rfl rfl rfl rfl rfl rfl ?_
      refine D.remN (T % d*B9+g9 a i) (d) rfl rfl rfl rfl rfl rfl om_ rfl rfl ?_
      refine D.aE (j:=2) rfl rfl rfl rfl rfl rfl rfl rfl rfl rfl rfl (by show i*1+1<=_;rw [aW cY,hql];omega) ?_
      refine D.ag (j:=1) ?_
      refine D.done [] trivial (hR _ _ _ rfl ?_);clear hR hB hH R
      exact G.ar 0 (Mem.le.refl _) (fr':=[]) trivial ⟨trivial,rfl,rfl⟩
     ·refine D.aE (j:=2) rfl rfl rfl rfl rfl rfl rfl rfl rfl rfl rfl (by show i*1+1<=_;rw [aW cY,hql];omega) ?_
      first | refine D.loadL (.head _) rfl rfl rfl rfl rfl rfl rfl rfl rfl ?_ | refine D.loadL (.tail _ (.head _)) rfl rfl rfl rfl rfl rfl rfl rfl rfl ?_
      refine D.remN (T % d*B9+g9 a i) (d) rfl rfl rfl rfl rfl rfl om_ rfl rfl ?_
      refine D.ag (j:=1) ?_
      refine D.done [] trivial (hR _ _ _ rfl ?_);clear hR hB hH R
      exact G.ar 0 (Mem.le.refl _) (fr':=[]) trivial ⟨trivial,rfl,rfl⟩
    obtain ⟨_,rfl,rfl⟩:=hI
    refine G.perm (L':=[.obj b6 (.cells ⟨[.int .u64 (((T % d*B9+g9 a i) % d:Nat):Int)]⟩ 197 (0,0)),.obj b4 (.cells ⟨[qU b24 a.length a.length]⟩ 207 (0,0)),.arr (qU b24 a.length a.length) 197 1 a.length (aw (qs.map encU).flatten [Value.int .u64 (((T % d*B9+g9 a i) / d:Nat):Int)] (i*1))]) (pkL [0,1,0] rfl) ?_
    have hdr:val9 (a.drop i)=g9 a i+B9*T:=by rw [dJ om_,hT]
    have hmod:val9 (a.drop (a.length-(j+1))) % d=(T % d*B9+g9 a i) % d:=by rw [show a.length-(j+1)=i by omega,hdr,hdp.2]
    refine G.aM (L':=[.obj b6 (.cells ⟨[.int .u64 ((val9 (a.drop (a.length-(j+1))) % d:Nat):Int)]⟩ 197 (0,0)),.obj b4 (.cells ⟨[qU b24 a.length a.length]⟩ 207 (0,0)),.arr (qU b24 a.length a.length) 197 1 a.length ((qs.set i ((T % d*B9+g9 a i) / d)).map encU).flatten]) (by rw [hmod,<- aL cY _ (by omega:i<qs.length)];rfl) ?_
    exact G.roundEnd (R:=fun L'=>∃ (qs:List Nat),(qs.length=a.length/\Dig9 qs/\val9 (qs.drop (a.length-(j+1)))=val9 (a.drop (a.length-(j+1))) / d)/\L'=[.obj b6 (.cells ⟨[.int .u64 ((val9 (a.drop (a.length-(j+1))) % d:Nat):Int)]⟩ 197 (0,0)),.obj b4 (.cells ⟨[qU b24 a.length a.length]⟩ 207 (0,0)),.arr (qU b24 a.length a.length) 197 1 a.length (qs.map encU).flatten]) (List.Perm.refl _) ⟨qs.set i ((T % d*B9+g9 a i) / d),⟨by simp [hql],hqd.set hdl,by rw [show a.length-(j+1)=i by omega,hdr,val9_set_drop om_,hqv,hdp.1];omega⟩,rfl⟩
   ·obtain ⟨qs,⟨hql,hqd,hqv⟩,rfl⟩:=hI
    rw [d2,Nat.sub_self,List.drop_zero,List.drop_zero,hav] at hqv
    rw [d2,Nat.sub_self,List.drop_zero,hav]
    refine G.freezeArr 3 (qs.map encU) rfl rfl (by intro r hr;obtain ⟨y,_,rfl⟩:=List.mem_map.1 hr;rfl) (by rw [List.length_map,hql]) (fun Cq hleq hsq=>?_)
    refine G.bW (fun fr C' L' μ=>∃ (v47 v50:Value),(NineC C' v47 (m / d)/\NineC C' v50 (m % d))/\fr=[(4,[],.pointer (some ⟨b4,0,none⟩)),(5,[],v50)]/\L'=[.obj b4 (.cells ⟨[v47]⟩ 207 (0,0)),.obj bD (.deferred (some [])),.obj b6 (.cells ⟨[.int .u64 ((m % d:Nat):Int)]⟩ 197 (0,0))]) ?_ (fun fr Cr11 Lr11 μ hler11 hI=>?_)
    ·refine G.fj (.cut [0,2] (.alt 1 (.fin [3,4,5,6]) (.alt 3 (.fin [1,4,5,6]) .stop))) [] rfl rfl kr_ (fun R hB hR hH=>?_)
     refine D.ah (.tail _ (.tail _ (.head _))) ?_
     refine D.ah (.tail _ (.head _)) ?_
     refine D.ba hH rfl ⟨?_, ?_,trivial⟩
     ·refine D.aS (trim_n _ hqd (hsq.mono mup)) (fun v47 C47 hle47 hq47=>?_)
      refine D.af [encU (m % d)] (fun p49 C49 hle49 hs49=>?_)
      refine D.ax (trim_n _ (l:=[m % d]) (fun x hx=>by rw [List.mem_singleton.1 hx];have:=Nat.mod_lt m hd0;omega) (hs49.mono mup)) rfl rfl rfl rfl rfl rfl rfl fl_ (fun v50 C50 hle50 hq50=>?_)
      obtain ⟨A7,m7,c7,rfl⟩:=hq47.form
      refine D.ag (j:=2) ?_
      refine D.ae ?_
      refine D.e2 4 5 hR ?_;clear hR hB hH R
      rw [show val9 [m % d]=m % d from (by show m % d+B9*0=m % d;omega)] at hq50
      rw [hqv] at hq47
      exact G.ar 0 mup (h_2 4 5) ⟨_,v50,⟨hq47.mono mup,hq50.mono mup⟩,rfl,rfl⟩
     ·refine D.af [encU (m % d)] (fun p49 C49 hle49 hs49=>?_)
      refine D.aS (trim_n _ hqd (hsq.mono mup)) (fun v47 C47 hle47 hq47=>?_)
      refine D.ax (trim_n _ (l:=[m % d]) (fun x hx=>by rw [List.mem_singleton.1 hx];have:=Nat.mod_lt m hd0;omega) (hs49.mono mup)) rfl rfl rfl rfl rfl rfl rfl fl_ (fun v50 C50 hle50 hq50=>?_)
      obtain ⟨A7,m7,c7,rfl⟩:=hq47.form
      refine D.ag (j:=2) ?_
      refine D.ae ?_
      refine D.e2 4 5 hR ?_;clear hR hB hH R
      rw [show val9 [m % d]=m % d from (by show m % d+B9*0=m % d;omega)] at hq50
      rw [hqv] at hq47
      exact G.ar 0 mup (h_2 4 5) ⟨_,v50,⟨hq47.mono mup,hq50.mono mup⟩,rfl,rfl⟩
    obtain ⟨v47,v50,⟨hw1,hw2⟩,rfl,rfl⟩:=hI
    refine G.perm (L':=[.obj bD (.deferred (some [])),.obj b4 (.cells ⟨[v47]⟩ 207 (0,0)),.obj b6 (.cells ⟨[.int .u64 ((m % d:Nat):Int)]⟩ 197 (0,0))]) (pkL [1,0,0] rfl) ?_
    obtain ⟨A7,m7,c7,rfl⟩:=hw1.form
    refine G.ay (G.finM (res_ct (.head _) rfl rfl rfl rfl rfl) ?_)
    exact ⟨rfl,_,_,rfl,hw1,hw2⟩
  ·exact absurd h21 (by decide)

theorem val9_divP {l:List Nat}(h:Dig9 l){k:Nat}(hk:k<=l.length):val9 l / B9 ^ k=val9 (l.drop k):=by
 have e:val9 l=val9 (l.take k)+B9 ^ k*val9 (l.drop k):=by
  conv=>lhs;rw [<- List.take_append_drop k l]
  rw [dO,List.length_take,Nat.min_eq_left hk]
 have h1:=val9_lt (h.take k)
 rw [List.length_take,Nat.min_eq_left hk] at h1
 rw [e,Nat.add_mul_div_left _ _ (Nat.pow_pos (by decide)),Nat.div_eq_of_lt h1,Nat.zero_add]
theorem guess_ge {lx lb:List Nat}(hx:Can9 lx)(hb:Can9 lb)(hb0:0<lb.length)(hle:lb.length<=lx.length):val9 lx / val9 lb<=val9 (lx.drop (lb.length-1)) / g9 lb (lb.length-1)/\0<g9 lb (lb.length-1):=by
 have htop:val9 (lb.drop (lb.length-1))=g9 lb (lb.length-1):=by
  rw [dJ om_,show lb.length-1+1=lb.length by omega,List.drop_length]
  show _+B9*0=_
  omega
 have h1:=val9_divP hb.1 (k:=lb.length-1) om_
 have h2:=val9_divP hx.1 (k:=lb.length-1) om_
 have hg0:0<g9 lb (lb.length-1):=by
  rcases Nat.eq_zero_or_pos (g9 lb (lb.length-1)) with h | h
  ·have h3:=g9_get (l:=lb) (i:=lb.length-1) om_
   rw [h] at h3
   exact absurd (by rw [List.getLast?_eq_getElem?];exact h3) hb.2
  ·exact h
 refine ⟨?_,hg0⟩
 rw [<- h2,<- htop,<- h1,Nat.div_div_eq_div_mul]
 have hP:0<B9 ^ (lb.length-1):=Nat.pow_pos (by decide)
 rw [htop] at h1
 refine Nat.div_le_div_left (Nat.mul_div_le _ _) ?_
 rw [h1]
 exact Nat.mul_pos hP hg0
theorem lead_one {l:List Nat}{k:Nat}(h:l.length=k+1):val9 (l.drop k)=g9 l k:=by
 rw [dJ om_,show k+1=l.length by omega,List.drop_length]
 show _+B9*0=_
 omega
theorem lead_two {l:List Nat}{k:Nat}(h:l.length=k+2):val9 (l.drop k)=g9 l (k+1)*B9+g9 l k:=by
 rw [dJ om_,lead_one (k:=k+1) om_,Nat.mul_comm];omega
theorem can9_len_le {a b:List Nat}(ha:Can9 a)(hb:Can9 b)(h:val9 b<=val9 a):b.length<=a.length:=by
 rcases Nat.lt_or_ge a.length b.length with h1 | h1
 ·have:=len9_lt ha.1 hb h1;omega
 ·exact h1
theorem can9_len_le1 {a b:List Nat}(ha:Can9 a)(hb:Can9 b)(h:val9 a<B9*val9 b):a.length<=b.length+1:=by
 have h2:=val9_lt hb.1
 refine can9_short ha (Nat.lt_of_lt_of_le h ?_)
 rw [Nat.pow_succ,Nat.mul_comm]
 exact Nat.mul_le_mul_right _ (Nat.le_of_lt h2)
theorem small_lt {m k f:Nat}(hm:m<B9 ^ k)(hf:f<B9):m*f<B9 ^ (k+1):=by
 rw [Nat.pow_succ]
 exact Nat.mul_lt_mul'' hm hf
theorem big_lt {x a k:Nat}(h:x<B9*a)(ha:a<B9 ^ k):x<B9 ^ (k+1):=by
 rw [Nat.pow_succ,Nat.mul_comm _ B9]
 exact Nat.lt_trans h (Nat.mul_lt_mul_of_pos_left ha (by decide))
theorem all_oneU (l:List Nat):(l.map encU).all (fun r=>r.all oneB)=true:=by
 rw [List.all_map,List.all_eq_true]
 intro x _
 rfl
theorem divideL_fn (C:Mem)(va vb:Value)(m n:Nat)(ha:NineC C va m)(hb:NineC C vb n)(hm:m<B9 ^ 100000)(hn1:B9<=n) :
  Pur cx.P 164 [va,vb] C fun u D=>∃ q r,u=.tuple #[q,r]/\NineC D q (m / n)/\NineC D r (m % n):=by
 have hn0:0<n:=Nat.lt_of_lt_of_le (by decide) hn1
 have ha0:=ha
 have hb0:=hb
 obtain ⟨B,hcb,hbv,hsb⟩:=hb
 obtain ⟨A0,a0,c0,rfl⟩:=ha.form
 obtain ⟨B0,d0,rfl,hbd1,hbd2,_⟩:=id hsb
 simp only [List.length_map] at hsb hb0 hbd1 ⊢
 have hmx:maxLen<=9223372036854775807:=by simp [maxLen]
 have hB:=B9v
 have hBl:2<=B.length:=by
  rcases Nat.lt_or_ge B.length 2 with h | h
  ·have h2:=val9_lt hcb.1
   have h3:B9 ^ B.length<=B9 ^ 1:=Nat.pow_le_pow_right (by decide) om_
   rw [Nat.pow_one] at h3
   omega
  ·exact h
 refine Fn.introM kr_ Tryz.func164 rfl 146 rfl rfl (fun w0=>?_)
 refine G.rg fun R hR=>?_
 refine D.aX (fun b3=>?_)
 refine D.aC (fun b4=>?_)
 refine D.q4 1 0 3 4 5 hR ?_;clear hR R
 refine G.rp 1 fun R hR=>?_
 skip
 refine D.ah (.tail _ (.head _)) ?_
 refine D.aj (order_n _ (ha0.mono mup) (hb0.mono mup)) ?_
 refine D.q5 1 0 3 4 5 17 hR ?_;clear hR R
 refine G.cd (fun h17=>?_) fun h17=>?_
 ·have hlt:m<n:=by
   have:ordZ m n<0:=by simpa using h17
   exact ordZ_lt.1 this
  refine G.rp 1 fun R hR=>?_
  refine D.ag (j:=0) ?_
  refine D.q2 1 4 5 hR ?_;clear hR R
  refine G.ay (G.finR (res_ct (.head _) rfl rfl rfl rfl rfl) ?_ endsM)
  refine ⟨rfl,_,_,rfl, ?_, ?_⟩
  ·rw [Nat.div_eq_of_lt hlt];exact NineC.zero _
  ·rw [Nat.mod_eq_of_lt hlt];exact ha0.mono mup
 ·have hlt:n<=m:=by
   have h:¬ ordZ m n<0:=by simpa using h17
   rw [ordZ_lt] at h
   omega
  refine G.rg fun R hR=>?_
  refine D.ah (.tail _ (.head _)) ?_
  refine D.q5 2 0 3 4 5 21 hR ?_;clear hR R
  refine G.cd (fun h21=>?_) fun h21=>?_
  ·exact absurd h21 (by simp;omega)
  ·have htop0:=g9_lt hcb.1 (B.length-1)
   have hrb:(B.map encU)[((B.length:Int)-1).toNat]?=some (encU (g9 B (B.length-1))):=by
    rw [show ((B.length:Int)-1).toNat=B.length-1 by omega];exact g9_row om_
   obtain ⟨f,hf⟩:∃ f,B9 / (g9 B (B.length-1)+1)=f:=⟨_,rfl⟩
   refine G.rg fun R hR=>?_
   refine D.ah (.tail _ (.head _)) ?_
   refine D.ah (.tail _ (.head _)) ?_
   refine D.ae ?_
   refine D.aq _ ?_
   refine D.ak (hsb.mono mup) rfl rfl rfl rfl rfl rfl rfl rfl rfl rfl om_ hrb fl_ (fun p55 hp55=>?_)
   refine D.ac hp55 ?_
   refine D.int (((g9 B (B.length-1)+1:Nat):Int)) rfl rfl rfl rfl (by rw [IntKind.wrap_u64];omega) rfl rfl ?_
   refine D.quoN (B9) (g9 B (B.length-1)+1) rfl rfl rfl rfl rfl rfl om_ (.inr ⟨rfl,by omega⟩) rfl rfl ?_
   refine D.q5 1 0 3 4 5 9 hR ?_;clear hR R
   rw [hf]
   have hf0:0<f:=by rw [<- hf];exact Nat.div_pos om_ om_
   have hfB:f<B9:=by
    rw [<- hf]
    have h1:=(guess_ge hcb hcb om_ (Nat.le_refl _)).2
    exact Nat.div_lt_self (by decide) om_
   have hnB:n<B9 ^ 100000:=Nat.lt_of_le_of_lt hlt hm
   refine G.aH [0,1,3,4,2,5,6,7] [] rfl kr_ (fun R hB hR=>?_)
   refine D.ps 2 ?_
   refine D.ah (.tail _ (.head _)) ?_
   refine D.ae ?_
   refine D.ax (small_n (k:=100000) _ (ha0.mono mup) hm hfB om_) rfl rfl rfl rfl rfl rfl rfl fl_ (fun v61 C61 hle61 hq61=>?_)
   refine D.ax (small_n (k:=100000) _ (hb0.mono mup) hnB hfB om_) rfl rfl rfl rfl rfl rfl rfl fl_ (fun v64 C64 hle64 hq64=>?_)
   refine D.ae ?_
   obtain ⟨A64,m64,c64,rfl⟩:=hq64.form
   refine D.ag (j:=1) ?_
   refine D.e5 0 3 4 5 9 hR ?_;clear hR hB R
   have hx61:=hq61.mono hle64
   have hx64:=hq64
   refine G.freeze 0 rfl (fun C3 hle3 hb3=>?_)
   obtain ⟨P,hcP,hPv,hPl,hsP⟩:=(hx61.mono hle3).get (small_lt hm hfB)
   obtain ⟨W,hcD,hDv,hDl,hsD⟩:=(hx64.mono hle3).get (small_lt hnB hfB)
   obtain ⟨PA,pc,rfl,_⟩:=id hsP
   obtain ⟨DA',dc',heD,_⟩:=id hsD
   cases heD
   simp only [List.length_map] at hsP hsD hb3 hx61 hx64 ⊢
   have hnD:NineC C3 (.slice A64 W.length c64) (n*f):=⟨W,hcD,hDv,hsD⟩
   have hNf:0<n*f:=Nat.mul_pos hn0 hf0
   have hNfB:n*f<B9 ^ 100001:=cI (k:=100001) (n:=100000+1) (small_lt (k:=100000) hnB hfB) (Nat.le_refl _)
   have hD2:2<=W.length:=by
    have h1:B9<=val9 W:=by rw [hDv];exact Nat.le_trans hn1 (Nat.le_mul_of_pos_right _ hf0)
    rcases Nat.lt_or_ge W.length 2 with h | h
    ·have h2:=val9_lt hcD.1
     have h3:B9 ^ W.length<=B9 ^ 1:=Nat.pow_le_pow_right (by decide) om_
     rw [Nat.pow_one] at h3
     omega
    ·exact h
   have hP1:1<=P.length:=by
    rcases Nat.eq_zero_or_pos P.length with h | h
    ·have:P=[]:=List.eq_nil_of_length_eq_zero h
     subst this
     have h1:m*f=0:=by rw [<- hPv];rfl
     have h2:0<m*f:=Nat.mul_pos om_ hf0
     omega
    ·exact h
   have htop:=(guess_ge hcD hcD om_ (Nat.le_refl _)).2
   have htl:=g9_lt hcD.1 (W.length-1)
   refine G.rp 2 fun R hR=>?_
   refine D.bu rfl rfl rfl rfl rfl rfl rfl rfl rfl (Nat.le_refl _) (by show 8*P.length<=281474976710656;omega) (by simp only [maxLen];omega) fl_ (fun b67=>?_)
   refine D.ag (j:=1) ?_
   refine D.e5 0 3 4 5 9 hR ?_;clear hR R
   refine G.rg fun R hR=>?_
   refine D.ac (PtrTo.block (Mem.get hb3 mup) _) ?_
   refine D.ac (PtrTo.block (Mem.get hb3 mup) _) ?_
   refine D.ae ?_
   refine D.aq _ ?_
   refine D.ak (hsD.mono mup) rfl rfl rfl rfl rfl rfl rfl rfl rfl rfl om_ (by rw [show ((W.length:Int)-1).toNat=W.length-1 by omega];exact g9_row om_:(W.map encU)[((W.length:Int)-1).toNat]?=some (encU (g9 W (W.length-1)))) fl_ (fun p72 hp72=>?_)
   refine D.ac hp72 ?_
   refine D.q6 1 0 3 4 5 9 10 hR ?_;clear hR R
   refine G.rp 2 fun R hR=>?_
   refine D.aq _ ?_
   refine D.q7 1 0 3 4 5 9 10 11 hR ?_;clear hR R
   refine G.aM (L':=[.obj b4 (.cells ⟨[qU b67 P.length P.length]⟩ 207 (0,0)),.arr (qU b67 P.length P.length) 197 1 P.length ((List.replicate P.length 0).map encU).flatten]) (by rw [<- zrow_U];rfl) ?_
   refine G.loop (fun fr C' L' μ=>∃ (i:Nat)(qs:List Nat)(v5:Value),(i<=P.length/\qs.length=P.length/\Dig9 qs/\val9 (qs.drop i)=val9 (P.drop i) / (n*f)/\NineC C' v5 (val9 (P.drop i) % (n*f))/\∀ j,j<i->g9 qs j=0)/\fr=[(0,[],.slice PA P.length pc),(3,[],.pointer (some ⟨b3,0,none⟩)),(4,[],.pointer (some ⟨b4,0,none⟩)),(5,[],v5),(9,[],.int .u64 f),(10,[],.int .u64 (g9 W (W.length-1))),(11,[],.int .i64 ((i:Int)-1))]/\L'=[.obj b4 (.cells ⟨[qU b67 P.length P.length]⟩ 207 (0,0)),.arr (qU b67 P.length P.length) 197 1 P.length (qs.map encU).flatten]/\μ=i+1) (h_7 0 3 4 5 9 10 11) ⟨P.length,List.replicate P.length 0,_,⟨Nat.le_refl _,List.length_replicate,(fun x hx=>by rw [List.eq_of_mem_replicate hx];decide),by rw [List.drop_length,List.drop_of_length_le (by simp)];simp [val9],by rw [List.drop_length,show val9 []=0 from rfl,Nat.zero_mod];exact NineC.zero _,fun j _=>g9_zeros _ j⟩,rfl,rfl,rfl⟩ (fun fr C0' L0' m hle0 hI=>?_)
   obtain ⟨i,qs,v5,⟨hi,hql,hqd,hqv,hr5,hqz⟩,rfl,rfl,rfl⟩:=hI
   refine G.z8 2 0 3 4 5 9 10 11 78 ?_
   refine G.cd (fun h78=>?_) fun h78=>?_
   ·have hi0:0<i:=by
     have:(0:Int)<=(i:Int)-1:=by simpa using h78
     omega
    obtain ⟨j,rfl⟩:∃ j,i=j+1:=⟨i-1,by omega⟩
    obtain ⟨T,hT⟩:∃ T,val9 (P.drop (j+1))=T:=⟨_,rfl⟩
    rw [hT] at hqv hr5
    have hTm:=Nat.mod_lt T hNf
    obtain ⟨Rl,hcR,hRv,hRl,hsR⟩:=hr5.get (m:=100001) (Nat.lt_trans hTm (cI (k:=100001) (n:=100000+1) (small_lt (k:=100000) hnB hfB) (Nat.le_refl _)))
    obtain ⟨RA,rc,heR,_⟩:=id hsR
    rw [List.length_map] at heR
    subst heR
    obtain ⟨X,hX⟩:∃ X,g9 P j+B9*(T % (n*f))=X:=⟨_,rfl⟩
    have hpj:=g9_lt hcP.1 j
    have hXv:val9 (g9 P j::Rl)=X:=by rw [val9,hRv,hX]
    have hdp:=div_piece9 (t:=T) (x:=g9 P j) hNf
    have hdl:=div_piece9_lt (t:=T) hNf hpj
    rw [hX] at hdp hdl
    have hPj:val9 (P.drop j)=g9 P j+B9*T:=by rw [dJ om_,hT]
    refine G.aA [(7,3)] rfl (fun R hR=>?_)
    refine D.ps 2 ?_
    refine D.ak (hsP.mono mup) rfl rfl rfl rfl rfl rfl rfl rfl rfl rfl om_ (by rw [show ((((j+1:Nat):Int)-1)).toNat=j by omega];exact g9_row om_:(P.map encU)[((((j+1:Nat):Int)-1)).toNat]?=some (encU (g9 P j))) fl_ (fun p83 hp83=>?_)
    refine D.ac hp83 ?_
    refine D.bw [encU (g9 P j)] rfl rfl rfl rfl rfl rfl rfl rfl rfl rfl rfl rfl fl_ (fun b85=>?_)
    refine D.ae ?_
    refine D.append (j:=0) rfl rfl rfl rfl rfl rfl rfl rfl rfl rfl rfl (hsR.mono mup) (all_oneU Rl) (by simp only [List.length_map,List.length_singleton,maxLen];omega) (by simp only [List.length_map,List.length_singleton];omega) fl_ (fun v87=>?_)
    refine D.call (ek _ _ (g9 P j::Rl) (n:=1+(Rl.map encU).length) (by rw [List.length_map];simp;omega)) rfl (.inr (by decide)) rfl rfl rfl rfl rfl rfl (List.Perm.refl _) fl_ (fun v88 C88 L88 hle88 hq88=>?_)
    refine D.q7 1 0 3 4 5 9 10 11 hR ?_;clear hR R
    obtain ⟨rfl,hu⟩:=hq88
    have hXn:NineC C88 v88 X:=⟨cut9 (g9 P j::Rl),eV (fun x hx=>(List.mem_cons.1 hx).elim (fun h=>by rw [h];exact hpj) (hcR.1 x)),by rw [eU,hXv],hu⟩
    have hXlt:X<B9*(n*f):=by
     have h1:B9*(T % (n*f)+1)<=B9*(n*f):=Nat.mul_le_mul_left _ hTm
     rw [Nat.mul_add] at h1
     omega
    have hXB:X<B9 ^ 100002:=cI (k:=100002) (n:=100001+1) (big_lt (k:=100001) hXlt hNfB) (Nat.le_refl _)
    obtain ⟨Xl,hcX,hXlv,hXll,hsX⟩:=hXn.get hXB
    obtain ⟨XA,xc,heX,_⟩:=id hsX
    rw [List.length_map] at heX
    subst heX
    refine G.rp 1 fun R hR=>?_
    refine D.ac (PtrTo.block (Mem.get hb3 mup) _) ?_
    refine D.aj (order_n _ (hXn.mono mup) (hnD.mono mup)) ?_
    refine D.q8 1 0 3 4 5 9 10 11 92 hR ?_;clear hR R
    refine G.cd (fun h92=>?_) fun h92=>?_
    ·have hXs:X<n*f:=by
      have:ordZ X (n*f)<0:=by simpa using h92
      exact ordZ_lt.1 this
     refine G.rp 1 fun R hR=>?_
     refine D.aq _ ?_
     refine D.q7 1 0 3 4 5 9 10 11 hR ?_;clear hR R
     rw [show ((j+1:Nat):Int)-1-1=(j:Int)-1 by omega]
     refine G.ap (m':=j+1) om_ mup (h_7 0 3 4 5 9 10 11) ⟨j,qs,_,⟨by omega,hql,hqd,by rw [dJ (l:=qs) om_,hqz j om_,hqv,hPj,hdp.1,Nat.div_eq_of_lt hXs];omega,by rw [hPj,hdp.2,Nat.mod_eq_of_lt hXs];exact hXn.mono mup,fun j' h=>hqz j' om_⟩,rfl,rfl,rfl⟩
    ·have hXg:n*f<=X:=by
      have h:¬ ordZ X (n*f)<0:=by simpa using h92
      rw [ordZ_lt] at h
      omega
     have hlen1:=can9_len_le hcX hcD (by rw [hXlv,hDv];exact hXg)
     have hlen2:=can9_len_le1 hcX hcD (by rw [hXlv,hDv];exact hXlt)
     have hgs:=(guess_ge hcX hcD om_ hlen1).1
     obtain ⟨lead,hlead⟩:∃ lead,val9 (Xl.drop (W.length-1))=lead:=⟨_,rfl⟩
     rw [hXlv,hDv,hlead] at hgs
     have hg1:=g9_lt hcX.1 (Xl.length-1)
     have hg2:=g9_lt hcX.1 (Xl.length-2)
     refine G.rp 3 fun R hR=>?_
     refine D.aq _ ?_
     refine D.ak (hsX.mono mup) rfl rfl rfl rfl rfl rfl rfl rfl rfl rfl om_ (by rw [show ((Xl.length:Int)-1).toNat=Xl.length-1 by omega];exact g9_row om_:(Xl.map encU)[((Xl.length:Int)-1).toNat]?=some (encU (g9 Xl (Xl.length-1)))) fl_ (fun p97 hp97=>?_)
     refine D.ac hp97 ?_
     refine D.q8 1 0 3 4 5 9 10 11 12 hR ?_;clear hR R
     refine G.rp 2 fun R hR=>?_
     refine D.ac (PtrTo.block (Mem.get hb3 mup) _) ?_
     refine D.q9 2 0 3 4 5 9 10 11 12 103 hR ?_;clear hR R
     refine G.bW (fun fr C' L' μ=>(lead<1000000000000000000)/\fr=[(0,[],.slice PA P.length pc),(3,[],.pointer (some ⟨b3,0,none⟩)),(4,[],.pointer (some ⟨b4,0,none⟩)),(5,[],.slice XA Xl.length xc),(9,[],.int .u64 f),(10,[],.int .u64 (g9 W (W.length-1))),(11,[],.int .i64 (((j+1:Nat):Int)-1)),(12,[],.int .u64 (lead:Nat))]/\L'=[.obj b4 (.cells ⟨[qU b67 P.length P.length]⟩ 207 (0,0)),.arr (qU b67 P.length P.length) 197 1 P.length (qs.map encU).flatten]) ?_ (fun fr C103 L103 μ hle103 hI=>?_)
     ·refine G.cd (fun h103=>?_) fun h103=>?_
      ·have hl2:Xl.length=W.length-1+2:=by
        have:(W.length:Int)<(Xl.length:Int):=by simpa using h103
        omega
       have hlv:=lead_two hl2
       rw [hlead,show W.length-1+1=Xl.length-1 by omega,show W.length-1=Xl.length-2 by omega] at hlv
       have hgm:g9 Xl (Xl.length-1)*B9<=999999999*B9:=Nat.mul_le_mul_right _ om_
       rw [show 999999999*B9=999999999000000000 from rfl] at hgm
       refine G.rp 1 fun R hR=>?_
       refine D.int (((g9 Xl (Xl.length-1)*B9:Nat):Int)) rfl rfl rfl rfl (by rw [show (1000000000:Int)=((B9:Nat):Int) from rfl,<- Int.natCast_mul,IntKind.wrap_u64];omega) rfl rfl ?_
       refine D.ps 3 ?_
       refine D.aq _ ?_
       refine D.ak (hsX.mono mup) rfl rfl rfl rfl rfl rfl rfl rfl rfl rfl om_ (by rw [show ((Xl.length:Int)-2).toNat=Xl.length-2 by omega];exact g9_row om_:(Xl.map encU)[((Xl.length:Int)-2).toNat]?=some (encU (g9 Xl (Xl.length-2)))) fl_ (fun p110 hp110=>?_)
       refine D.ac hp110 ?_
       refine D.int (((lead:Nat):Int)) rfl rfl rfl rfl (by rw [hlv,IntKind.wrap_u64];omega) rfl rfl ?_
       refine D.q8 1 0 3 4 5 9 10 11 12 hR ?_;clear hR R
       refine G.ar 0 mup (h_8 0 3 4 5 9 10 11 12) ⟨by omega,rfl,rfl⟩
      ·have hl1:Xl.length=W.length-1+1:=by
        have:¬ (W.length:Int)<(Xl.length:Int):=by simpa using h103
        omega
       have hlv:=lead_one hl1
       rw [hlead,show W.length-1=Xl.length-1 by omega] at hlv
       rw [<- hlv]
       refine G.ar 0 mup (h_8 0 3 4 5 9 10 11 12) ⟨by omega,rfl,rfl⟩
     ·obtain ⟨hll,rfl,rfl⟩:=hI
      obtain ⟨gq,hgq⟩:∃ gq,lead / g9 W (W.length-1)=gq:=⟨_,rfl⟩
      rw [hgq] at hgs
      have hgl:gq<=lead:=by rw [<- hgq];exact Nat.div_le_self _ _
      refine G.rp 2 fun R hR=>?_
      refine D.quoN (lead) (g9 W (W.length-1)) rfl rfl rfl rfl rfl rfl htop (.inr ⟨rfl,by omega⟩) rfl rfl ?_
      rw [hgq]
      refine D.min (((min gq 999999999:Nat):Int)) rfl rfl rfl rfl rfl rfl om_ rfl rfl ?_
      refine D.q8 1 0 3 4 5 9 10 11 12 hR ?_;clear hR R
      refine G.rg fun R hR=>?_
      refine D.ac (PtrTo.block (Mem.get hb3 mup) _) ?_
      refine D.ae ?_
      refine D.ax (small_n (k:=100001) _ (hnD.mono mup) hNfB om_ om_) rfl rfl rfl rfl rfl rfl rfl fl_ (fun v119 C119 hle119 hq119=>?_)
      refine D.q9 1 0 3 4 5 9 10 11 12 13 hR ?_;clear hR R
      refine G.loop (fun fr C' L' μ=>∃ (dd:Nat)(v13:Value),(X / (n*f)<=dd/\dd<B9/\NineC C' v13 (n*f*dd))/\fr=[(0,[],.slice PA P.length pc),(3,[],.pointer (some ⟨b3,0,none⟩)),(4,[],.pointer (some ⟨b4,0,none⟩)),(5,[],.slice XA Xl.length xc),(9,[],.int .u64 f),(10,[],.int .u64 (g9 W (W.length-1))),(11,[],.int .i64 (((j+1:Nat):Int)-1)),(12,[],.int .u64 (dd:Nat)),(13,[],v13)]/\L'=[.obj b4 (.cells ⟨[qU b67 P.length P.length]⟩ 207 (0,0)),.arr (qU b67 P.length P.length) 197 1 P.length (qs.map encU).flatten]/\μ=dd+1) (h_9 0 3 4 5 9 10 11 12 13) ⟨min gq 999999999,v119,⟨by have h:=Nat.le_min.2 ⟨hgs,(by omega:X / (n*f)<=999999999)⟩;exact h,by omega,hq119.mono mup⟩,rfl,rfl,rfl⟩ (fun fr C1' L1' m hle1 hI=>?_)
      obtain ⟨dd,v13,⟨hdd1,hdd2,hp13⟩,rfl,rfl,rfl⟩:=hI
      refine G.rp 2 fun R hR=>?_
      refine D.aj (order_n _ (hp13.mono mup) (hXn.mono mup)) ?_
      refine D.q10 1 0 3 4 5 9 10 11 12 13 123 hR ?_;clear hR R
      refine G.cd (fun h123=>?_) fun h123=>?_
      ·have hgt:X<n*f*dd:=by
        have:0<ordZ (n*f*dd) X:=by simpa using h123
        exact ordZ_gt.1 this
       have hdd0:1<=dd:=by
        rcases Nat.eq_zero_or_pos dd with h | h
        ·rw [h] at hgt;omega
        ·exact h
       refine G.rp 1 fun R hR=>?_
       refine D.ac (PtrTo.block (Mem.get hb3 mup) _) ?_
       refine D.ax (minus_n (k:=100002) _ (hp13.mono mup) (hnD.mono mup) (cI (k:=100002) (n:=100001+1) (small_lt (k:=100001) hNfB hdd2) (Nat.le_refl _)) (Nat.le_mul_of_pos_right _ hdd0) om_) rfl rfl rfl rfl rfl rfl rfl fl_ (fun v126 C126 hle126 hq126=>?_)
       refine D.q9 1 0 3 4 5 9 10 11 12 13 hR ?_;clear hR R
       refine G.rp 1 fun R hR=>?_
       refine D.int (((dd-1:Nat):Int)) rfl rfl rfl rfl (by rw [IntKind.wrap_u64];omega) rfl rfl ?_
       refine D.q9 1 0 3 4 5 9 10 11 12 13 hR ?_;clear hR R
       rw [show n*f*dd-n*f=n*f*(dd-1) from by rw [Nat.mul_sub,Nat.mul_one]] at hq126
       refine G.ap (m':=dd-1+1) om_ mup (h_9 0 3 4 5 9 10 11 12 13) ⟨dd-1,v126,⟨by have h:=(Nat.div_lt_iff_lt_mul hNf).2 (by rw [Nat.mul_comm];exact hgt);omega,by omega,hq126.mono mup⟩,rfl,rfl,rfl⟩
      ·have hgt:n*f*dd<=X:=by
        have h:¬ 0<ordZ (n*f*dd) X:=by simpa using h123
        rw [ordZ_gt] at h
        omega
       have hdde:dd=X / (n*f):=Nat.le_antisymm ((Nat.le_div_iff_mul_le hNf).2 (by rw [Nat.mul_comm];exact hgt)) hdd1
       have hrest:X-n*f*dd=X % (n*f):=by rw [hdde];have:=Nat.mod_add_div X (n*f);omega
       refine G.aH [0,1,2,3,4,5,6,7,8] [] rfl kr_ (fun R hB hR=>?_)
       refine D.ah (.head _) ?_
       refine D.ps 4 ?_
       refine D.ax (minus_n (k:=100002) _ (hXn.mono mup) (hp13.mono mup) hXB hgt om_) rfl rfl rfl rfl rfl rfl rfl fl_ (fun v134 C134 hle134 hq134=>?_)
       refine D.aD (j*1) rfl rfl rfl rfl rfl rfl rfl rfl rfl rfl (fun _=>⟨by omega,by omega,(by rw [show (((j+1:Nat):Int)-1).toNat=j by omega])⟩) rfl rfl ?_
       refine D.aE (j:=1) rfl rfl rfl rfl rfl rfl rfl rfl rfl rfl rfl (by show j*1+1<=_;rw [aW cY,hql];omega) ?_
       refine D.ae ?_
       refine D.e7 0 3 4 5 9 10 11 hR ?_;clear hR hB R
       refine G.rp 1 fun R hR=>?_
       refine D.aq _ ?_
       refine D.q7 1 0 3 4 5 9 10 11 hR ?_;clear hR R
       rw [show ((j+1:Nat):Int)-1-1=(j:Int)-1 by omega]
       refine G.perm (L':=[.obj b4 (.cells ⟨[qU b67 P.length P.length]⟩ 207 (0,0)),.arr (qU b67 P.length P.length) 197 1 P.length (aw (qs.map encU).flatten (encU dd) (j*1))]) (List.Perm.swap _ _ _) ?_
       refine G.aM (L':=[.obj b4 (.cells ⟨[qU b67 P.length P.length]⟩ 207 (0,0)),.arr (qU b67 P.length P.length) 197 1 P.length ((qs.set j dd).map encU).flatten]) (by rw [<- aL cY _ (by omega:j<qs.length)]) ?_
       rw [hrest] at hq134
       refine G.ap (m':=j+1) om_ mup (h_7 0 3 4 5 9 10 11) ⟨j,qs.set j dd,v134,⟨by omega,by simp [hql],hqd.set hdd2,by rw [val9_set_drop om_,hqv,hPj,hdp.1,hdde];omega,by rw [hPj,hdp.2];exact hq134.mono mup,fun j' h=>by rw [g9_set_ne om_];exact hqz j' om_⟩,rfl,rfl,rfl⟩
   ·have hi0:i=0:=by
     have:¬ (0:Int)<=(i:Int)-1:=by simpa using h78
     omega
    subst hi0
    rw [List.drop_zero,List.drop_zero,hPv,Nat.mul_div_mul_right _ _ hf0] at hqv
    rw [List.drop_zero,hPv,Nat.mul_mod_mul_right] at hr5
    refine G.rp 2 fun R hR=>?_
    refine D.af [encU f] (fun p139 C139 hle139 hs139=>?_)
    refine D.ax (divide1_fn _ _ _ (m % n*f) f (hr5.mono mup) (by
     have h1:=small_lt (k:=100000) (Nat.lt_trans (Nat.mod_lt m hn0) hnB) hfB
     exact cI (k:=200000) (n:=100000+1) h1 (by decide)) (hs139.mono mup) hf0 hfB) rfl rfl rfl rfl rfl rfl rfl fl_ (fun v140 C140 hle140 hq140=>?_)
    obtain ⟨q2,r2,rfl,hq2,hr2⟩:=hq140
    rw [Nat.mul_div_cancel _ hf0] at hq2
    refine D.q2 4 4 5 hR ?_;clear hR R
    refine G.perm (L':=[.arr (qU b67 P.length P.length) 197 1 P.length (qs.map encU).flatten,.obj b4 (.cells ⟨[qU b67 P.length P.length]⟩ 207 (0,0))]) (List.Perm.swap _ _ _) ?_
    refine G.aA [(1,3)] rfl (fun R hR=>?_)
    refine D.ah (.tail _ (.head _)) ?_
    refine D.call (ek _ _ qs hql) rfl (.inr (by decide)) rfl rfl rfl rfl rfl rfl (List.Perm.refl _) fl_ (fun v144 C144 L144 hle144 hq144=>?_)
    refine D.ae ?_
    obtain ⟨rfl,hu⟩:=hq144
    obtain ⟨Au,cu,rfl,_⟩:=id hu
    refine D.ag (j:=0) ?_
    refine D.q2 1 4 5 hR ?_;clear hR R
    refine G.ay (G.finR (res_ct (.head _) rfl rfl rfl rfl rfl) ?_ endsM)
    exact ⟨rfl,_,_,rfl,⟨cut9 qs,eV hqd,by rw [eU,hqv],hu⟩,hq2.mono mup⟩
theorem divide_fn (C:Mem)(va vb:Value)(m n:Nat)(ha:NineC C va m)(hb:NineC C vb n)(hm:m<B9 ^ 100000)(hn0:0<n) :
  Pur cx.P 164 [va,vb] C fun u D=>∃ q r,u=.tuple #[q,r]/\NineC D q (m / n)/\NineC D r (m % n):=by
 rcases Nat.lt_or_ge n B9 with hn1 | hn1
 ·obtain ⟨l,h1,h2,h3,h4⟩:=hb.get (m:=1) (by rw [Nat.pow_one];exact hn1)
  have hne:l≠[]:=fun e=>by rw [e] at h2;rw [<- h2] at hn0;exact absurd hn0 (by decide)
  obtain ⟨d,rfl⟩:∃ d,l=[d]:=by
   cases l with
   | nil=>exact absurd rfl hne
   | cons d l=>cases l with
    | nil=>exact ⟨d,rfl⟩
    | cons e l=>simp at h3
  have hd:d=n:=by rw [<- h2];show d=d+B9*0;omega
  subst hd
  exact divide1_fn C va vb m d ha (cI (k:=200000) (n:=100000) hm (by decide)) h4 hn0 hn1
 ·exact divideL_fn C va vb m n ha hb hm hn1
end Go.Proofs.YtifolnapeolhcaaGreatDoor
