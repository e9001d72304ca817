/- FOR ANY PLAN AND ANY TWO DESCRIBED SURFACES ConstraintFails ANSWERS true, and leaves them as they were. -/
import Derived.Test.YtmgkekjbbodicaaGreatDoorG11
import Derived.Test.YtmgkekjbbodicaaGreatDoorShelf
set_option maxHeartbeats 4000000
namespace Go.Jog
open Go
theorem G.formB {F:Fx}{k:List KI}{fr:Fr}{C:Mem}{L:List Ent}{e:Exit}{v:Value}{t size len:Nat}{xs:List Value}(hm:Ent.arr v t size len xs∈L)(h:∀ A c,v=.slice A len c->(0<len->∃ g,A=some ⟨g,0,none⟩)->G F k e fr C L):G F k e fr C L :=
 G.form hm fun hf _=>by
  rcases hf with ⟨h1,h2⟩ | ⟨g,c,h1,_,_⟩
  ·exact h none 0 (by rw [h1,h2]) (by omega)
  ·exact h _ c h1 (fun _=>⟨g,rfl⟩)
end Go.Jog
namespace Go.Proofs.YtmgkekjbbodicaaGreatDoor
open Go Go.Jog
set_option maxRecDepth 100000

theorem lzeros_fn (C:Mem)(bv:Value)(B:Bk)(hB:BookIn C bv B)(hc:B.col.length<=1000)(hc0:B.col≠[])(hp:B.pts.length<=400):Jog.Fn cx.P 43 [bv] C [] fun u _C' L'=>∃ A c,u=.slice A (bs B*bp B:Nat) c/\(0<bs B*bp B->∃ g,A=some ⟨g,0,none⟩)/\L'=[.arr u 54 1 (bs B*bp B) (List.replicate (bs B*bp B) (strV [48]))]:=by
 have hm:bs B*bp B<=1000*400:=Nat.mul_le_mul (by unfold bs;omega) hp
 have hB0:=hB
 obtain ⟨v1,v2,tv,cv,ov,rfl,h1,h2,h3,h4,h5⟩:=id hB.ex
 have hmx:1000000<=maxLen:=by simp [maxLen]
 obtain ⟨N,hN⟩:∃ N,bs B*bp B=N:=⟨_,rfl⟩
 have hcnt:∀ D:Mem,C.le D->Gives cx.P 16 [.agg ⟨[v1,v2,tv,cv,ov]⟩] D (.int .i64 ((N:Nat):Int)):=fun D hD=>by
  have h:=lcount_fn D _ B (hB0.mono hD) hc hc0 hp
  rw [hN] at h
  exact h
 rw [hN] at hm ⊢
 refine Fn.it (by kernel_rfl) Tryz.func43 15 fun w0=>?_
 refine G.rg fun R hR=>?_
 refine D.aC (fun b1=>?_)
 refine D.q1 1 1 hR ?_
 refine G.freeze 0 rfl (fun C1 hle1 hb1=>?_)
 refine G.z2 1 1 3 ?_
 refine G.z3 1 1 3 4 ?_
 refine G.nilArr 54 1 ?_
 refine G.loop (fun fr C' L' μ=>∃ (i:Nat)(w:Value),(i<=N)/\fr=[(1,[],.pointer (some ⟨b1,0,none⟩)),(3,[],w),(4,[],.int .i64 i)]/\L'=[.arr w 54 1 i (List.replicate i (strV [48]))]/\μ=N-i) (h_3 1 3 4) ⟨0,_,Nat.zero_le _,rfl,rfl,rfl⟩ (fun fr C0' L0' m hle0 hI=>?_)
 obtain ⟨i,w,hi,rfl,rfl,rfl⟩:=hI
 refine G.rp 1 fun R hR=>?_
 refine D.aa (bkT hb1 5) ?_
 refine D.ag (hcnt _ mup) ?_
 refine D.q4 1 1 3 4 8 hR ?_
 refine G.cd (fun h8=>?_) fun h8=>?_
 ·have hil:i<N:=by
   have:=of_decide_eq_true h8
   omega
  refine G.rp 1 fun R hR=>?_
  refine D.ah [[strV [48]]] (fun p12 C12 hle12 hs12=>?_)
  refine D.append (j:=0) rfl rfl rfl rfl rfl rfl rfl rfl rfl rfl rfl hs12 rfl (by simp only [List.length_singleton,maxLen];omega) (by simp only [List.length_singleton];omega) (fun _=>rfl) (fun v13=>?_)
  refine D.q3 1 1 3 4 hR ?_
  refine G.rp 1 fun R hR=>?_
  refine D.aj _ rfl ?_
  refine D.q3 1 1 3 4 hR ?_
  refine G.aR (L':=[.arr v13 54 1 (i+1) (List.replicate (i+1) (strV [48]))]) (by rw [List.replicate_succ'];rfl) ?_
  refine G.ar (m':=N-(i+1)) (by omega) mup (h_3 1 3 4) ⟨i+1,v13,(by omega),rfl,rfl,rfl⟩
 ·have hil:i=N:=by
   have:=of_decide_eq_false h8
   omega
  subst hil
  refine G.z1 2 2 ?_
  refine G.formB (.head _) (fun Aw cw hw hblk=>?_)
  subst hw
  refine G.aA (G.fin1 rfl rfl ?_)
  exact ⟨_,_,rfl,hblk,rfl⟩

theorem lthickness_fn (C:Mem)(_hT:Tabs C)(bv:Value)(B:Bk)(hB:BookIn C bv B)(h60:bs B*bp B<=60)(hc:B.col.length<=60)(hc0:B.col≠[])(hpp:B.pts.length<=400)(hcol:∀ x∈B.col,LayR x) :
  Pur cx.P 19 [bv] C fun u D=>RowsIn D u (bU B):=by
 have hB0:=hB
 obtain ⟨v1,v2,tv,cv,ov,rfl,h1,h2,h3,h4,h5⟩:=id hB.ex
 obtain ⟨A1,c1,rfl,hq1,hq2,_⟩:=id h1
 obtain ⟨A4,c4,rfl,hq3,hq4,_⟩:=id h4
 have hcp:=List.length_pos_iff.2 hc0
 have hs:bs B+1=B.col.length:=by unfold bs;omega
 have hmx:maxLen<=9223372036854775807:=by simp [maxLen]
 have hzer:=fun (D:Mem)(hD:C.le D)=>lzeros_fn D _ B (hB0.mono hD) (by omega) hc0 hpp
 unfold bU
 unfold bp at *
 obtain ⟨p,hp⟩:∃ p,B.pts.length=p:=⟨_,rfl⟩
 obtain ⟨s,hse⟩:∃ s,bs B=s:=⟨_,rfl⟩
 obtain ⟨col,hce⟩:∃ col,B.col=col:=⟨_,rfl⟩
 simp only [List.length_map] at h1 h4 hzer ⊢
 rw [hp,hse] at h60 hzer ⊢
 rw [hce] at hc hc0 hcol hcp hs h4 ⊢
 rw [hse] at hs
 simp only [hce] at hzer
 refine Fn.it (by kernel_rfl) Tryz.func19 91 fun w0=>?_
 refine G.rg fun R hR=>?_
 refine D.aC (fun b1=>?_)
 refine D.q1 1 1 hR ?_
 refine G.freeze 0 rfl (fun C1 hle1 hb1=>?_)
 refine G.z2 1 1 3 ?_
 refine G.rp 2 fun R hR=>?_
 refine D.aa (bkT hb1 1) ?_
 refine D.q3 2 1 3 4 hR ?_
 refine G.z4 1 1 3 4 5 ?_
 refine G.nilArr 101 2 ?_
 refine G.loop (fun fr C' L' μ=>∃ (i:Nat)(vs:List Value)(w:Value),(1<=i/\(i+1<=col.length∨i=1)/\RowsOk C' vs (aF s p col (i-1)))/\fr=[(1,[],.pointer (some ⟨b1,0,none⟩)),(3,[],w),(4,[],.int .i64 p),(5,[],.int .i64 i)]/\L'=[.arr w 101 2 (aF s p col (i-1)).length (aB vs (aF s p col (i-1))).flatten]/\μ=col.length-i) (h_4 1 3 4 5) ⟨1,[],_,⟨Nat.le_refl _,.inr rfl,RowsOk.nil _⟩,rfl,rfl,rfl⟩ (fun fr C0' L0' m hle0 hI=>?_)
 obtain ⟨i,vs,w,⟨hi1,hi2,hrows⟩,rfl,rfl,rfl⟩:=hI
 refine G.rp 1 fun R hR=>?_
 refine D.aj _ rfl ?_
 refine D.ac ?_
 refine D.aa (bkT hb1 1) ?_
 refine D.q5 2 1 3 4 5 18 hR ?_
 refine G.cd (fun h18=>?_) fun h18=>?_
 ·have hil:i+1<col.length:=by
   have:=of_decide_eq_true h18
   omega
  obtain ⟨x,hx⟩:∃ x,col[i]?=some x:=⟨col[i]'(by omega),List.getElem?_eq_getElem (by omega)⟩
  obtain ⟨hr1,hr2,hr3⟩:=hcol x (List.mem_of_getElem? hx)
  have hTl:=thickL_len s p col (i-1)
  refine G.z5 1 1 3 4 5 6 ?_
  refine G.aR (L':=[.arr w 101 2 (aF s p col (i-1)++aI s p x i 0).length (aB vs (aF s p col (i-1)++aI s p x i 0)).flatten]) (by simp [aI]) ?_
  refine G.loop (fun fr C' L' μ=>∃ (k:Nat)(vs2:List Value)(w2:Value),(k<=p/\RowsOk C' vs2 (aF s p col (i-1)++aI s p x i k))/\fr=[(1,[],.pointer (some ⟨b1,0,none⟩)),(3,[],w2),(4,[],.int .i64 p),(5,[],.int .i64 i),(6,[],.int .i64 k)]/\L'=[.arr w2 101 2 (aF s p col (i-1)++aI s p x i k).length (aB vs2 (aF s p col (i-1)++aI s p x i k)).flatten]/\μ=p-k) (h_5 1 3 4 5 6) ⟨0,vs,w,⟨Nat.zero_le _,by simpa [aI] using hrows⟩,rfl,rfl,rfl⟩ (fun fr C1' L1' m hle1 hI=>?_)
  obtain ⟨k,vs2,w2,⟨hk,hrow2⟩,rfl,rfl,rfl⟩:=hI
  refine G.z6 3 1 3 4 5 6 23 ?_
  refine G.cd (fun h23=>?_) fun h23=>?_
  ·have hkp:k<p:=by simpa using h23
   have hip:i*p+p<=s*p:=by
    rw [<- Nat.succ_mul]
    exact Nat.mul_le_mul_right _ (by omega)
   have hjp:(i-1)*p+p=i*p:=by
    rw [<- Nat.succ_mul,show (i-1).succ=i by omega]
   have hTi:=thickI_len s p x i k
   have hm1:((i-1:Nat):Int)*(p:Int)=(((i-1)*p:Nat):Int):=(Int.natCast_mul _ _).symm
   have hm2:(i:Int)*(p:Int)=((i*p:Nat):Int):=(Int.natCast_mul _ _).symm
   have hRl:(aF s p col (i-1)++aI s p x i k).length<=400:=by
    rw [List.length_append]
    omega
   refine G.aO [(1,3)] rfl (fun R hR=>?_)
   refine D.aa (bkT hb1 5) ?_
   refine D.call (hzer _ mup) rfl (.inr (by decide)) rfl rfl rfl rfl rfl rfl (List.Perm.refl _) (fun _=>rfl) (fun v27 C27 L27 hle27 hq27=>?_)
   obtain ⟨Az,cz,rfl,hblk,rfl⟩:=hq27
   obtain ⟨bz,rfl⟩:=hblk (by omega)
   refine D.q6 1 1 3 4 5 6 7 hR ?_
   refine G.rp 2 fun R hR=>?_
   refine D.bT (((i-1:Nat):Int)) rfl rfl rfl rfl (by omega) (by omega) (by omega) rfl rfl ?_
   refine D.ac ?_
   refine D.aj _ rfl ?_
   refine D.ac ?_
   refine D.bT (((((i-1)*p+k:Nat)):Int)) rfl rfl rfl rfl (by omega) (by omega) (by omega) rfl rfl ?_
   refine D.ps 3 ?_
   refine D.aj _ rfl ?_
   refine D.ac ?_
   refine D.bT ((((i*p+k:Nat)):Int)) rfl rfl rfl rfl (by omega) (by omega) (by omega) rfl rfl ?_
   refine D.bc (((i-1)*p+k)) rfl rfl rfl rfl rfl rfl rfl rfl rfl rfl (fun _=>⟨by omega,by omega,(Nat.mul_one _).symm⟩) rfl rfl ?_
   refine D.aP (j:=0) rfl rfl rfl rfl rfl rfl rfl rfl rfl rfl rfl (by simp [];omega) ?_
   refine D.bc ((i*p+k)) rfl rfl rfl rfl rfl rfl rfl rfl rfl rfl (fun _=>⟨by omega,by omega,(Nat.mul_one _).symm⟩) rfl rfl ?_
   refine D.aP (j:=0) rfl rfl rfl rfl rfl rfl rfl rfl rfl rfl rfl (by simp [au];omega) ?_
   refine D.e6 1 3 4 5 6 7 hR ?_
   refine G.aR (L':=[.arr (.slice (some ⟨bz,0,none⟩) (s*p) cz) 54 1 (s*p) (facV (s*p) [(i*p+k, -1),((i-1)*p+k,1)]),.arr w2 101 2 (aF s p col (i-1)++aI s p x i k).length (aB vs2 (aF s p col (i-1)++aI s p x i k)).flatten]) (by
    first
    | (rw [<- st2 (n:=s*p) 1 (-1) (by omega) (by omega),bG,bi];rfl)
    | (rw [<- st2' (n:=s*p) 1 (-1) (by omega) (by omega) (by omega),bG,bi];rfl)) ?_
   refine G.freezeArr 0 ((rowF (s*p) [(i*p+k, -1),((i-1)*p+k,1)]).map encQ) rfl (dH _ _) (by intro r hr;obtain ⟨y,_,rfl⟩:=List.mem_map.1 hr;rfl) (by simp [dR]) (fun Cz hz hsz=>?_)
   have hR2:=hrow2.1
   have hone:=RowsOk.snoc (r:=lowR s p x i k) (hrow2.mono mup) hsz
   have hcel:=bg hR2 (.slice (some ⟨bz,0,none⟩) (s*p) cz) (lowR s p x i k)
   refine G.rp 3 fun R hR=>?_
   refine D.aa (bkT hb1 1) ?_
   refine D.ac ?_
   refine D.ak (h4.mono mup) rfl rfl rfl rfl rfl rfl rfl rfl rfl rfl (by omega) (a7 hx) (fun _=>rfl) (fun p48 hp48=>?_)
   refine D.dr hp48 rfl rfl rfl rfl rfl rfl rfl rfl rfl rfl (fun _=>rfl) (fun p49 hp49=>?_)
   refine D.aa hp49 ?_
   refine D.af (neg2_fn _ x.min (Nat.le_trans (dL hr1) (by decide))) rfl rfl rfl rfl rfl rfl rfl (fun _=>rfl) ?_
   refine D.al [.slice (some ⟨bz,0,none⟩) (s*p:Nat) cz,strV (qtx (-x.min))] ?_
   refine D.ah [[.slice (some ⟨bz,0,none⟩) (s*p:Nat) cz,strV (qtx (-x.min))]] (fun p53 C53 hle53 hs53=>?_)
   refine D.append (j:=0) rfl rfl rfl rfl rfl rfl rfl rfl rfl rfl rfl hs53 rfl (by simp only [List.length_singleton,maxLen];omega) (by simp only [List.length_singleton];omega) (fun _=>rfl) (fun v54=>?_)
   refine D.q5 1 1 3 4 5 6 hR ?_
   refine G.aR (L':=[.arr v54 101 2 (aF s p col (i-1)++aI s p x i k++[lowR s p x i k]).length (aB (vs2++[.slice (some ⟨bz,0,none⟩) (s*p) cz]) (aF s p col (i-1)++aI s p x i k++[lowR s p x i k])).flatten]) (by rw [hcel];simp [lowR];omega) ?_
   refine G.rp 1 fun R hR=>?_
   refine D.aa (bkT hb1 1) ?_
   refine D.ac ?_
   refine D.ak (h4.mono mup) rfl rfl rfl rfl rfl rfl rfl rfl rfl rfl (by omega) (a7 hx) (fun _=>rfl) (fun p58 hp58=>?_)
   refine D.dr hp58 rfl rfl rfl rfl rfl rfl rfl rfl rfl rfl (fun _=>rfl) (fun p59 hp59=>?_)
   refine D.aa hp59 ?_
   refine D.q6 1 1 3 4 5 6 61 hR ?_
   refine G.cd (fun h61=>?_) fun h61=>?_
   ·obtain ⟨m,hm⟩:∃ m,x.max=some m:=by
     rw [opt_nil] at h61
     exact Option.isSome_iff_exists.1 h61
    have hthick:er s p x i k=[lowR s p x i k,highR s p m i k]:=by unfold er;rw [hm]
    have hmt:optS x.max=qtx m:=by rw [hm];rfl
    refine G.aO [(1,3)] rfl (fun R hR=>?_)
    refine D.aa (bkT hb1 5) ?_
    refine D.call (hzer _ mup) rfl (.inr (by decide)) rfl rfl rfl rfl rfl rfl (List.Perm.refl _) (fun _=>rfl) (fun v63 C63 L63 hle63 hq63=>?_)
    obtain ⟨Az2,cz2,rfl,hblk2,rfl⟩:=hq63
    obtain ⟨bz2,rfl⟩:=hblk2 (by omega)
    refine D.q6 1 1 3 4 5 6 8 hR ?_
    refine G.rp 2 fun R hR=>?_
    refine D.bT (((i-1:Nat):Int)) rfl rfl rfl rfl (by omega) (by omega) (by omega) rfl rfl ?_
    refine D.ac ?_
    refine D.aj _ rfl ?_
    refine D.ac ?_
    refine D.bT (((((i-1)*p+k:Nat)):Int)) rfl rfl rfl rfl (by omega) (by omega) (by omega) rfl rfl ?_
    refine D.ps 3 ?_
    refine D.aj _ rfl ?_
    refine D.ac ?_
    refine D.bT ((((i*p+k:Nat)):Int)) rfl rfl rfl rfl (by omega) (by omega) (by omega) rfl rfl ?_
    refine D.bc (((i-1)*p+k)) rfl rfl rfl rfl rfl rfl rfl rfl rfl rfl (fun _=>⟨by omega,by omega,(Nat.mul_one _).symm⟩) rfl rfl ?_
    refine D.aP (j:=0) rfl rfl rfl rfl rfl rfl rfl rfl rfl rfl rfl (by simp [];omega) ?_
    refine D.bc ((i*p+k)) rfl rfl rfl rfl rfl rfl rfl rfl rfl rfl (fun _=>⟨by omega,by omega,(Nat.mul_one _).symm⟩) rfl rfl ?_
    refine D.aP (j:=0) rfl rfl rfl rfl rfl rfl rfl rfl rfl rfl rfl (by simp [au];omega) ?_
    refine D.e6 1 3 4 5 6 8 hR ?_
    refine G.aR (L':=[.arr (.slice (some ⟨bz2,0,none⟩) (s*p) cz2) 54 1 (s*p) (facV (s*p) [(i*p+k,1),((i-1)*p+k, -1)]),.arr v54 101 2 (aF s p col (i-1)++aI s p x i k++[lowR s p x i k]).length (aB (vs2++[.slice (some ⟨bz,0,none⟩) (s*p) cz]) (aF s p col (i-1)++aI s p x i k++[lowR s p x i k])).flatten]) (by
     first
     | (rw [<- st2 (n:=s*p) (-1) 1 (by omega) (by omega),bG,bi];rfl)
     | (rw [<- st2' (n:=s*p) (-1) 1 (by omega) (by omega) (by omega),bG,bi];rfl)) ?_
    refine G.freezeArr 0 ((rowF (s*p) [(i*p+k,1),((i-1)*p+k, -1)]).map encQ) rfl (dH _ _) (by intro r hr;obtain ⟨y,_,rfl⟩:=List.mem_map.1 hr;rfl) (by simp [dR]) (fun Cz2 hz2 hsz2=>?_)
    have htwo:=RowsOk.snoc (r:=highR s p m i k) (hone.mono mup) hsz2
    have hcel2:=bg hone.1 (.slice (some ⟨bz2,0,none⟩) (s*p) cz2) (highR s p m i k)
    refine G.rp 3 fun R hR=>?_
    refine D.aa (bkT hb1 1) ?_
    refine D.ac ?_
    refine D.ak (h4.mono mup) rfl rfl rfl rfl rfl rfl rfl rfl rfl rfl (by omega) (a7 hx) (fun _=>rfl) (fun p84 hp84=>?_)
    refine D.dr hp84 rfl rfl rfl rfl rfl rfl rfl rfl rfl rfl (fun _=>rfl) (fun p85 hp85=>?_)
    refine D.aa hp85 ?_
    refine D.al [.slice (some ⟨bz2,0,none⟩) (s*p:Nat) cz2,strV (optS x.max)] ?_
    refine D.ah [[.slice (some ⟨bz2,0,none⟩) (s*p:Nat) cz2,strV (optS x.max)]] (fun p88 C88 hle88 hs88=>?_)
    refine D.append (j:=0) rfl rfl rfl rfl rfl rfl rfl rfl rfl rfl rfl hs88 rfl (by simp only [List.length_append,List.length_singleton,maxLen] at hRl ⊢;omega) (by simp only [List.length_append,List.length_singleton] at hRl ⊢;omega) (fun _=>rfl) (fun v89=>?_)
    refine D.q5 1 1 3 4 5 6 hR ?_
    refine G.rp 1 fun R hR=>?_
    refine D.aj _ rfl ?_
    refine D.q5 1 1 3 4 5 6 hR ?_
    refine G.aR (L':=[.arr v89 101 2 (aF s p col (i-1)++aI s p x i (k+1)).length (aB (vs2++[.slice (some ⟨bz,0,none⟩) (s*p) cz]++[.slice (some ⟨bz2,0,none⟩) (s*p) cz2]) (aF s p col (i-1)++aI s p x i (k+1))).flatten]) (by
     rw [aI,hthick,<- List.append_assoc,show ∀ (l:List RowQ)(a b:RowQ),l++[a,b]=l++[a]++[b] from fun l a b=>by simp,hcel2,hmt]
     simp [highR];omega) ?_
    refine G.ar (m':=p-(k+1)) (by omega) mup (h_5 1 3 4 5 6) ⟨k+1,_,v89,⟨by omega,by
     rw [aI,hthick,<- List.append_assoc,show ∀ (l:List RowQ)(a b:RowQ),l++[a,b]=l++[a]++[b] from fun l a b=>by simp]
     exact htwo.mono mup⟩,rfl,rfl,rfl⟩
   ·have hm:x.max=none:=by
     rw [opt_nil] at h61
     cases hx2:x.max with
     | none=>rfl
     | some q=>rw [hx2] at h61;cases h61
    have hthick:er s p x i k=[lowR s p x i k]:=by unfold er;rw [hm]
    refine G.rp 1 fun R hR=>?_
    refine D.aj _ rfl ?_
    refine D.q5 1 1 3 4 5 6 hR ?_
    refine G.aR (L':=[.arr v54 101 2 (aF s p col (i-1)++aI s p x i (k+1)).length (aB (vs2++[.slice (some ⟨bz,0,none⟩) (s*p) cz]) (aF s p col (i-1)++aI s p x i (k+1))).flatten]) (by rw [aI,hthick,<- List.append_assoc]) ?_
    refine G.ar (m':=p-(k+1)) (by omega) mup (h_5 1 3 4 5 6) ⟨k+1,_,v54,⟨by omega,by
     rw [aI,hthick,<- List.append_assoc]
     exact hone.mono mup⟩,rfl,rfl,rfl⟩
  ·have hkp:k=p:=by
    have:¬ k<p:=by simpa using h23
    omega
   have hfull:aF s p col (i-1)++aI s p x i k=aF s p col i:=by
    obtain ⟨j,rfl⟩:∃ j,i=j+1:=⟨i-1,by omega⟩
    rw [hkp,Nat.add_sub_cancel,aF,lay_at hx]
   refine G.rp 1 fun R hR=>?_
   refine D.aj _ rfl ?_
   refine D.q4 1 1 3 4 5 hR ?_
   refine G.aR (L':=[.arr w2 101 2 (aF s p col (i+1-1)).length (aB vs2 (aF s p col (i+1-1))).flatten]) (by rw [hfull];rfl) ?_
   refine G.ar (m':=col.length-(i+1)) (by omega) mup (h_4 1 3 4 5) ⟨i+1,vs2,w2,⟨by omega,.inl (by omega),by rw [Nat.add_sub_cancel,<- hfull];exact hrow2⟩,rfl,rfl,rfl⟩
 ·have hil:i-1=col.length-2:=by
   have:=of_decide_eq_false h18
   omega
  refine G.z1 2 2 ?_
  rw [hil] at hrows ⊢
  refine G.freezeArr 0 (aB vs (aF s p col (col.length-2))) rfl rfl (eC _ _) (bQ hrows.1) (fun Cg hg hsl3=>?_)
  refine G.rf ?_
  exact ⟨rfl,vs,hrows.mono mup,hsl3⟩

/-! Small parts: numbers of quarters and of halves. -/
theorem rat_quot {q:Rat}{z w:Int}(hw:w≠0)(h:q*w=z):q=divS z w:=by
 have hw':(w:Rat)≠0:=by simpa using hw
 unfold divS
 rw [Rat.mkRat_eq_div]
 have hq:q=z / w:=by grind
 rw [hq]
 split
 ·rename_i hn
  have:((w.natAbs:Nat):Int)=-w:=by omega
  rw [show ((w.natAbs:Nat):Rat)=(((w.natAbs:Nat):Int):Rat) from rfl,this]
  simp only [Rat.intCast_neg]
  grind
 ·have:((w.natAbs:Nat):Int)=w:=by omega
  rw [show ((w.natAbs:Nat):Rat)=(((w.natAbs:Nat):Int):Rat) from rfl,this]
theorem divS_mul {z w:Int}(hw:w≠0):divS z w*w=z:=by
 have hw':(w:Rat)≠0:=by simpa using hw
 have h:=rat_quot (q:=(z:Rat) / w) (z:=z) hw (by grind)
 rw [<- h]
 grind
theorem qb_quot {q:Rat}{z w:Int}(hw:w≠0)(h:q*w=z)(hz:z.natAbs<1000000000)(hwl:w.natAbs<1000000000):QB 1 q:=by
 rw [rat_quot hw h];exact divS_qb hw hz hwl
def iA (x0 y0 x1 y1 x2 y2:Int):Int:=(x1-x0)*(y2-y0)-(y1-y0)*(x2-x0)
def At4 (p:Pt)(x y:Int):Prop:=p.1*4=x/\p.2*4=y
def Qtr (p:Pt):Prop:=∃ x y:Int,At4 p x y/\(-600<=x/\x<=600)/\(-600<=y/\y<=600)
def Hlf (z:Rat):Prop:=∃ k:Int,z*2=k/\(-38<=k/\k<=38)
theorem area_int {a b c:Pt}{x0 y0 x1 y1 x2 y2:Int}(ha:At4 a x0 y0)(hb:At4 b x1 y1)(hc:At4 c x2 y2):bf a b c*16=(iA x0 y0 x1 y1 x2 y2:Int):=by
 unfold iA bf
 simp only [Rat.intCast_sub,Rat.intCast_mul]
 rw [<- ha.1,<- ha.2,<- hb.1,<- hb.2,<- hc.1,<- hc.2]
 grind
theorem mul_bd {a b:Int}{M K:Nat}(ha:a.natAbs<=M)(hb:b.natAbs<=K):(a*b).natAbs<=M*K:=by
 rw [Int.natAbs_mul];exact Nat.mul_le_mul ha hb
theorem iA_bd {x0 y0 x1 y1 x2 y2:Int}(h:(-600<=x0/\x0<=600)/\(-600<=y0/\y0<=600)/\(-600<=x1/\x1<=600)/\(-600<=y1/\y1<=600)/\(-600<=x2/\x2<=600)/\(-600<=y2/\y2<=600)):(iA x0 y0 x1 y1 x2 y2).natAbs<=2880000:=by
 have h1:=mul_bd (a:=x1-x0) (b:=y2-y0) (M:=1200) (K:=1200) (by omega) (by omega)
 have h2:=mul_bd (a:=y1-y0) (b:=x2-x0) (M:=1200) (K:=1200) (by omega) (by omega)
 unfold iA
 omega
theorem rat_scale {n d:Rat}{N W:Int}(hn:n*16=N)(hd:d*16=W)(h0:d≠0):W≠0/\n / d*W=N:=by
 constructor
 ·intro h
  subst h
  exact h0 (by grind)
 ·grind
theorem wgt_qb {pts:List Pt}{t:Tri}{p:Pt}(hc:∀ j,Qtr (cor pts t j))(hA:bf (cor pts t 0) (cor pts t 1) (cor pts t 2)≠0)(hp:Qtr p)(j:Nat):QB 1 (wgt pts t p j):=by
 obtain ⟨x0,y0,h0,b0,d0⟩:=hc 0
 obtain ⟨x1,y1,h1,b1,d1⟩:=hc 1
 obtain ⟨x2,y2,h2,b2,d2⟩:=hc 2
 obtain ⟨x3,y3,h3,b3,d3⟩:=hc ((j+1) % 3)
 obtain ⟨x4,y4,h4,b4,d4⟩:=hc ((j+2) % 3)
 obtain ⟨x5,y5,h5,b5,d5⟩:=hp
 obtain ⟨hW,hq⟩:=rat_scale (area_int h5 h3 h4) (area_int h0 h1 h2) hA
 have k1:=iA_bd (x0:=x5) (y0:=y5) (x1:=x3) (y1:=y3) (x2:=x4) (y2:=y4) ⟨b5,d5,b3,d3,b4,d4⟩
 have k2:=iA_bd (x0:=x0) (y0:=y0) (x1:=x1) (y1:=y1) (x2:=x2) (y2:=y2) ⟨b0,d0,b1,d1,b2,d2⟩
 exact qb_quot hW hq (by omega) (by omega)
theorem slope_int {c0 c1 c2:Pt}{z0 z1 z2:Rat}{x0 y0 x1 y1 x2 y2 k0 k1 k2:Int}(h0:At4 c0 x0 y0)(h1:At4 c1 x1 y1)(h2:At4 c2 x2 y2)(e0:z0*2=k0)(e1:z1*2=k1)(e2:z2*2=k2)(hA:bf c0 c1 c2≠0) :
  iA x0 y0 x1 y1 x2 y2≠0/\(eA c0 c1 c2 z0 z1 z2).1*(iA x0 y0 x1 y1 x2 y2:Int)=((2*((k1-k0)*(y2-y0)-(y1-y0)*(k2-k0)):Int):Rat)/\(eA c0 c1 c2 z0 z1 z2).2*(iA x0 y0 x1 y1 x2 y2:Int)=((2*((x1-x0)*(k2-k0)-(k1-k0)*(x2-x0)):Int):Rat):=by
 have hw:=area_int h0 h1 h2
 have hD:cQ (c1.1-c0.1) (c1.2-c0.2) (c2.1-c0.1) (c2.2-c0.2)=bf c0 c1 c2:=by unfold cQ bf;grind
 refine ⟨fun h=>hA (by rw [h] at hw;grind), ?_, ?_⟩
 ·unfold eA
  simp only
  rw [hD,<- hw]
  unfold cQ
  simp only [Rat.intCast_sub,Rat.intCast_mul]
  rw [<- h0.2,<- h1.2,<- h2.2,<- e0,<- e1,<- e2]
  generalize bf c0 c1 c2=d at hA
  grind
 ·unfold eA
  simp only
  rw [hD,<- hw]
  unfold cQ
  simp only [Rat.intCast_sub,Rat.intCast_mul]
  rw [<- h0.1,<- h1.1,<- h2.1,<- e0,<- e1,<- e2]
  generalize bf c0 c1 c2=d at hA
  grind
theorem cross_bd {a b c d:Int}(h:a.natAbs<=76/\b.natAbs<=1200/\c.natAbs<=1200/\d.natAbs<=76):(a*b-c*d).natAbs<=182400:=by
 have h1:=mul_bd h.1 h.2.1
 have h2:=mul_bd h.2.2.1 h.2.2.2
 omega
theorem slope_qp {pts:List Pt}{t:Tri}{fs:List Rat}(hc:∀ j,Qtr (cor pts t j))(hA:bf (cor pts t 0) (cor pts t 1) (cor pts t 2)≠0)(hz:∀ j,Hlf (fz fs t j)):QP 1 (cB pts fs t):=by
 obtain ⟨x0,y0,h0,b0,d0⟩:=hc 0
 obtain ⟨x1,y1,h1,b1,d1⟩:=hc 1
 obtain ⟨x2,y2,h2,b2,d2⟩:=hc 2
 obtain ⟨k0,e0,f0⟩:=hz 0
 obtain ⟨k1,e1,f1⟩:=hz 1
 obtain ⟨k2,e2,f2⟩:=hz 2
 obtain ⟨hW,g1,g2⟩:=slope_int h0 h1 h2 e0 e1 e2 hA
 have k3:=iA_bd (x0:=x0) (y0:=y0) (x1:=x1) (y1:=y1) (x2:=x2) (y2:=y2) ⟨b0,d0,b1,d1,b2,d2⟩
 have k4:=cross_bd (a:=k1-k0) (b:=y2-y0) (c:=y1-y0) (d:=k2-k0) ⟨by omega,by omega,by omega,by omega⟩
 have k5:=cross_bd (a:=k1-k0) (b:=x2-x0) (c:=x1-x0) (d:=k2-k0) ⟨by omega,by omega,by omega,by omega⟩
 unfold cB
 exact ⟨qb_quot hW g1 (by omega) (by omega),qb_quot hW g2 (by omega) (by omega)⟩
theorem on_qb {pts:List Pt}{t:Tri}{fs:List Rat}{p:Pt}(hc:∀ j,Qtr (cor pts t j))(hA:bf (cor pts t 0) (cor pts t 1) (cor pts t 2)≠0)(hz:∀ j,Hlf (fz fs t j))(hp:Qtr p):QB 1 (onQ pts fs t p):=by
 obtain ⟨x0,y0,h0,b0,d0⟩:=hc 0
 obtain ⟨x1,y1,h1,b1,d1⟩:=hc 1
 obtain ⟨x2,y2,h2,b2,d2⟩:=hc 2
 obtain ⟨x3,y3,h3,b3,d3⟩:=hp
 obtain ⟨k0,e0,f0⟩:=hz 0
 obtain ⟨k1,e1,f1⟩:=hz 1
 obtain ⟨k2,e2,f2⟩:=hz 2
 obtain ⟨hW,g1,g2⟩:=slope_int h0 h1 h2 e0 e1 e2 hA
 have k3:=iA_bd (x0:=x0) (y0:=y0) (x1:=x1) (y1:=y1) (x2:=x2) (y2:=y2) ⟨b0,d0,b1,d1,b2,d2⟩
 have k4:=cross_bd (a:=k1-k0) (b:=y2-y0) (c:=y1-y0) (d:=k2-k0) ⟨by omega,by omega,by omega,by omega⟩
 have k5:=cross_bd (a:=k1-k0) (b:=x2-x0) (c:=x1-x0) (d:=k2-k0) ⟨by omega,by omega,by omega,by omega⟩
 have m0:=mul_bd (show k0.natAbs<=38 by omega) k3
 have m1:=mul_bd k4 (show (x3-x0).natAbs<=1200 by omega)
 have m2:=mul_bd (show ((x1-x0)*(k2-k0)-(k1-k0)*(x2-x0)).natAbs<=182400 by omega) (show (y3-y0).natAbs<=1200 by omega)
 refine qb_quot (w:=2*iA x0 y0 x1 y1 x2 y2) (z:=k0*iA x0 y0 x1 y1 x2 y2+((k1-k0)*(y2-y0)-(y1-y0)*(k2-k0))*(x3-x0)+((x1-x0)*(k2-k0)-(k1-k0)*(x2-x0))*(y3-y0)) (by omega) ?_ (by omega) (by omega)
 unfold onQ sumQ
 simp only [List.foldl_cons,List.foldl_nil]
 have g1':=g1
 have g2':=g2
 unfold cB
 generalize (eA (cor pts t 0) (cor pts t 1) (cor pts t 2) (fz fs t 0) (fz fs t 1) (fz fs t 2)).1=s1 at g1' ⊢
 generalize (eA (cor pts t 0) (cor pts t 1) (cor pts t 2) (fz fs t 0) (fz fs t 1) (fz fs t 2)).2=s2 at g2' ⊢
 clear g1 g2
 generalize ((k1-k0)*(y2-y0)-(y1-y0)*(k2-k0))=n1 at g1' ⊢
 generalize ((x1-x0)*(k2-k0)-(k1-k0)*(x2-x0))=n2 at g2' ⊢
 generalize iA x0 y0 x1 y1 x2 y2=w at g1' g2' ⊢
 simp only [Rat.intCast_sub,Rat.intCast_mul,Rat.intCast_add] at g1' g2' ⊢
 have p0:=h0.1
 have p1:=h0.2
 have p2:=h3.1
 have p3:=h3.2
 generalize fz fs t 0=z0 at e0 ⊢
 rw [<- p0,<- p1,<- p2,<- p3,<- e0]
 have t2:((2:Int):Rat)=2:=rfl
 rw [t2] at g1' g2' ⊢
 grind
theorem divS_at4 {z w:Int}(hw:w=1∨w=2∨w=4)(hz:-150<=z/\z<=150):∃ x:Int,divS z w*4=x/\(-600<=x/\x<=600):=by
 have h:=divS_mul (z:=z) (w:=w) (by omega)
 have t1:((1:Int):Rat)=1:=rfl
 have t2:((2:Int):Rat)=2:=rfl
 have t4:((4:Int):Rat)=4:=rfl
 rcases hw with rfl | rfl | rfl
 ·refine ⟨4*z, ?_,by omega⟩
  rw [Rat.intCast_mul,<- h,t1,t4]
  grind
 ·refine ⟨2*z, ?_,by omega⟩
  rw [Rat.intCast_mul,<- h,t2]
  grind
 ·exact ⟨z,h,by omega⟩
theorem place_qtr {a b:Int}{h:Bool}{x y n:Int}(hn:n=1∨n=2)(hx:-128<=x/\x<=127)(hy:-128<=y/\y<=127):Qtr (cD a b h x y n):=by
 have ha:=tmod8 a
 have hb:=tmod8 b
 have hh:cR h=1∨cR h=2:=by cases h <;> simp [cR]
 have hw:cR h*n=1∨cR h*n=2∨cR h*n=4:=by rcases hh with e | e <;> rcases hn with f | f <;> rw [e,f] <;> omega
 obtain ⟨u,hu,bu⟩:=divS_at4 (z:=x+a.tmod 8*n) hw (by rcases hn with f | f <;> subst f <;> omega)
 obtain ⟨v,hv,bv⟩:=divS_at4 (z:=y+b.tmod 8*n) hw (by rcases hn with f | f <;> subst f <;> omega)
 exact ⟨u,v,⟨hu,hv⟩,bu,bv⟩
theorem ptsK_qtr {m:Nat}{a b:Int}{h:Bool}:∀ p∈ptsK m a b h,Qtr p:=by
 intro p hp
 obtain ⟨x,hx,rfl⟩:=List.mem_map.1 hp
 have:=shP_bd m x hx
 exact place_qtr (.inl rfl) (by omega) (by omega)
theorem zero_qtr:Qtr (0,0):=⟨0,0,⟨by decide +kernel,by decide +kernel⟩,by decide,by decide⟩
theorem fE {α:Type}{P:α->Prop}{l:List α}{i:Nat}{d:α}(h:∀ x∈l,P x)(h0:P d):P (l.getD i d):=by
 rw [List.getD_eq_getElem?_getD]
 cases h1:l[i]? with
 | none=>exact h0
 | some x=>exact h x (List.mem_of_getElem? h1)
theorem cor_qtr {m:Nat}{a b:Int}{h:Bool}{t:Tri}(j:Nat):Qtr (cor (ptsK m a b h) t j):=fE ptsK_qtr zero_qtr
theorem fsK_hlf (n:Nat)(H:Hts):∀ q∈fsK n H,Hlf q:=by
 intro q hq
 obtain ⟨i,_,rfl⟩:=List.mem_map.1 hq
 have hb:=tmod20 ((htsL H).getD (i % 6) 0)
 generalize ((htsL H).getD (i % 6) 0).tmod 20=z at hb ⊢
 have t1:((1:Int):Rat)=1:=rfl
 have t2:((2:Int):Rat)=2:=rfl
 rcases halfZ_or H.half with e | e
 ·have h:=divS_mul (z:=z) (w:=1) (by decide)
  rw [e]
  refine ⟨2*z, ?_,by omega⟩
  rw [Rat.intCast_mul,<- h,t1,t2]
  grind
 ·rw [e]
  exact ⟨z,divS_mul (by decide),by omega⟩
theorem zero_hlf:Hlf 0:=⟨0,by decide +kernel,by decide⟩
theorem one_hlf:Hlf 1:=⟨2,by decide +kernel,by decide⟩
theorem fz_hlf {n:Nat}{H:Hts}{t:Tri}(j:Nat):Hlf (fz (fsK n H) t j):=fE (fsK_hlf n H) zero_hlf
theorem unit_hlf {n k:Nat}{t:Tri}(j:Nat):Hlf (fz (dJ n k) t j):=fE (fun q hq=>by
 rcases unitF_01 q hq with rfl | rfl
 ·exact zero_hlf
 ·exact one_hlf) zero_hlf
theorem ptAt_qtr (S:Sht)(s:Sgt)(hs:SgtR s):Qtr (ptAt S s):=by
 unfold ptAt
 split
 ·exact place_qtr (.inr rfl) hs.px hs.py
 ·exact fE ptsK_qtr zero_qtr
theorem rowF_all {P:Rat->Prop}{n:Nat}{m:List (Nat × Rat)}(h0:P 0)(h:∀ x∈m,P x.2):∀ q∈rowF n m,P q:=by
 intro q hq
 obtain ⟨j,_,rfl⟩:=List.mem_map.1 hq
 cases h1:mget m j with
 | none=>exact h0
 | some v =>
  exact h _ (eE h1)
theorem rowR_ok {s p k:Nat}{fm:List (Nat × Rat)}{b sg:Rat}(hf:∀ x∈fm,QB 1 x.2)(hb:QB 3 b)(hs:QB 1 sg):RowR (rowR s p k fm b sg):=by
 refine ⟨rowF_all (QB_zero.le (by decide)) ?_,(eS hs hb).le (by decide)⟩
 intro x hx
 obtain ⟨y,hy,rfl⟩:=List.mem_map.1 hx
 exact (eS hs (hf y hy)).le (by decide)
theorem rowsO_ok {B:Bk}{o:Obs}{p:Pt}{t:Tri}{z:Rat}(hw:∀ j,QB 1 (wgt B.pts t p j))(hs:∀ j,QP 1 (slf B.pts t j))(hh:QB 3 (hgtQ o z))(he:o.kind≠1->o.kind≠2->QB 3 (ek o)/\QB 3 (cP o)):∀ r∈rowsO B o p t z,RowR r:=by
 have f1:∀ x∈atT t (wgt B.pts t p),QB 1 x.2:=dM (hw 0) (hw 1) (hw 2)
 have f2:∀ x∈atT t (fun j=>(slf B.pts t j).1),QB 1 x.2:=dM (hs 0).1 (hs 1).1 (hs 2).1
 have f3:∀ x∈atT t (fun j=>(slf B.pts t j).2),QB 1 x.2:=dM (hs 0).2 (hs 1).2 (hs 2).2
 intro r hr
 unfold rowsO at hr
 split at hr
 ·rcases List.mem_append.1 hr with h | h
  ·split at h
   ·rw [List.mem_singleton.1 h];exact rowR_ok f1 hh QB_one
   ·simp at h
  ·split at h
   ·rw [List.mem_singleton.1 h];exact rowR_ok f1 hh neg_one_qb
   ·simp at h
 ·rename_i h1
  split at hr
  ·obtain ⟨k,_,h⟩:=List.mem_flatMap.1 hr
   obtain ⟨sg,hsg,rfl⟩:=List.mem_map.1 h
   exact rowR_ok f1 hh (sq_two sg hsg)
  ·rename_i h2
   obtain ⟨e1,e2⟩:=he h1 h2
   obtain ⟨k,_,h⟩:=List.mem_flatMap.1 hr
   rcases List.mem_append.1 h with h | h
   ·obtain ⟨sg,hsg,rfl⟩:=List.mem_map.1 h
    exact rowR_ok f2 e1 (sq_two sg hsg)
   ·obtain ⟨sg,hsg,rfl⟩:=List.mem_map.1 h
    exact rowR_ok f3 e2 (sq_two sg hsg)
def tiK (S:Sht)(s:Sgt):Nat:=(locL (ptsK (S.kd % 8) S.a S.b S.h) (shT (S.kd % 8)) (ptAt S s)).headD 0
def tK (S:Sht)(s:Sgt):Tri:=(shT (S.kd % 8)).getD (tiK S s) (0,0,0)
def zK (S:Sht)(H:Hts)(s:Sgt):Rat:=onQ (ptsK (S.kd % 8) S.a S.b S.h) (fsK (ptsK (S.kd % 8) S.a S.b S.h).length H) (tK S s) (ptAt S s)
noncomputable def roK (S:Sht)(H:Hts)(l:List Sgt)(i:Nat):List RowQ:=rowsO (a6 S H l) (obsK S (l.getD i noSgt) i) (ptAt S (l.getD i noSgt)) (tK S (l.getD i noSgt)) (zK S H (l.getD i noSgt))
theorem obsK_at (S:Sht)(s:Sgt)(i:Nat)(hs:SgtR s):ObsAt (obsK S s i) (ptAt S s):=by
 have hq:=(ptAt_ok S s hs).1
 refine ⟨?_, ?_,(qp1_ok hq).1,(qp1_ok hq).2, ?_⟩
 ·unfold obsK;split
  ·rfl
  ·split <;> rfl
 ·unfold obsK;split
  ·rfl
  ·split <;> rfl
 ·unfold obsK;split
  ·intro h;exact absurd (show (1:Int)=2 from h) (by decide)
  ·split
   ·intro _;exact ok1 (dep_qb s.depth)
   ·intro h;exact absurd (show (3:Int)=2 from h) (by decide)
theorem obsK_up (S:Sht)(s:Sgt)(i:Nat):0<=idxF (isU (obsK S s i).upper) colK 0:=by
 have hlo:=lo_le s
 have hup:=up_le s
 have e1:=lab_idx (s.u1 % 3) (by omega)
 have e2:=lab_idx (max (loU s) (upU s)) (by omega)
 unfold obsK;split
 ·simp only;rw [e1];omega
 ·split <;> (simp only;rw [e2];omega)
theorem obsK_nr (S:Sht)(s:Sgt)(i:Nat):(obsK S s i).kind≠1->(obsK S s i).kind≠2->(aU (obsK S s i).nx=true/\aU (obsK S s i).ny=true/\aU (obsK S s i).nz=true)/\QB 1 (bx (obsK S s i).nx)/\QB 1 (bx (obsK S s i).ny)/\QB 1 (bx (obsK S s i).nz)/\bx (obsK S s i).nz≠0:=by
 have h0:=tmod5 s.n0
 have h1:=tmod5 s.n1
 have h2:=lastN_bd s.n2
 have l0:=dS (s.n0.tmod 5) (by omega)
 have l1:=dS (s.n1.tmod 5) (by omega)
 have l2:=dS (lastN s.n2) (by omega)
 have hne:=lastN_ne s.n2
 unfold obsK;split
 ·intro h;exact absurd rfl h
 ·split
  ·intro _ h;exact absurd rfl h
  ·intro _ _
   simp only
   rw [dE (ok1 l0),dE (ok1 l1),dE (ok1 l2)]
   exact ⟨⟨ok1 l0,ok1 l1,ok1 l2⟩,l0,l1,l2,by simpa using hne⟩
theorem obsK_dep (S:Sht)(s:Sgt)(i:Nat):(obsK S s i).kind=2->(obsK S s i).depth=qtx (divS ((s.depth % 12:Nat):Int) 2):=by
 unfold obsK;split
 ·intro h;exact absurd (show (1:Int)=2 from h) (by decide)
 ·split
  ·intro _;rfl
  ·intro h;exact absurd (show (3:Int)=2 from h) (by decide)
theorem obsK_hgt (S:Sht)(s:Sgt)(i:Nat){z:Rat}(hz:QB 1 z):QB 3 (hgtQ (obsK S s i) z):=by
 unfold hgtQ;split
 ·rename_i h
  rw [obsK_dep S s i h,dE (ok1 (dep_qb s.depth))]
  have h:=dN hz (dep_qb s.depth)
  exact h.le (by decide)
 ·exact hz.le (by decide)
theorem obsK_east (S:Sht)(s:Sgt)(i:Nat)(h1:(obsK S s i).kind≠1)(h2:(obsK S s i).kind≠2):QB 3 (ek (obsK S s i))/\QB 3 (cP (obsK S s i)):=by
 obtain ⟨_,l0,l1,l2,hne⟩:=obsK_nr S s i h1 h2
 exact ⟨(QB_div (eL l0) l2 hne).le (by decide),(QB_div (eL l1) l2 hne).le (by decide)⟩
theorem locK (S:Sht)(s:Sgt)(hs:SgtR s):(∃ r,locL (ptsK (S.kd % 8) S.a S.b S.h) (shT (S.kd % 8)) (ptAt S s)=tiK S s::r)/\(shT (S.kd % 8))[tiK S s]?=some (tK S s):=by
 have hne:=(ptAt_ok S s hs).2
 unfold tK tiK
 cases h:locL (ptsK (S.kd % 8) S.a S.b S.h) (shT (S.kd % 8)) (ptAt S s) with
 | nil=>exact absurd h hne
 | cons i r =>
  have hm:i∈locL (ptsK (S.kd % 8) S.a S.b S.h) (shT (S.kd % 8)) (ptAt S s):=by rw [h];exact List.mem_cons_self
  unfold locL at hm
  have hlt:=List.mem_range.1 (List.mem_filter.1 hm).1
  refine ⟨⟨r,rfl⟩, ?_⟩
  simp only [List.headD_cons]
  rw [List.getD_eq_getElem?_getD,List.getElem?_eq_getElem hlt]
  rfl
theorem fineK (S:Sht)(H:Hts)(l:List Sgt)(s:Sgt)(i:Nat)(hs:SgtR s) :
  Fine (a6 S H l) (fsK (ptsK (S.kd % 8) S.a S.b S.h).length H) (obsK S s i) (ptAt S s) (tiK S s) (tK S s) (zK S H s):=by
 obtain ⟨hG,_⟩:=shape_good (S.kd % 8) (Nat.mod_lt _ (by decide)) S.a S.b S.h
 obtain ⟨⟨r,hr⟩,ht⟩:=locK S s hs
 have hA:=eG hG.ok (List.mem_of_getElem? ht)
 have hp:=ptAt_qtr S s hs
 have hw:∀ j,QB 1 (wgt (ptsK (S.kd % 8) S.a S.b S.h) (tK S s) (ptAt S s) j):=wgt_qb (fun j=>cor_qtr j) hA hp
 have hsl:∀ j,QP 1 (slf (ptsK (S.kd % 8) S.a S.b S.h) (tK S s) j):=fun j=>slope_qp (fun j=>cor_qtr j) hA (fun j=>unit_hlf j)
 have hz:QB 1 (zK S H s):=on_qb (fun j=>cor_qtr j) hA (fun j=>fz_hlf j) hp
 have hh:=obsK_hgt S s i hz
 refine ⟨obsK_at S s i hs,⟨r,hr⟩,ht, ?_,hz.le (by decide),hh.le (by decide),fun j=>(hw j).le (by decide),obsK_up S s i,fun j=>(hsl j).le (by decide), ?_, ?_⟩
 ·show valV (ptsK (S.kd % 8) S.a S.b S.h) (shT (S.kd % 8)) _ _=_
  unfold valV
  rw [hr]
  show numV (zK S H s)=_
  unfold numV
  rw [if_pos (ok1 hz)]
 ·intro h1 h2
  obtain ⟨h0,l0,l1,l2,hne⟩:=obsK_nr S s i h1 h2
  exact ⟨h0,l0.le (by decide),l1.le (by decide),l2.le (by decide),hne⟩
 ·exact rowsO_ok hw hsl hh (obsK_east S s i)
theorem bookK_rich (S:Sht)(H:Hts)(l:List Sgt)(hs:∀ s∈l,SgtR s):Rich (a6 S H l) (fsK (ptsK (S.kd % 8) S.a S.b S.h).length H) (roK S H l):=by
 refine ⟨(shape_good (S.kd % 8) (Nat.mod_lt _ (by decide)) S.a S.b S.h).1,bookK_r S H l hs,bookK_zero S H l hs,⟨rfl,fsK_len _ _,fun q hq=>(fsK_qb _ H q hq).le (by decide)⟩, ?_, ?_⟩
 ·have:=(bookK_bp S H l).2
  rw [bookK_bs]
  omega
 ·intro i o ho
  obtain ⟨hi,s,hsl,rfl⟩:=fk ho
  refine ⟨_,_,_,_,fineK S H l s i (hs s (List.mem_of_getElem? hsl)), ?_⟩
  unfold roK
  rw [List.getD_eq_getElem?_getD,hsl]
  rfl

theorem slope_step (a b c o:Pt) :
  bf (o.1+1,o.2) b c / bf a b c-bf o b c / bf a b c=(eA a b c 1 0 0).1 /\
  bf (o.1+1,o.2) c a / bf a b c-bf o c a / bf a b c=(eA a b c 0 1 0).1 /\
  bf (o.1+1,o.2) a b / bf a b c-bf o a b / bf a b c=(eA a b c 0 0 1).1 /\
  bf (o.1,o.2+1) b c / bf a b c-bf o b c / bf a b c=(eA a b c 1 0 0).2 /\
  bf (o.1,o.2+1) c a / bf a b c-bf o c a / bf a b c=(eA a b c 0 1 0).2 /\
  bf (o.1,o.2+1) a b / bf a b c-bf o a b / bf a b c=(eA a b c 0 0 1).2:=by
 have hD:cQ (b.1-a.1) (b.2-a.2) (c.1-a.1) (c.2-a.2)=bf a b c:=by unfold cQ bf;grind
 unfold eA
 simp only
 rw [hD]
 obtain ⟨d,hd⟩:∃ d,bf a b c=d:=⟨_,rfl⟩
 rw [hd]
 have hd2:=hd
 unfold bf at hd2 ⊢
 unfold cQ
 simp only
 refine ⟨?_, ?_, ?_, ?_, ?_, ?_⟩ <;> clear hd hd2 hD <;> grind
theorem unitF_at {n a b:Nat}(hb:b<n):(dJ n a).getD b 0=if a=b then 1 else 0:=by
 unfold dJ rowF
 rw [List.getD_eq_getElem?_getD,List.getElem?_map,List.getElem?_range hb]
 simp only [Option.map_some,Option.getD_some,mget]
 split <;> rfl
theorem fz_unit {n:Nat}{t:Tri}(hi:TriIn n t)(h:t.1≠t.2.1/\t.1≠t.2.2/\t.2.1≠t.2.2) :
  (fz (dJ n (triN t 0)) t 0=1/\fz (dJ n (triN t 0)) t 1=0/\fz (dJ n (triN t 0)) t 2=0) /\
  (fz (dJ n (triN t 1)) t 0=0/\fz (dJ n (triN t 1)) t 1=1/\fz (dJ n (triN t 1)) t 2=0) /\
  (fz (dJ n (triN t 2)) t 0=0/\fz (dJ n (triN t 2)) t 1=0/\fz (dJ n (triN t 2)) t 2=1):=by
 have e:∀ i j,fz (dJ n (triN t i)) t j=if triN t i=triN t j then 1 else 0:=fun i j=>unitF_at (cY hi j)
 simp only [e]
 have h0:triN t 0=t.1:=rfl
 have h1:triN t 1=t.2.1:=rfl
 have h2:triN t 2=t.2.2:=rfl
 rw [h0,h1,h2]
 simp [h.1,h.2.1,h.2.2,h.1.symm,h.2.1.symm,h.2.2.symm]
theorem wgt_step {pts:List Pt}{t:Tri}(hi:TriIn pts.length t)(h:t.1≠t.2.1/\t.1≠t.2.2/\t.2.1≠t.2.2)(o:Pt)(j:Nat)(hj:j<3) :
  wgt pts t (o.1+1,o.2) j-wgt pts t o j=(slf pts t j).1/\wgt pts t (o.1,o.2+1) j-wgt pts t o j=(slf pts t j).2:=by
 obtain ⟨s0,s1,s2,s3,s4,s5⟩:=slope_step (cor pts t 0) (cor pts t 1) (cor pts t 2) o
 obtain ⟨⟨f0,f1,f2⟩,⟨f3,f4,f5⟩,f6,f7,f8⟩:=fz_unit hi h
 unfold slf cB
 rcases (by omega:j=0∨j=1∨j=2) with rfl | rfl | rfl
 ·rw [f0,f1,f2];exact ⟨s0,s3⟩
 ·rw [f3,f4,f5];exact ⟨s1,s4⟩
 ·rw [f6,f7,f8];exact ⟨s2,s5⟩
theorem lweights_fn (C:Mem)(hT:Tabs C)(mv:Value)(pts:List Pt)(tris:List Tri)(t:Tri)(p:Pt)(hm:MeshIn C mv pts tris)(hM:MeshOk pts tris)(ht:t∈tris)(hp:QP 3 p) :
  Gives cx.P 49 [mv,.agg ⟨encT t⟩,ptV p] C (.agg ⟨[strV (qtx (wgt pts t p 0)),strV (qtx (wgt pts t p 1)),strV (qtx (wgt pts t p 2))]⟩):=by
 have hti:=hM.ins t ht
 have hc:=fun j=>(cor_qp hM ht j).le (show 1<=3 by decide)
 have hne:=eG hM ht
 have hqa:∀ a b,QP 3 a->QP 3 b->QB 29 (bf p a b):=fun a b ha hb=>(QB_area hp ha hb).le (by decide)
 have hqw:QB 29 (bf (cor pts t 0) (cor pts t 1) (cor pts t 2)):=(QB_area (hc 0) (hc 1) (hc 2)).le (by decide)
 obtain ⟨v1,v2,rfl,h1,h2⟩:=id hm.ex
 refine Fn.it (by kernel_rfl) Tryz.func49 58 fun w0=>?_
 refine G.rg fun R hR=>?_
 refine D.aC (fun b3=>?_)
 refine D.aC (fun b4=>?_)
 refine D.aC (fun b5=>?_)
 refine D.aq (fun b6=>?_)
 refine D.e4 3 4 5 6 hR ?_
 refine G.freeze 3 rfl (fun C3 hle3 hb3=>?_)
 refine G.freeze 2 rfl (fun C4 hle4 hb4=>?_)
 refine G.freeze 1 rfl (fun C5 hle5 hb5=>?_)
 refine G.rg fun R hR=>?_
 refine D.aq (fun b7=>?_)
 refine D.e5 3 4 5 6 7 hR ?_
 refine G.aE [0,1,2,3,4,5,6,7,8,9,10,11,12,13,14,15,16,17,18,19,20] [] rfl (by kernel_rfl) (fun R hB hR=>?_)
 refine D.ac ?_
 refine D.aa (bkT hb3 1) ?_
 refine D.ap (0) rfl rfl rfl rfl rfl rfl rfl rfl rfl (fun _=>⟨by decide,by decide,rfl⟩) rfl rfl ?_
 refine D.aa (bkT hb4 1) ?_
 refine D.ak (h1.mono mup) rfl rfl rfl rfl rfl rfl rfl rfl rfl rfl (by omega) (a7 (pt_at hti.1)) (fun _=>rfl) (fun p15 hp15=>?_)
 refine D.aa hp15 ?_
 refine D.ac ?_
 refine D.aa (bkT hb3 1) ?_
 refine D.ap (1) rfl rfl rfl rfl rfl rfl rfl rfl rfl (fun _=>⟨by decide,by decide,rfl⟩) rfl rfl ?_
 refine D.aa (bkT hb4 1) ?_
 refine D.ak (h1.mono mup) rfl rfl rfl rfl rfl rfl rfl rfl rfl rfl (by omega) (a7 (pt_at hti.2.1)) (fun _=>rfl) (fun p21 hp21=>?_)
 refine D.aa hp21 ?_
 refine D.ac ?_
 refine D.aa (bkT hb3 1) ?_
 refine D.ap (2) rfl rfl rfl rfl rfl rfl rfl rfl rfl (fun _=>⟨by decide,by decide,rfl⟩) rfl rfl ?_
 refine D.aa (bkT hb4 1) ?_
 refine D.ak (h1.mono mup) rfl rfl rfl rfl rfl rfl rfl rfl rfl rfl (by omega) (a7 (pt_at hti.2.2)) (fun _=>rfl) (fun p27 hp27=>?_)
 refine D.aa hp27 ?_
 refine D.al [strV (qtx (cor pts t 0).1),strV (qtx (cor pts t 0).2),strV (qtx (cor pts t 1).1),strV (qtx (cor pts t 1).2),strV (qtx (cor pts t 2).1),strV (qtx (cor pts t 2).2)] ?_
 refine D.aq (fun b8=>?_)
 refine D.ai (j:=0) ?_
 refine D.e4 5 6 7 8 hR ?_
 refine G.freeze 0 rfl (fun C8 hle8 hb8=>?_)
 refine G.rg fun R hR=>?_
 refine D.ap (0) rfl rfl rfl rfl rfl rfl rfl rfl rfl (fun _=>⟨by decide,by decide,rfl⟩) rfl rfl ?_
 refine D.aa (bkT hb8 2) ?_
 refine D.ap (2) rfl rfl rfl rfl rfl rfl rfl rfl rfl (fun _=>⟨by decide,by decide,rfl⟩) rfl rfl ?_
 refine D.aa (bkT hb8 2) ?_
 refine D.ap (4) rfl rfl rfl rfl rfl rfl rfl rfl rfl (fun _=>⟨by decide,by decide,rfl⟩) rfl rfl ?_
 refine D.aa (bkT hb8 2) ?_
 refine D.af (area5_fn _ (hT.mono mup) (cor pts t 0) (cor pts t 1) (cor pts t 2) 3 (by decide) (by decide) (hc 0) (hc 1) (hc 2)) rfl rfl rfl rfl rfl rfl rfl (fun _=>rfl) ?_
 refine D.q5 1 5 6 7 8 9 hR ?_
 refine G.z6 1 5 6 7 8 9 10 ?_
 refine G.loop (fun fr C' L' μ=>∃ (j:Nat),(j<=3)/\fr=[(5,[],.pointer (some ⟨b5,0,none⟩)),(6,[],.pointer (some ⟨b6,0,none⟩)),(7,[],.pointer (some ⟨b7,0,none⟩)),(8,[],.pointer (some ⟨b8,0,none⟩)),(9,[],strV (qtx (bf (cor pts t 0) (cor pts t 1) (cor pts t 2)))),(10,[],.int .i64 j)]/\L'=[.obj b7 (.cells ⟨(List.range 3).map fun k=>if k<j then strV (qtx (wgt pts t p k)) else strV []⟩ 122 (0,0)),.obj b6 (.cells ⟨[strV [],strV [],strV []]⟩ 122 (0,0))]/\μ=3-j) (h_6 5 6 7 8 9 10) ⟨0,Nat.zero_le _,rfl,rfl,rfl⟩ (fun fr C0' L0' m hle0 hI=>?_)
 obtain ⟨j,hj,rfl,rfl,rfl⟩:=hI
 refine G.z7 2 5 6 7 8 9 10 38 ?_
 refine G.cd (fun h38=>?_) fun h38=>?_
 ·have hjl:j<3:=by
   simp only [decide_eq_true_eq] at h38
   omega
  rcases (by omega:j=0∨j=1∨j=2) with rfl | rfl | rfl
  ·refine G.aE [0,1,2,3,4,5,6,7,8,9,10,11,12,13,14,15,16] [(12,1),(14,1)] rfl (by kernel_rfl) (fun R hB hR=>?_)
   refine D.ac ?_
   refine D.aa (bkT hb5 2) ?_
   refine D.ac ?_
   refine D.aj _ rfl ?_
   refine D.rem rfl rfl rfl rfl rfl rfl (by omega) (by omega) rfl rfl ?_
   refine D.ap (_) rfl rfl rfl rfl rfl rfl rfl rfl rfl (fun _=>⟨by decide,by decide,rfl⟩) rfl rfl ?_
   refine D.aa (bkT hb8 2) ?_
   refine D.ac ?_
   refine D.aj _ rfl ?_
   refine D.rem rfl rfl rfl rfl rfl rfl (by omega) (by omega) rfl rfl ?_
   refine D.ap (_) rfl rfl rfl rfl rfl rfl rfl rfl rfl (fun _=>⟨by decide,by decide,rfl⟩) rfl rfl ?_
   refine D.aa (bkT hb8 2) ?_
   refine D.ay (fun _=>(area5_fn _ (hT.mono mup) p (cor pts t ((0+1) % 3)) (cor pts t ((0+2) % 3)) 3 (by decide) (by decide) hp (hc _) (hc _))) rfl rfl rfl rfl rfl rfl rfl rfl rfl ?_
   refine D.ac ?_
   refine D.ay (fun _=>(rdiv2_fn _ (hT.mono mup) _ _ 29 (by decide) (by decide) (hqa _ _ (hc _) (hc _)) hqw hne)) rfl rfl rfl rfl rfl rfl rfl rfl rfl ?_
   refine D.ap (_) rfl rfl rfl rfl rfl rfl rfl rfl rfl (fun _=>⟨by decide,by decide,rfl⟩) rfl rfl ?_
   refine D.ai (j:=0) ?_
   refine D.e6 5 6 7 8 9 10 hR ?_
   refine G.rp 1 fun R hR=>?_
   refine D.aj _ rfl ?_
   refine D.q6 1 5 6 7 8 9 10 hR ?_
   refine G.ar (m':=2) (by omega) mup (h_6 5 6 7 8 9 10) ⟨1,by decide,rfl,rfl,rfl⟩
  ·refine G.aE [0,1,2,3,4,5,6,7,8,9,10,11,12,13,14,15,16] [(12,1),(14,1)] rfl (by kernel_rfl) (fun R hB hR=>?_)
   refine D.ac ?_
   refine D.aa (bkT hb5 2) ?_
   refine D.ac ?_
   refine D.aj _ rfl ?_
   refine D.rem rfl rfl rfl rfl rfl rfl (by omega) (by omega) rfl rfl ?_
   refine D.ap (_) rfl rfl rfl rfl rfl rfl rfl rfl rfl (fun _=>⟨by decide,by decide,rfl⟩) rfl rfl ?_
   refine D.aa (bkT hb8 2) ?_
   refine D.ac ?_
   refine D.aj _ rfl ?_
   refine D.rem rfl rfl rfl rfl rfl rfl (by omega) (by omega) rfl rfl ?_
   refine D.ap (_) rfl rfl rfl rfl rfl rfl rfl rfl rfl (fun _=>⟨by decide,by decide,rfl⟩) rfl rfl ?_
   refine D.aa (bkT hb8 2) ?_
   refine D.ay (fun _=>(area5_fn _ (hT.mono mup) p (cor pts t ((1+1) % 3)) (cor pts t ((1+2) % 3)) 3 (by decide) (by decide) hp (hc _) (hc _))) rfl rfl rfl rfl rfl rfl rfl rfl rfl ?_
   refine D.ac ?_
   refine D.ay (fun _=>(rdiv2_fn _ (hT.mono mup) _ _ 29 (by decide) (by decide) (hqa _ _ (hc _) (hc _)) hqw hne)) rfl rfl rfl rfl rfl rfl rfl rfl rfl ?_
   refine D.ap (_) rfl rfl rfl rfl rfl rfl rfl rfl rfl (fun _=>⟨by decide,by decide,rfl⟩) rfl rfl ?_
   refine D.ai (j:=0) ?_
   refine D.e6 5 6 7 8 9 10 hR ?_
   refine G.rp 1 fun R hR=>?_
   refine D.aj _ rfl ?_
   refine D.q6 1 5 6 7 8 9 10 hR ?_
   refine G.ar (m':=1) (by omega) mup (h_6 5 6 7 8 9 10) ⟨2,by decide,rfl,rfl,rfl⟩
  ·refine G.aE [0,1,2,3,4,5,6,7,8,9,10,11,12,13,14,15,16] [(12,1),(14,1)] rfl (by kernel_rfl) (fun R hB hR=>?_)
   refine D.ac ?_
   refine D.aa (bkT hb5 2) ?_
   refine D.ac ?_
   refine D.aj _ rfl ?_
   refine D.rem rfl rfl rfl rfl rfl rfl (by omega) (by omega) rfl rfl ?_
   refine D.ap (_) rfl rfl rfl rfl rfl rfl rfl rfl rfl (fun _=>⟨by decide,by decide,rfl⟩) rfl rfl ?_
   refine D.aa (bkT hb8 2) ?_
   refine D.ac ?_
   refine D.aj _ rfl ?_
   refine D.rem rfl rfl rfl rfl rfl rfl (by omega) (by omega) rfl rfl ?_
   refine D.ap (_) rfl rfl rfl rfl rfl rfl rfl rfl rfl (fun _=>⟨by decide,by decide,rfl⟩) rfl rfl ?_
   refine D.aa (bkT hb8 2) ?_
   refine D.ay (fun _=>(area5_fn _ (hT.mono mup) p (cor pts t ((2+1) % 3)) (cor pts t ((2+2) % 3)) 3 (by decide) (by decide) hp (hc _) (hc _))) rfl rfl rfl rfl rfl rfl rfl rfl rfl ?_
   refine D.ac ?_
   refine D.ay (fun _=>(rdiv2_fn _ (hT.mono mup) _ _ 29 (by decide) (by decide) (hqa _ _ (hc _) (hc _)) hqw hne)) rfl rfl rfl rfl rfl rfl rfl rfl rfl ?_
   refine D.ap (_) rfl rfl rfl rfl rfl rfl rfl rfl rfl (fun _=>⟨by decide,by decide,rfl⟩) rfl rfl ?_
   refine D.ai (j:=0) ?_
   refine D.e6 5 6 7 8 9 10 hR ?_
   refine G.rp 1 fun R hR=>?_
   refine D.aj _ rfl ?_
   refine D.q6 1 5 6 7 8 9 10 hR ?_
   refine G.ar (m':=0) (by omega) mup (h_6 5 6 7 8 9 10) ⟨3,by decide,rfl,rfl,rfl⟩
 ·have hjl:j=3:=by
   simp only [decide_eq_false_iff_not] at h38
   omega
  subst hjl
  refine G.rg fun R hR=>?_
  refine D.ae (.head _) ?_
  refine D.ai (j:=1) ?_
  refine D.e1 6 hR ?_
  refine G.aA (G.dw (.head _) rfl rfl rfl rfl ?_)
  exact ⟨rfl,rfl⟩
theorem lslopes_fn (C:Mem)(hT:Tabs C)(mv:Value)(pts:List Pt)(tris:List Tri)(t:Tri)(east:Bool)(hm:MeshIn C mv pts tris)(hM:MeshOk pts tris)(ht:t∈tris)(hw:∀ j,QB 20 (wgt pts t (cor pts t 0) j))(hs:∀ j,QP 11 (slf pts t j)) :
  Gives cx.P 52 [mv,.agg ⟨encT t⟩,.bool east] C (.agg ⟨(List.range 3).map fun j=>strV (qtx (if east then (slf pts t j).1 else (slf pts t j).2))⟩):=by
 have hti:=hM.ins t ht
 have hdiff:=tri_diff hM ht
 have hc:=fun j=>cor_qp hM ht j
 obtain ⟨o,ho⟩:∃ o,cor pts t 0=o:=⟨_,rfl⟩
 obtain ⟨p,hp⟩:∃ p:Pt,(if east then (o.1+1,o.2) else (o.1,o.2+1))=p:=⟨_,rfl⟩
 have ho1:QP 1 o:=ho ▸ hc 0
 have hx1:QB 3 (o.1+1):=(QB_addx ho1.1 QB_one).le (by decide)
 have hy1:QB 3 (o.2+1):=(QB_addx ho1.2 QB_one).le (by decide)
 have hpq:QP 3 p:=by
  rw [<- hp]
  split
  ·exact ⟨hx1,ho1.2.le (by decide)⟩
  ·exact ⟨ho1.1.le (by decide),hy1⟩
 have hoq:QP 3 o:=ho1.le (by decide)
 rw [ho] at hw
 have hstep:∀ j,j<3->wgt pts t p j-wgt pts t o j=(if east then (slf pts t j).1 else (slf pts t j).2):=by
  intro j hj
  obtain ⟨e1,e2⟩:=wgt_step hti hdiff o j hj
  rw [<- hp]
  cases east
  ·exact e2
  ·exact e1
 obtain ⟨f,hf⟩:∃ f:Nat->Rat,(fun j=>if east then (slf pts t j).1 else (slf pts t j).2)=f:=⟨_,rfl⟩
 have hfj:∀ j,(if east then (slf pts t j).1 else (slf pts t j).2)=f j:=fun j=>by rw [<- hf]
 simp only [hfj] at hstep ⊢
 have hfq:∀ j,QB 11 (f j):=by
  intro j
  rw [<- hf]
  show QB 11 (if east then (slf pts t j).1 else (slf pts t j).2)
  split
  ·exact (hs j).1
  ·exact (hs j).2
 have hpw:∀ j,j<3->QB 32 (wgt pts t p j):=by
  intro j hj
  have h:=hstep j hj
  have h2:wgt pts t p j=wgt pts t o j+f j:=by rw [<- h];grind
  rw [h2]
  exact (QB_addx (hw j) (hfq j)).le (by decide)
 have hpt:pts[t.1]?=some o:=ho ▸ pt_at hti.1
 have hsub2:∀ D:Mem,C.le D->∀ j,j<3->Gives cx.P 100 [strV (qtx (wgt pts t p j)),strV (qtx (wgt pts t o j))] D (strV (qtx (f j))):=fun D hD j hj=>by
  have h:=fu D (hT.mono hD) (wgt pts t p j) (wgt pts t o j) 32 (by decide) (by decide) (hpw j hj) ((hw j).le (by decide))
  rw [hstep j hj] at h
  exact h
 have hm0:=hm
 obtain ⟨v1,v2,rfl,h1,h2⟩:=id hm.ex
 refine Fn.it (by kernel_rfl) Tryz.func52 54 fun w0=>?_
 refine G.rg fun R hR=>?_
 refine D.aC (fun b3=>?_)
 refine D.aC (fun b4=>?_)
 refine D.aq (fun b6=>?_)
 refine D.e4 2 3 4 6 hR ?_
 refine G.freeze 2 rfl (fun C3 hle3 hb3=>?_)
 refine G.freeze 1 rfl (fun C4 hle4 hb4=>?_)
 refine G.rp 1 fun R hR=>?_
 refine D.aa (bkT hb3 1) ?_
 refine D.ap (0) rfl rfl rfl rfl rfl rfl rfl rfl rfl (fun _=>⟨by decide,by decide,rfl⟩) rfl rfl ?_
 refine D.aa (bkT hb4 1) ?_
 refine D.ak (h1.mono mup) rfl rfl rfl rfl rfl rfl rfl rfl rfl rfl (by omega) (a7 hpt) (fun _=>rfl) (fun p16 hp16=>?_)
 refine D.aa hp16 ?_
 refine D.aq (fun b7=>?_)
 refine D.ai (j:=0) ?_
 refine D.e5 2 3 4 6 7 hR ?_
 refine G.freeze 0 rfl (fun C7 hle7 hb7=>?_)
 refine G.aE [0,1,2,3,4,5,6,7] [(2,1)] rfl (by kernel_rfl) (fun R hB hR=>?_)
 refine D.ac ?_
 refine D.aa (bkT hb7 1) ?_
 refine D.ay (fun _=>(by have h:=radd2_fn C7 (hT.mono mup) o.1 1 1 (by decide) (by decide) ho1.1 QB_one;rw [bG] at h;exact h)) rfl rfl rfl rfl rfl rfl rfl rfl rfl ?_
 refine D.ac ?_
 refine D.aa (bkT hb7 1) ?_
 refine D.al [strV (qtx (o.1+1)),strV (qtx o.2)] ?_
 refine D.aq (fun b8=>?_)
 refine D.ai (j:=0) ?_
 refine D.e6 2 3 4 6 7 8 hR ?_
 refine G.z6 2 3 4 6 7 8 25 ?_
 refine G.cut (fun fr C' L' μ=>(True)/\fr=[(3,[],.pointer (some ⟨b3,0,none⟩)),(4,[],.pointer (some ⟨b4,0,none⟩)),(6,[],.pointer (some ⟨b6,0,none⟩)),(7,[],.pointer (some ⟨b7,0,none⟩)),(8,[],.pointer (some ⟨b8,0,none⟩))]/\L'=[.obj b8 (.cells ⟨encP p⟩ 91 (0,0)),.obj b6 (.cells ⟨[strV [],strV [],strV []]⟩ 122 (0,0))]) ?_ (fun fr C25 L25 μ hle25 hI=>?_)
 ·refine G.cd (fun h25=>?_) fun h25=>?_
  ·have he:east=false:=by simpa using h25
   subst he
   rw [if_neg (by decide)] at hp
   refine G.aE [0,1,2,3,4,5,6] [(4,1)] rfl (by kernel_rfl) (fun R hB hR=>?_)
   refine D.ac ?_
   refine D.aa (bkT hb7 1) ?_
   refine D.ac ?_
   refine D.aa (bkT hb7 1) ?_
   refine D.ay (fun _=>(by have h:=radd2_fn C7 (hT.mono mup) o.2 1 1 (by decide) (by decide) ho1.2 QB_one;rw [bG] at h;exact h)) rfl rfl rfl rfl rfl rfl rfl rfl rfl ?_
   refine D.al [strV (qtx o.1),strV (qtx (o.2+1))] ?_
   refine D.ai (j:=0) ?_
   refine D.e5 3 4 6 7 8 hR ?_
   subst hp
   refine G.aw 0 (Mem.le.refl _) (h_5 3 4 6 7 8) ⟨trivial,rfl,rfl⟩
  ·have he:east=true:=by simpa using h25
   subst he
   rw [if_pos rfl] at hp
   subst hp
   refine G.aw 0 (Mem.le.refl _) (h_5 3 4 6 7 8) ⟨trivial,rfl,rfl⟩
 ·obtain ⟨_,rfl,rfl⟩:=hI
  refine G.cut (fun fr C' L' μ=>∃ (b9 b10:Nat),(True)/\fr=[(6,[],.pointer (some ⟨b6,0,none⟩)),(9,[],.pointer (some ⟨b9,0,none⟩)),(10,[],.pointer (some ⟨b10,0,none⟩))]/\L'=[.obj b10 (.cells ⟨[strV (qtx (wgt pts t p 0)),strV (qtx (wgt pts t p 1)),strV (qtx (wgt pts t p 2))]⟩ 122 (0,0)),.obj b9 (.cells ⟨[strV (qtx (wgt pts t o 0)),strV (qtx (wgt pts t o 1)),strV (qtx (wgt pts t o 2))]⟩ 122 (0,0)),.obj b8 (.cells ⟨encP p⟩ 91 (0,0)),.obj b6 (.cells ⟨[strV [],strV [],strV []]⟩ 122 (0,0))]) ?_ (fun fr Cr5 Lr5 μ hler5 hI=>?_)
  ·refine G.cS (.cut [0,1,2,3,4,5,6,7] (.alt 8 (.fin [9,10,11]) (.alt 9 (.fin [8,10,11]) .stop))) [(3,1),(7,1)] rfl rfl (by kernel_rfl) (fun R hB hR hH=>?_)
   refine D.aa (bkT hb3 2) ?_
   refine D.aa (bkT hb4 3) ?_
   refine D.aa (bkT hb7 2) ?_
   refine D.bh (fun _=>(lweights_fn _ (hT.mono mup) _ pts tris t o (hm0.mono mup) hM ht hoq)) ?_
   refine D.aa (bkT hb3 2) ?_
   refine D.aa (bkT hb4 3) ?_
   refine D.ae (.head _) ?_
   refine D.bh (fun _=>(lweights_fn _ (hT.mono mup) _ pts tris t p (hm0.mono mup) hM ht hpq)) ?_
   refine D.cm hH rfl ⟨?_, ?_,trivial⟩
   ·refine D.aq (fun b9=>?_)
    refine D.aq (fun b10=>?_)
    refine D.ai (j:=1) ?_
    refine D.ai (j:=1) ?_
    refine D.e3 6 9 10 hR ?_
    refine G.perm (L':=[.obj b10 (.cells ⟨[strV (qtx (wgt pts t p 0)),strV (qtx (wgt pts t p 1)),strV (qtx (wgt pts t p 2))]⟩ 122 (0,0)),.obj b9 (.cells ⟨[strV (qtx (wgt pts t o 0)),strV (qtx (wgt pts t o 1)),strV (qtx (wgt pts t o 2))]⟩ 122 (0,0)),.obj b8 (.cells ⟨encP p⟩ 91 (0,0)),.obj b6 (.cells ⟨[strV [],strV [],strV []]⟩ 122 (0,0))]) (by first | exact List.Perm.refl _ | exact List.Perm.swap _ _ _) ?_
    exact G.aw 0 mup (h_3 6 9 10) ⟨b9,b10,trivial,rfl,rfl⟩
   ·refine D.aq (fun b10=>?_)
    refine D.aq (fun b9=>?_)
    refine D.ai (j:=0) ?_
    refine D.ai (j:=1) ?_
    refine D.e3 6 9 10 hR ?_
    refine G.perm (L':=[.obj b10 (.cells ⟨[strV (qtx (wgt pts t p 0)),strV (qtx (wgt pts t p 1)),strV (qtx (wgt pts t p 2))]⟩ 122 (0,0)),.obj b9 (.cells ⟨[strV (qtx (wgt pts t o 0)),strV (qtx (wgt pts t o 1)),strV (qtx (wgt pts t o 2))]⟩ 122 (0,0)),.obj b8 (.cells ⟨encP p⟩ 91 (0,0)),.obj b6 (.cells ⟨[strV [],strV [],strV []]⟩ 122 (0,0))]) (by first | exact List.Perm.refl _ | exact List.Perm.swap _ _ _) ?_
    exact G.aw 0 mup (h_3 6 9 10) ⟨b9,b10,trivial,rfl,rfl⟩
  obtain ⟨b9,b10,_,rfl,rfl⟩:=hI
  refine G.freeze 1 rfl (fun C9 hle9 hb9=>?_)
  refine G.z4 1 6 9 10 11 ?_
  refine G.loop (fun fr C' L' μ=>∃ (j:Nat),(j<=3)/\fr=[(6,[],.pointer (some ⟨b6,0,none⟩)),(9,[],.pointer (some ⟨b9,0,none⟩)),(10,[],.pointer (some ⟨b10,0,none⟩)),(11,[],.int .i64 j)]/\L'=[.obj b10 (.cells ⟨(List.range 3).map fun k=>if k<j then strV (qtx (f k)) else strV (qtx (wgt pts t p k))⟩ 122 (0,0)),.obj b8 (.cells ⟨encP p⟩ 91 (0,0)),.obj b6 (.cells ⟨[strV [],strV [],strV []]⟩ 122 (0,0))]/\μ=3-j) (h_4 6 9 10 11) ⟨0,Nat.zero_le _,rfl,rfl,rfl⟩ (fun fr C0' L0' m hle0 hI=>?_)
  obtain ⟨j,hj,rfl,rfl,rfl⟩:=hI
  refine G.z5 2 6 9 10 11 41 ?_
  refine G.cd (fun h41=>?_) fun h41=>?_
  ·have hjl:j<3:=by
    simp only [decide_eq_true_eq] at h41
    omega
   rcases (by omega:j=0∨j=1∨j=2) with rfl | rfl | rfl
   ·refine G.aE [0,1,2,3,4,5,6,7,8,9] [(7,1)] rfl (by kernel_rfl) (fun R hB hR=>?_)
    refine D.ps 2 ?_
    refine D.ap (_) rfl rfl rfl rfl rfl rfl rfl rfl rfl (fun _=>⟨by decide,by decide,rfl⟩) rfl rfl ?_
    refine D.ae (.head _) ?_
    refine D.ac ?_
    refine D.ap (_) rfl rfl rfl rfl rfl rfl rfl rfl rfl (fun _=>⟨by decide,by decide,rfl⟩) rfl rfl ?_
    refine D.aa (bkT hb9 1) ?_
    refine D.ay (fun _=>(hsub2 _ mup 0 (by decide))) rfl rfl rfl rfl rfl rfl rfl rfl rfl ?_
    refine D.ap (_) rfl rfl rfl rfl rfl rfl rfl rfl rfl (fun _=>⟨by decide,by decide,rfl⟩) rfl rfl ?_
    refine D.ai (j:=0) ?_
    refine D.e4 6 9 10 11 hR ?_
    refine G.rp 1 fun R hR=>?_
    refine D.aj _ rfl ?_
    refine D.q4 1 6 9 10 11 hR ?_
    refine G.ar (m':=2) (by omega) mup (h_4 6 9 10 11) ⟨1,by decide,rfl,rfl,rfl⟩
   ·refine G.aE [0,1,2,3,4,5,6,7,8,9] [(7,1)] rfl (by kernel_rfl) (fun R hB hR=>?_)
    refine D.ps 2 ?_
    refine D.ap (_) rfl rfl rfl rfl rfl rfl rfl rfl rfl (fun _=>⟨by decide,by decide,rfl⟩) rfl rfl ?_
    refine D.ae (.head _) ?_
    refine D.ac ?_
    refine D.ap (_) rfl rfl rfl rfl rfl rfl rfl rfl rfl (fun _=>⟨by decide,by decide,rfl⟩) rfl rfl ?_
    refine D.aa (bkT hb9 1) ?_
    refine D.ay (fun _=>(hsub2 _ mup 1 (by decide))) rfl rfl rfl rfl rfl rfl rfl rfl rfl ?_
    refine D.ap (_) rfl rfl rfl rfl rfl rfl rfl rfl rfl (fun _=>⟨by decide,by decide,rfl⟩) rfl rfl ?_
    refine D.ai (j:=0) ?_
    refine D.e4 6 9 10 11 hR ?_
    refine G.rp 1 fun R hR=>?_
    refine D.aj _ rfl ?_
    refine D.q4 1 6 9 10 11 hR ?_
    refine G.ar (m':=1) (by omega) mup (h_4 6 9 10 11) ⟨2,by decide,rfl,rfl,rfl⟩
   ·refine G.aE [0,1,2,3,4,5,6,7,8,9] [(7,1)] rfl (by kernel_rfl) (fun R hB hR=>?_)
    refine D.ps 2 ?_
    refine D.ap (_) rfl rfl rfl rfl rfl rfl rfl rfl rfl (fun _=>⟨by decide,by decide,rfl⟩) rfl rfl ?_
    refine D.ae (.head _) ?_
    refine D.ac ?_
    refine D.ap (_) rfl rfl rfl rfl rfl rfl rfl rfl rfl (fun _=>⟨by decide,by decide,rfl⟩) rfl rfl ?_
    refine D.aa (bkT hb9 1) ?_
    refine D.ay (fun _=>(hsub2 _ mup 2 (by decide))) rfl rfl rfl rfl rfl rfl rfl rfl rfl ?_
    refine D.ap (_) rfl rfl rfl rfl rfl rfl rfl rfl rfl (fun _=>⟨by decide,by decide,rfl⟩) rfl rfl ?_
    refine D.ai (j:=0) ?_
    refine D.e4 6 9 10 11 hR ?_
    refine G.rp 1 fun R hR=>?_
    refine D.aj _ rfl ?_
    refine D.q4 1 6 9 10 11 hR ?_
    refine G.ar (m':=0) (by omega) mup (h_4 6 9 10 11) ⟨3,by decide,rfl,rfl,rfl⟩
  ·have hjl:j=3:=by
    simp only [decide_eq_false_iff_not] at h41
    omega
   subst hjl
   refine G.rg fun R hR=>?_
   refine D.ae (.head _) ?_
   refine D.ai (j:=2) ?_
   refine D.e1 6 hR ?_
   refine G.aA (G.dw (.head _) rfl rfl rfl rfl ?_)
   exact ⟨rfl,rfl⟩
theorem atT_take (t:Tri)(f:Nat->Rat)(p surface:Nat)(sign:Rat)(j:Nat)(hj:j<3):(((atT t f).take (j+1)).map (putF p surface sign)).reverse=(surface*p+triN t j,sign*f j)::(((atT t f).take j).map (putF p surface sign)).reverse:=by
 rcases (by omega:j=0∨j=1∨j=2) with rfl | rfl | rfl <;> rfl
theorem rowN_rev (s p surface:Nat)(t:Tri)(f:Nat->Rat)(sign:Rat)(hd:t.1≠t.2.1/\t.1≠t.2.2/\t.2.1≠t.2.2):rowF (s*p) ((atT t f).map (putF p surface sign)).reverse=rowN s p surface (atT t f) sign:=by
 unfold rowN
 refine (rowF_perm (List.reverse_perm _).symm ?_).symm
 simp only [atT,putF,List.map_cons,List.map_nil,List.nodup_cons,List.mem_cons,List.not_mem_nil,or_false,not_or,not_false_iff,List.nodup_nil,and_true]
 omega
theorem lrow_fn (C:Mem)(hT:Tabs C)(bv:Value)(B:Bk)(surface:Nat)(t:Tri)(f:Nat->Rat)(bound sign:Rat)(hB:BookIn C bv B)(h60:bs B*bp B<=60)(hc:B.col.length<=60)(hc0:B.col≠[])(hpp:B.pts.length<=400)(hs:surface<bs B)(hti:TriIn B.pts.length t)(hd:t.1≠t.2.1/\t.1≠t.2.2/\t.2.1≠t.2.2)(hf:∀ j,QB 22 (f j))(hb:QB 22 bound)(hsg:QB 1 sign) :
  Pur cx.P 50 [bv,.int .i64 surface,.agg ⟨encT t⟩,.agg ⟨[strV (qtx (f 0)),strV (qtx (f 1)),strV (qtx (f 2))]⟩,strV (qtx bound),strV (qtx sign)] C fun u D=>∃ v,u=.agg ⟨[v,strV (qtx (sign*bound))]⟩/\Sl D 1 v ((rowN (bs B) (bp B) surface (atT t f) sign).map encQ):=by
 have hsurf:surface*bp B+bp B<=bs B*bp B:=by
  rw [<- Nat.succ_mul]
  exact Nat.mul_le_mul_right _ hs
 have hB0:=hB
 have hzer:=fun (D:Mem)(hD:C.le D)=>lzeros_fn D _ B (hB0.mono hD) (by omega) hc0 hpp
 obtain ⟨v1,v2,tv,cv,ov,rfl,h1,h2,h3,h4,h5⟩:=id hB.ex
 obtain ⟨A1,c1,rfl,hq1,hq2,_⟩:=id h1
 simp only [List.length_map] at h1 hzer ⊢
 obtain ⟨N,hN⟩:∃ N,bs B*bp B=N:=⟨_,rfl⟩
 rw [<- rowN_rev (bs B) (bp B) surface t f sign hd]
 have hin:∀ j,surface*bp B+triN t j<N:=fun j=>by have:=cY hti j;unfold bp at *;omega
 have hm1:∀ j,(surface:Int)*((bp B:Nat):Int)+((triN t j:Nat):Int)=((surface*bp B+triN t j:Nat):Int):=fun j=>by rw [Int.natCast_add,Int.natCast_mul]
 have hmp:(surface:Int)*((B.pts.length:Nat):Int)=((surface*bp B:Nat):Int):=(Int.natCast_mul _ _).symm
 have htri:∀ j,triN t j<400:=fun j=>by have:=cY hti j;omega
 have hsb:bp B<=60:=by
  have h:1*bp B<=bs B*bp B:=Nat.mul_le_mul_right _ (by omega)
  omega
 rw [hN] at h60 hzer ⊢
 refine Fn.it (by kernel_rfl) Tryz.func50 44 fun w0=>?_
 refine G.rg fun R hR=>?_
 refine D.aC (fun b6=>?_)
 refine D.aC (fun b8=>?_)
 refine D.aC (fun b9=>?_)
 refine D.aq (fun b12=>?_)
 refine D.e7 1 4 5 6 8 9 12 hR ?_
 refine G.freeze 3 rfl (fun C6 hle6 hb6=>?_)
 refine G.freeze 2 rfl (fun C8 hle8 hb8=>?_)
 refine G.freeze 1 rfl (fun C9 hle9 hb9=>?_)
 refine G.aO [(1,3)] rfl (fun R hR=>?_)
 refine D.aa (bkT hb6 5) ?_
 refine D.call (hzer _ mup) rfl (.inr (by decide)) rfl rfl rfl rfl rfl rfl (List.Perm.refl _) (fun _=>rfl) (fun v16 C16 L16 hle16 hq16=>?_)
 obtain ⟨Az,cz,rfl,hblk,rfl⟩:=hq16
 obtain ⟨bz,rfl⟩:=hblk (by have:=hin 0;omega)
 refine D.ps 2 ?_
 refine D.af (eD _ (hT.mono mup) sign bound 22 (by decide) (by decide) (hsg.le (by decide)) hb) rfl rfl rfl rfl rfl rfl rfl (fun _=>rfl) ?_
 refine D.al [.slice (some ⟨bz,0,none⟩) N cz,strV (qtx (sign*bound))] ?_
 refine D.aq (fun b13=>?_)
 refine D.ai (j:=0) ?_
 refine D.e7 1 5 6 8 9 12 13 hR ?_
 refine G.z8 1 1 5 6 8 9 12 13 14 ?_
 refine G.perm (L':=[.arr (.slice (some ⟨bz,0,none⟩) N cz) 54 1 N (List.replicate N (strV [48])),.obj b13 (.cells ⟨[.slice (some ⟨bz,0,none⟩) N cz,strV (qtx (sign*bound))]⟩ 101 (0,0)),.obj b12 (.cells ⟨[.slice none 0 0,strV []]⟩ 101 (0,0))]) (List.Perm.swap _ _ _) ?_
 refine G.aR (L':=[.arr (.slice (some ⟨bz,0,none⟩) N cz) 54 1 N (facV N []),.obj b13 (.cells ⟨[.slice (some ⟨bz,0,none⟩) N cz,strV (qtx (sign*bound))]⟩ 101 (0,0)),.obj b12 (.cells ⟨[.slice none 0 0,strV []]⟩ 101 (0,0))]) (by rw [<- facV_nil]) ?_
 refine G.loop (fun fr C' L' μ=>∃ (j:Nat),(j<=3)/\fr=[(1,[],.int .i64 surface),(5,[],strV (qtx sign)),(6,[],.pointer (some ⟨b6,0,none⟩)),(8,[],.pointer (some ⟨b8,0,none⟩)),(9,[],.pointer (some ⟨b9,0,none⟩)),(12,[],.pointer (some ⟨b12,0,none⟩)),(13,[],.pointer (some ⟨b13,0,none⟩)),(14,[],.int .i64 j)]/\L'=[.arr (.slice (some ⟨bz,0,none⟩) N cz) 54 1 N (facV N (((atT t f).take j).map (putF (bp B) surface sign)).reverse),.obj b13 (.cells ⟨[.slice (some ⟨bz,0,none⟩) N cz,strV (qtx (sign*bound))]⟩ 101 (0,0)),.obj b12 (.cells ⟨[.slice none 0 0,strV []]⟩ 101 (0,0))]/\μ=3-j) (h_8 1 5 6 8 9 12 13 14) ⟨0,Nat.zero_le _,rfl,rfl,rfl⟩ (fun fr C0' L0' m hle0 hI=>?_)
 obtain ⟨j,hj,rfl,rfl,rfl⟩:=hI
 refine G.z9 2 1 5 6 8 9 12 13 14 22 ?_
 refine G.cd (fun h22=>?_) fun h22=>?_
 ·have hjl:j<3:=by
   simp only [decide_eq_true_eq] at h22
   omega
  rcases (by omega:j=0∨j=1∨j=2) with rfl | rfl | rfl
  ·have hin3:=hin 0
   have hm3:=hm1 0
   have htr3:=htri 0
   have ht0:triN t 0=t.1:=rfl
   have ht1:triN t 1=t.2.1:=rfl
   have ht2:triN t 2=t.2.2:=rfl
   refine G.aE [0,1,2,3,4,5,6,7,8,9,10,11,12,13,14,15,16,17,18] [(16,1)] rfl (by kernel_rfl) (fun R hB hR=>?_)
   refine D.ac ?_
   refine D.ae (.tail _ (.head _)) ?_
   refine D.ps 3 ?_
   refine D.aa (bkT hb6 1) ?_
   refine D.ac ?_
   refine D.aj _ rfl ?_
   refine D.ac ?_
   refine D.ap (_) rfl rfl rfl rfl rfl rfl rfl rfl rfl (fun _=>⟨by decide,by decide,rfl⟩) rfl rfl ?_
   refine D.aa (bkT hb8 1) ?_
   refine D.bT (((surface*bp B+triN t 0:Nat):Int)) rfl rfl rfl rfl (by omega) (by omega) (by omega) rfl rfl ?_
   refine D.ps 2 ?_
   refine D.ap (_) rfl rfl rfl rfl rfl rfl rfl rfl rfl (fun _=>⟨by decide,by decide,rfl⟩) rfl rfl ?_
   refine D.aa (bkT hb9 1) ?_
   refine D.ay (fun _=>(eD _ (hT.mono mup) sign (f 0) 22 (by decide) (by decide) (hsg.le (by decide)) (hf 0))) rfl rfl rfl rfl rfl rfl rfl rfl rfl ?_
   refine D.bc ((surface*bp B+triN t 0)) rfl rfl rfl rfl rfl rfl rfl rfl rfl rfl (fun _=>⟨by omega,by omega,(Nat.mul_one _).symm⟩) rfl rfl ?_
   refine D.aP (j:=0) rfl rfl rfl rfl rfl rfl rfl rfl rfl rfl rfl (by rw [eJ];simp;omega) ?_
   refine D.e8 1 5 6 8 9 12 13 14 hR ?_
   refine G.rp 1 fun R hR=>?_
   refine D.aj _ rfl ?_
   refine D.q8 1 1 5 6 8 9 12 13 14 hR ?_
   refine G.aR (L':=[.arr (.slice (some ⟨bz,0,none⟩) N cz) 54 1 N (facV N (((atT t f).take 1).map (putF (bp B) surface sign)).reverse),.obj b13 (.cells ⟨[.slice (some ⟨bz,0,none⟩) N cz,strV (qtx (sign*bound))]⟩ 101 (0,0)),.obj b12 (.cells ⟨[.slice none 0 0,strV []]⟩ 101 (0,0))]) (by rw [atT_take t f _ _ _ 0 (by decide),<- cK _ _ (hin 0)];rfl) ?_
   refine G.ar (m':=2) (by omega) mup (h_8 1 5 6 8 9 12 13 14) ⟨1,by decide,rfl,rfl,rfl⟩
  ·have hin3:=hin 1
   have hm3:=hm1 1
   have htr3:=htri 1
   have ht0:triN t 0=t.1:=rfl
   have ht1:triN t 1=t.2.1:=rfl
   have ht2:triN t 2=t.2.2:=rfl
   refine G.aE [0,1,2,3,4,5,6,7,8,9,10,11,12,13,14,15,16,17,18] [(16,1)] rfl (by kernel_rfl) (fun R hB hR=>?_)
   refine D.ac ?_
   refine D.ae (.tail _ (.head _)) ?_
   refine D.ps 3 ?_
   refine D.aa (bkT hb6 1) ?_
   refine D.ac ?_
   refine D.aj _ rfl ?_
   refine D.ac ?_
   refine D.ap (_) rfl rfl rfl rfl rfl rfl rfl rfl rfl (fun _=>⟨by decide,by decide,rfl⟩) rfl rfl ?_
   refine D.aa (bkT hb8 1) ?_
   refine D.bT (((surface*bp B+triN t 1:Nat):Int)) rfl rfl rfl rfl (by omega) (by omega) (by omega) rfl rfl ?_
   refine D.ps 2 ?_
   refine D.ap (_) rfl rfl rfl rfl rfl rfl rfl rfl rfl (fun _=>⟨by decide,by decide,rfl⟩) rfl rfl ?_
   refine D.aa (bkT hb9 1) ?_
   refine D.ay (fun _=>(eD _ (hT.mono mup) sign (f 1) 22 (by decide) (by decide) (hsg.le (by decide)) (hf 1))) rfl rfl rfl rfl rfl rfl rfl rfl rfl ?_
   refine D.bc ((surface*bp B+triN t 1)) rfl rfl rfl rfl rfl rfl rfl rfl rfl rfl (fun _=>⟨by omega,by omega,(Nat.mul_one _).symm⟩) rfl rfl ?_
   refine D.aP (j:=0) rfl rfl rfl rfl rfl rfl rfl rfl rfl rfl rfl (by rw [eJ];simp;omega) ?_
   refine D.e8 1 5 6 8 9 12 13 14 hR ?_
   refine G.rp 1 fun R hR=>?_
   refine D.aj _ rfl ?_
   refine D.q8 1 1 5 6 8 9 12 13 14 hR ?_
   refine G.aR (L':=[.arr (.slice (some ⟨bz,0,none⟩) N cz) 54 1 N (facV N (((atT t f).take 2).map (putF (bp B) surface sign)).reverse),.obj b13 (.cells ⟨[.slice (some ⟨bz,0,none⟩) N cz,strV (qtx (sign*bound))]⟩ 101 (0,0)),.obj b12 (.cells ⟨[.slice none 0 0,strV []]⟩ 101 (0,0))]) (by rw [atT_take t f _ _ _ 1 (by decide),<- cK _ _ (hin 1)];rfl) ?_
   refine G.ar (m':=1) (by omega) mup (h_8 1 5 6 8 9 12 13 14) ⟨2,by decide,rfl,rfl,rfl⟩
  ·have hin3:=hin 2
   have hm3:=hm1 2
   have htr3:=htri 2
   have ht0:triN t 0=t.1:=rfl
   have ht1:triN t 1=t.2.1:=rfl
   have ht2:triN t 2=t.2.2:=rfl
   refine G.aE [0,1,2,3,4,5,6,7,8,9,10,11,12,13,14,15,16,17,18] [(16,1)] rfl (by kernel_rfl) (fun R hB hR=>?_)
   refine D.ac ?_
   refine D.ae (.tail _ (.head _)) ?_
   refine D.ps 3 ?_
   refine D.aa (bkT hb6 1) ?_
   refine D.ac ?_
   refine D.aj _ rfl ?_
   refine D.ac ?_
   refine D.ap (_) rfl rfl rfl rfl rfl rfl rfl rfl rfl (fun _=>⟨by decide,by decide,rfl⟩) rfl rfl ?_
   refine D.aa (bkT hb8 1) ?_
   refine D.bT (((surface*bp B+triN t 2:Nat):Int)) rfl rfl rfl rfl (by omega) (by omega) (by omega) rfl rfl ?_
   refine D.ps 2 ?_
   refine D.ap (_) rfl rfl rfl rfl rfl rfl rfl rfl rfl (fun _=>⟨by decide,by decide,rfl⟩) rfl rfl ?_
   refine D.aa (bkT hb9 1) ?_
   refine D.ay (fun _=>(eD _ (hT.mono mup) sign (f 2) 22 (by decide) (by decide) (hsg.le (by decide)) (hf 2))) rfl rfl rfl rfl rfl rfl rfl rfl rfl ?_
   refine D.bc ((surface*bp B+triN t 2)) rfl rfl rfl rfl rfl rfl rfl rfl rfl rfl (fun _=>⟨by omega,by omega,(Nat.mul_one _).symm⟩) rfl rfl ?_
   refine D.aP (j:=0) rfl rfl rfl rfl rfl rfl rfl rfl rfl rfl rfl (by rw [eJ];simp;omega) ?_
   refine D.e8 1 5 6 8 9 12 13 14 hR ?_
   refine G.rp 1 fun R hR=>?_
   refine D.aj _ rfl ?_
   refine D.q8 1 1 5 6 8 9 12 13 14 hR ?_
   refine G.aR (L':=[.arr (.slice (some ⟨bz,0,none⟩) N cz) 54 1 N (facV N (((atT t f).take 3).map (putF (bp B) surface sign)).reverse),.obj b13 (.cells ⟨[.slice (some ⟨bz,0,none⟩) N cz,strV (qtx (sign*bound))]⟩ 101 (0,0)),.obj b12 (.cells ⟨[.slice none 0 0,strV []]⟩ 101 (0,0))]) (by rw [atT_take t f _ _ _ 2 (by decide),<- cK _ _ (hin 2)];rfl) ?_
   refine G.ar (m':=0) (by omega) mup (h_8 1 5 6 8 9 12 13 14) ⟨3,by decide,rfl,rfl,rfl⟩
 ·have hjl:j=3:=by
   simp only [decide_eq_false_iff_not] at h22
   omega
  subst hjl
  refine G.freezeArr 0 ((rowF N (((atT t f).map (putF (bp B) surface sign)).reverse)).map encQ) rfl (dH _ _) (by intro r hr;obtain ⟨y,_,rfl⟩:=List.mem_map.1 hr;rfl) (by simp [dR]) (fun Cz hz hsz=>?_)
  refine G.rg fun R hR=>?_
  refine D.ae (.head _) ?_
  refine D.ai (j:=1) ?_
  refine D.e1 12 hR ?_
  refine G.aA (G.dw (.head _) rfl rfl rfl rfl ?_)
  exact ⟨rfl,_,rfl,hsz.mono mup⟩

theorem lslopeE (C:Mem)(hT:Tabs C)(mv:Value)(pts:List Pt)(tris:List Tri)(t:Tri)(hm:MeshIn C mv pts tris)(hM:MeshOk pts tris)(ht:t∈tris)(hw:∀ j,QB 20 (wgt pts t (cor pts t 0) j))(hs:∀ j,QP 11 (slf pts t j)) :
  Gives cx.P 52 [mv,.agg ⟨encT t⟩,.bool true] C (.agg ⟨[strV (qtx (slf pts t 0).1),strV (qtx (slf pts t 1).1),strV (qtx (slf pts t 2).1)]⟩):=lslopes_fn C hT mv pts tris t true hm hM ht hw hs
theorem lslopeN (C:Mem)(hT:Tabs C)(mv:Value)(pts:List Pt)(tris:List Tri)(t:Tri)(hm:MeshIn C mv pts tris)(hM:MeshOk pts tris)(ht:t∈tris)(hw:∀ j,QB 20 (wgt pts t (cor pts t 0) j))(hs:∀ j,QP 11 (slf pts t j)) :
  Gives cx.P 52 [mv,.agg ⟨encT t⟩,.bool false] C (.agg ⟨[strV (qtx (slf pts t 0).2),strV (qtx (slf pts t 1).2),strV (qtx (slf pts t 2).2)]⟩):=lslopes_fn C hT mv pts tris t false hm hM ht hw hs
theorem one_sl {C:Mem}{v:Value}{l:List (List Value)}(h:Sl C 1 v l):oneB v=true:=by
 obtain ⟨A,c,rfl,_⟩:=id h
 rfl
theorem ones1 {a:Value}{s:Str}(ha:oneB a=true):([[a,strV s]].all fun r=>r.all oneB)=true:=by
 simp only [List.all_cons,List.all_nil,ha];rfl
theorem ones2 {a b:Value}{s t:Str}(ha:oneB a=true)(hb:oneB b=true):([[a,strV s],[b,strV t]].all fun r=>r.all oneB)=true:=by
 simp only [List.all_cons,List.all_nil,ha,hb];rfl
theorem ones4 {a b c d:Value}{s t x y:Str}(ha:oneB a=true)(hb:oneB b=true)(hc:oneB c=true)(hd:oneB d=true):([[a,strV s],[b,strV t],[c,strV x],[d,strV y]].all fun r=>r.all oneB)=true:=by
 simp only [List.all_cons,List.all_nil,ha,hb,hc,hd];rfl
theorem neg_div' (a b:Rat):-(a / b)=-a / b:=by grind
theorem lof_fn (C:Mem)(hT:Tabs C)(bv:Value)(B:Bk)(fs:List Rat)(i:Nat)(o:Obs)(p:Pt)(ti:Nat)(t:Tri)(z:Rat)(hB:BookIn C bv B)(hG:Good B.pts B.tris)(hbR:BookR B)(hbz:fj B=0)(hF:Terr B fs)(ho:B.obs[i]?=some o)(hFi:Fine B fs o p ti t z)(h60:bs B*bp B<=60)(hcs:B.col.length<=60)(hc0:B.col≠[])(hpp:B.pts.length<=400)
  (hun:∀ k x,B.col[k]?=some x->(x.unit=o.upper ↔ k=upN B o)) (hp3:QP 3 p) (hw0:∀ j,QB 20 (wgt B.pts t (cor B.pts t 0) j)) (hsl:∀ j,QP 11 (slf B.pts t j)) :
  Pur cx.P 21 [bv,.int .i64 i] C fun u D=>RowsIn D u (rowsO B o p t z):=by
 have hB0:=hB
 have hM:=hG.ok
 obtain ⟨r,hloc⟩:=hFi.loc
 have htm:=List.mem_of_getElem? hFi.tri
 have hti:=hM.ins t htm
 have hdiff:=tri_diff hM htm
 have hil:=(List.getElem?_eq_some_iff.1 ho).1
 have hO:=hFi.place
 have hcp:=List.length_pos_iff.2 hc0
 have hcl:bs B+1=B.col.length:=by unfold bs;omega
 obtain ⟨u,hu⟩:∃ u:Nat,idxF (isU o.upper) B.col 0=(u:Nat):=⟨_,(Int.toNat_of_nonneg hFi.up).symm⟩
 have hup:upN B o=u:=by unfold upN;rw [hu];rfl
 have hul:u<B.col.length:=by
  rcases idxF_cases (isU o.upper) B.col with ⟨h,_⟩ | ⟨k,x,h,h2,_⟩
  ·rw [hu] at h;omega
  ·have:=(List.getElem?_eq_some_iff.1 h2).1
   rw [hu] at h
   omega
 have hfw:∀ j,QB 22 (wgt B.pts t p j):=hFi.w
 have hqh:QB 22 (hgtQ o z):=hFi.qh
 have hsll:(aS B.col o).length<=bs B:=by
  unfold aS surfN
  refine Nat.le_trans (List.length_filter_le _ _) ?_
  rw [List.length_range]
  unfold bs
  omega
 have hsin:∀ k∈aS B.col o,k<bs B:=fun k hk=>surfN_in hk
 rw [hup] at hun
 obtain ⟨v1,v2,tv,cv,ov,rfl,h1,h2,h3,h4,h5⟩:=id hB.ex
 have hmi:MeshIn C (.agg ⟨[v1,v2]⟩) B.pts B.tris:=⟨v1,v2,rfl,h1,h2⟩
 obtain ⟨A4,c4,rfl,hq4,hq4',_⟩:=id h4
 obtain ⟨A5,c5,rfl,hq5,hq6,_⟩:=id h5
 have hmx:maxLen<=9223372036854775807:=by simp [maxLen]
 simp only [List.length_map] at h4 h5 hq4 hq5 hB0 ⊢
 have hlr:∀ (D:Mem),C.le D->∀ (k:Nat)(f:Nat->Rat)(b sg:Rat),k<bs B->(∀ j,QB 22 (f j))->QB 22 b->QB 1 sg->Pur cx.P 50 [.agg ⟨[v1,v2,tv,.slice A4 B.col.length c4,.slice A5 B.obs.length c5]⟩,.int .i64 k,.agg ⟨encT t⟩,.agg ⟨[strV (qtx (f 0)),strV (qtx (f 1)),strV (qtx (f 2))]⟩,strV (qtx b),strV (qtx sg)] D fun u D=>∃ v,u=.agg ⟨[v,strV (qtx (sg*b))]⟩/\Sl D 1 v ((rowR (bs B) (bp B) k (atT t f) b sg).f.map encQ) :=
  fun D hD k f b sg hk hf hb hs=>lrow_fn D (hT.mono hD) _ B k t f b sg (hB0.mono hD) h60 hcs hc0 hpp hk hti hdiff hf hb hs
 have hlp:∀ (D:Mem),C.le D->∀ (k:Nat)(f:Nat->Rat)(b:Rat),k<bs B->(∀ j,QB 22 (f j))->QB 22 b->Pur cx.P 50 [.agg ⟨[v1,v2,tv,.slice A4 B.col.length c4,.slice A5 B.obs.length c5]⟩,.int .i64 k,.agg ⟨encT t⟩,.agg ⟨[strV (qtx (f 0)),strV (qtx (f 1)),strV (qtx (f 2))]⟩,strV (qtx b),strV [49]] D fun u D=>∃ v,u=.agg ⟨[v,strV (qtx (1*b))]⟩/\Sl D 1 v ((rowR (bs B) (bp B) k (atT t f) b 1).f.map encQ) :=
  fun D hD k f b hk hf hb=>by have h:=hlr D hD k f b 1 hk hf hb QB_one;rw [bG] at h;exact h
 have hln:∀ (D:Mem),C.le D->∀ (k:Nat)(f:Nat->Rat)(b:Rat),k<bs B->(∀ j,QB 22 (f j))->QB 22 b->Pur cx.P 50 [.agg ⟨[v1,v2,tv,.slice A4 B.col.length c4,.slice A5 B.obs.length c5]⟩,.int .i64 k,.agg ⟨encT t⟩,.agg ⟨[strV (qtx (f 0)),strV (qtx (f 1)),strV (qtx (f 2))]⟩,strV (qtx b),strV [45,49]] D fun u D=>∃ v,u=.agg ⟨[v,strV (qtx (-1*b))]⟩/\Sl D 1 v ((rowR (bs B) (bp B) k (atT t f) b (-1)).f.map encQ) :=
  fun D hD k f b hk hf hb=>by have h:=hlr D hD k f b (-1) hk hf hb neg_one_qb;rw [bi] at h;exact h
 refine Fn.it (by kernel_rfl) Tryz.func21 210 fun w0=>?_
 refine G.rg fun R hR=>?_
 refine D.aC (fun b2=>?_)
 refine D.q2 1 1 2 hR ?_
 refine G.freeze 0 rfl (fun C2 hle2 hb2=>?_)
 refine G.rp 1 fun R hR=>?_
 refine D.aa (bkT hb2 1) ?_
 refine D.ac ?_
 refine D.ak (h5.mono mup) rfl rfl rfl rfl rfl rfl rfl rfl rfl rfl (by omega) (a7 ho) (fun _=>rfl) (fun p28 hp28=>?_)
 refine D.aa hp28 ?_
 refine D.aq (fun b5=>?_)
 refine D.ai (j:=0) ?_
 refine D.e3 1 2 5 hR ?_
 refine G.freeze 0 rfl (fun C5 hle5 hb5=>?_)
 refine G.rp 1 fun R hR=>?_
 refine D.aa (bkT hb2 2) ?_
 refine D.ac ?_
 refine D.aa (bkT hb5 2) ?_
 refine D.aK (by have h:=locate_fn C5 (hT.mono mup) _ B.pts B.tris p (hmi.mono mup) hG hO.q hO.r;rw [<- obsAt_val hO] at h;exact h) rfl rfl rfl rfl rfl rfl rfl (fun _=>rfl) (fun v35 C35 hle35 hq35=>?_)
 obtain ⟨wv,rfl,hwv⟩:=hq35
 rw [hloc] at hwv
 obtain ⟨Aw,cw,hwe,_⟩:=id hwv
 rw [List.length_map] at hwe
 subst hwe
 refine D.q5 5 1 2 5 6 7 hR ?_
 refine G.rg fun R hR=>?_
 refine D.aa (bkT hb2 5) ?_
 refine D.ac ?_
 refine D.ag (heightX_fn _ (hT.mono mup) _ B fs i o p z (hB0.mono mup) hG hbR hbz hF ho hO hFi.val hFi.qz hFi.qh) ?_
 refine D.q7 5 1 2 5 6 7 8 9 hR ?_
 refine G.rg fun R hR=>?_
 refine D.aa (bkT hb2 5) ?_
 refine D.ac ?_
 refine D.aQ (surfacesX_fn _ (hT.mono mup) _ B i o (hB0.mono mup) hG hbR hbz ho) (fun v47 C47 hle47 hq47=>?_)
 obtain ⟨lv,rfl,hlv⟩:=hq47
 obtain ⟨Al,cl,hle0',_⟩:=id hlv
 rw [List.length_map] at hle0'
 subst hle0'
 refine D.q8 5 2 5 6 7 8 9 10 11 hR ?_
 refine G.rp 5 fun R hR=>?_
 refine D.aJ rfl rfl rfl rfl rfl rfl rfl rfl ?_
 refine D.ps 3 ?_
 refine D.aJ rfl rfl rfl rfl rfl rfl rfl rfl ?_
 refine D.ps 4 ?_
 refine D.aJ rfl rfl rfl rfl rfl rfl rfl rfl ?_
 refine D.e6 2 5 6 8 10 64 hR ?_
 refine G.cd (fun h64=>?_) fun h64=>?_
 ·exact absurd h64 (by simp;omega)
 ·refine G.aE [0,1,2,3,4,5,6,7,8,9] [] rfl (by kernel_rfl) (fun R hB hR=>?_)
  refine D.ps 2 ?_
  refine D.aa (bkT hb2 1) ?_
  refine D.ac ?_
  refine D.ak (hwv.mono mup) rfl rfl rfl rfl rfl rfl rfl rfl rfl rfl (by omega) (rfl:(List.map encN (ti::r))[0]?=some (encN ti)) (fun _=>rfl) (fun p69 hp69=>?_)
  refine D.aa hp69 ?_
  refine D.ak (h2.mono mup) rfl rfl rfl rfl rfl rfl rfl rfl rfl rfl (by omega) (a7 hFi.tri) (fun _=>rfl) (fun p71 hp71=>?_)
  refine D.aa hp71 ?_
  refine D.aq (fun b12=>?_)
  refine D.ai (j:=0) ?_
  refine D.e5 2 5 8 10 12 hR ?_
  refine G.freeze 0 rfl (fun C12 hle12 hb12=>?_)
  refine G.rp 1 fun R hR=>?_
  refine D.aa (bkT hb2 2) ?_
  refine D.aa (bkT hb12 3) ?_
  refine D.ac ?_
  refine D.aa (bkT hb5 2) ?_
  refine D.af (by have h:=lweights_fn C12 (hT.mono mup) _ B.pts B.tris t p (hmi.mono mup) hM htm hp3;rw [<- obsAt_val hO] at h;exact h) rfl rfl rfl rfl rfl rfl rfl (fun _=>rfl) ?_
  refine D.aq (fun b13=>?_)
  refine D.ai (j:=0) ?_
  refine D.e6 2 5 8 10 12 13 hR ?_
  refine G.freeze 0 rfl (fun C13 hle13 hb13=>?_)
  refine G.z7 1 2 5 8 10 12 13 14 ?_
  refine G.z8 1 2 5 8 10 12 13 14 15 ?_
  refine G.z9 1 2 5 8 10 12 13 14 15 16 ?_
  refine G.loop (fun fr C' L' μ=>∃ (k:Nat)(y:Nat),(k<=B.col.length/\y=if u<k then u else 0)/\fr=[(2,[],.pointer (some ⟨b2,0,none⟩)),(5,[],.pointer (some ⟨b5,0,none⟩)),(8,[],strV (qtx (hgtQ o z))),(10,[],.slice Al (aS B.col o).length cl),(12,[],.pointer (some ⟨b12,0,none⟩)),(13,[],.pointer (some ⟨b13,0,none⟩)),(14,[],.slice none 0 0),(15,[],.int .i64 y),(16,[],.int .i64 k)]/\L'=[]/\μ=B.col.length-k) (h_9 2 5 8 10 12 13 14 15 16) ⟨0,0,⟨Nat.zero_le _,rfl⟩,rfl,rfl,rfl⟩ (fun fr C0' L0' m hle0 hI=>?_)
  obtain ⟨k,y,⟨hk,hy⟩,rfl,rfl,rfl⟩:=hI
  refine G.rp 2 fun R hR=>?_
  refine D.aa (bkT hb2 1) ?_
  refine D.q10 2 2 5 8 10 12 13 14 15 16 83 hR ?_
  refine G.cd (fun h83=>?_) fun h83=>?_
  ·have hkl:k<B.col.length:=by
    have:=of_decide_eq_true h83
    omega
   obtain ⟨x,hx⟩:∃ x,B.col[k]?=some x:=⟨B.col[k],List.getElem?_eq_getElem hkl⟩
   have hux:=hun k x hx
   refine G.aE [0,1,2,3,4,5,6,7,8] [] rfl (by kernel_rfl) (fun R hB hR=>?_)
   refine D.ac ?_
   refine D.aa (bkT hb2 1) ?_
   refine D.ac ?_
   refine D.ak (h4.mono mup) rfl rfl rfl rfl rfl rfl rfl rfl rfl rfl (by omega) (a7 hx) (fun _=>rfl) (fun p89 hp89=>?_)
   refine D.dr hp89 rfl rfl rfl rfl rfl rfl rfl rfl rfl rfl (fun _=>rfl) (fun p90 hp90=>?_)
   refine D.aa hp90 ?_
   refine D.ac ?_
   refine D.aa (bkT hb5 1) ?_
   refine D.q10 1 2 5 8 10 12 13 14 15 16 94 hR ?_
   refine G.cd (fun h94=>?_) fun h94=>?_
   ·have hxu:x.unit=o.upper:=by simpa using h94
    have hku:=hux.1 hxu
    refine G.z9 2 2 5 8 10 12 13 14 15 16 ?_
    refine G.rp 1 fun R hR=>?_
    refine D.aj _ rfl ?_
    refine D.q9 1 2 5 8 10 12 13 14 15 16 hR ?_
    refine G.ar (m':=B.col.length-(k+1)) (by omega) mup (h_9 2 5 8 10 12 13 14 15 16) ⟨k+1,k,⟨by omega,by rw [if_pos (by omega)];omega⟩,rfl,rfl,rfl⟩
   ·have hxu:¬ x.unit=o.upper:=by simpa using h94
    have hku:k≠u:=fun e=>hxu (hux.2 e)
    refine G.rp 1 fun R hR=>?_
    refine D.aj _ rfl ?_
    refine D.q9 1 2 5 8 10 12 13 14 15 16 hR ?_
    refine G.ar (m':=B.col.length-(k+1)) (by omega) mup (h_9 2 5 8 10 12 13 14 15 16) ⟨k+1,y,⟨by omega,by rw [hy];split <;> split <;> omega⟩,rfl,rfl,rfl⟩
  ·have hkl:k=B.col.length:=by
    have:=of_decide_eq_false h83
    omega
   have hyu:y=u:=by rw [hy,if_pos (by omega)]
   subst hyu
   refine G.nilArr 101 2 ?_
   refine G.rp 1 fun R hR=>?_
   refine D.aa (bkT hb5 1) ?_
   refine D.e9 2 5 8 10 12 13 14 15 97 hR ?_
   refine G.z10 2 2 5 8 10 12 13 14 15 97 156 ?_
   refine G.cut (fun fr C' L' μ=>∃ (vs:List Value)(w:Value),(RowsOk C' vs (rowsO B o p t z))/\fr=[(14,[],w)]/\L'=[.arr w 101 2 (rowsO B o p t z).length (aB vs (rowsO B o p t z)).flatten]) ?_ (fun fr C156 L156 μ hle156 hI=>?_)
   ·refine G.cd (fun h156=>?_) fun h156=>?_
    ·have hk1:o.kind=1:=cj h156
     obtain ⟨R1,hR1⟩:∃ R1,(if 0<y then [rowR (bs B) (bp B) (y-1) (atT t (wgt B.pts t p)) (hgtQ o z) 1] else [])=R1:=⟨_,rfl⟩
     have hRO:rowsO B o p t z=R1++(if y<bs B then [rowR (bs B) (bp B) y (atT t (wgt B.pts t p)) (hgtQ o z) (-1)] else []):=by unfold rowsO;rw [if_pos hk1,hup,hR1]
     refine G.z7 2 2 8 12 13 14 15 159 ?_
     refine G.cut (fun fr C' L' μ=>∃ (vs:List Value)(w:Value),(RowsOk C' vs R1)/\fr=[(2,[],.pointer (some ⟨b2,0,none⟩)),(8,[],strV (qtx (hgtQ o z))),(12,[],.pointer (some ⟨b12,0,none⟩)),(13,[],.pointer (some ⟨b13,0,none⟩)),(14,[],w),(15,[],.int .i64 y)]/\L'=[.arr w 101 2 R1.length (aB vs R1).flatten]) ?_ (fun fr C159 L159 μ hle159 hI=>?_)
     ·refine G.cd (fun h159=>?_) fun h159=>?_
      ·have hu0:0<y:=by
        have:=of_decide_eq_true h159
        omega
       rw [if_pos hu0] at hR1
       subst hR1
       refine G.rp 1 fun R hR=>?_
       refine D.aa (bkT hb2 5) ?_
       refine D.ac ?_
       refine D.bT (((y-1:Nat):Int)) rfl rfl rfl rfl (by omega) (by omega) (by omega) rfl rfl ?_
       refine D.aa (bkT hb12 3) ?_
       refine D.aa (bkT hb13 3) ?_
       refine D.ac ?_
       refine D.aK (hlp _ mup (y-1) (wgt B.pts t p) (hgtQ o z) (by omega) hfw hqh) rfl rfl rfl rfl rfl rfl rfl (fun _=>rfl) (fun v167 C167 hle167 hq167=>?_)
       obtain ⟨va,rfl,hva⟩:=hq167
       refine D.ah [[va,strV (qtx (1*hgtQ o z))]] (fun p168 C168 hle168 hs168=>?_)
       refine D.append (j:=0) rfl rfl rfl rfl rfl rfl rfl rfl rfl rfl rfl hs168 (ones1 (one_sl hva)) (by simp only [List.length_singleton,maxLen];omega) (by simp only [List.length_singleton];omega) (fun _=>rfl) (fun v169=>?_)
       refine D.q6 1 2 8 12 13 14 15 hR ?_
       have hone:=RowsOk.snoc (r:=rowR (bs B) (bp B) (y-1) (atT t (wgt B.pts t p)) (hgtQ o z) 1) (RowsOk.nil _) hva
       refine G.aw 0 mup (h_6 2 8 12 13 14 15) ⟨[va],_,hone.mono mup,rfl,rfl⟩
      ·have hu0:¬ 0<y:=by
        have:=of_decide_eq_false h159
        omega
       rw [if_neg hu0] at hR1
       subst hR1
       refine G.aw 0 mup (h_6 2 8 12 13 14 15) ⟨[],.slice none 0 0,RowsOk.nil _,rfl,rfl⟩
     ·obtain ⟨vs ,w,hrow1,rfl,rfl⟩:=hI
      refine G.rp 1 fun R hR=>?_
      refine D.aj _ rfl ?_
      refine D.ac ?_
      refine D.aa (bkT hb2 1) ?_
      refine D.q7 2 2 8 12 13 14 15 175 hR ?_
      refine G.cd (fun h175=>?_) fun h175=>?_
      ·have hus:y<bs B:=by
        have:=of_decide_eq_true h175
        omega
       rw [if_pos hus] at hRO
       have hR1l:R1.length<=1:=by rw [<- hR1];split <;> simp
       refine G.rp 1 fun R hR=>?_
       refine D.aa (bkT hb2 5) ?_
       refine D.ac ?_
       refine D.aa (bkT hb12 3) ?_
       refine D.aa (bkT hb13 3) ?_
       refine D.ac ?_
       refine D.aQ (hln _ mup y (wgt B.pts t p) (hgtQ o z) hus hfw hqh) (fun v182 C182 hle182 hq182=>?_)
       obtain ⟨vb,rfl,hvb⟩:=hq182
       refine D.ah [[vb,strV (qtx (-1*hgtQ o z))]] (fun p183 C183 hle183 hs183=>?_)
       refine D.append (j:=0) rfl rfl rfl rfl rfl rfl rfl rfl rfl rfl rfl hs183 (ones1 (one_sl hvb)) (by simp only [List.length_singleton,maxLen];omega) (by simp only [List.length_singleton];omega) (fun _=>rfl) (fun v184=>?_)
       refine D.q1 1 14 hR ?_
       have htwo:=RowsOk.snoc (r:=rowR (bs B) (bp B) y (atT t (wgt B.pts t p)) (hgtQ o z) (-1)) (hrow1.mono mup) hvb
       have hcel:=bg hrow1.1 vb (rowR (bs B) (bp B) y (atT t (wgt B.pts t p)) (hgtQ o z) (-1))
       refine G.aR (L':=[.arr v184 101 2 (rowsO B o p t z).length (aB (vs++[vb]) (rowsO B o p t z)).flatten]) (by rw [hRO,hcel];simp [rowR]) ?_
       refine G.aw 0 mup (h_1 14) ⟨vs++[vb],v184,by rw [hRO];exact htwo.mono mup,rfl,rfl⟩
      ·have hus:¬ y<bs B:=by
        have:=of_decide_eq_false h175
        omega
       rw [if_neg hus,List.append_nil] at hRO
       rw [<- hRO] at hrow1 ⊢
       refine G.aw 0 mup (h_1 14) ⟨vs,w,hrow1.mono mup,rfl,rfl⟩
    ·have hk1:¬ o.kind=1:=by
      intro e
      rw [show ((o.kind == 1)=true) by rw [e];rfl] at h156
      cases h156
     refine G.z8 2 2 5 8 10 12 13 14 185 ?_
     refine G.cd (fun h185=>?_) fun h185=>?_
     ·have hk2:o.kind=2:=cj h185
      obtain ⟨f2,hf2⟩:∃ f2,(fun k=>([1, -1]:List Rat).map (rowR (bs B) (bp B) k (atT t (wgt B.pts t p)) (hgtQ o z)))=f2:=⟨_,rfl⟩
      have hRO:rowsO B o p t z=(aS B.col o).flatMap f2:=by unfold rowsO;rw [if_neg hk1,if_pos hk2,<- hf2]
      have hl2:∀ k,(f2 k).length=2:=fun k=>by rw [<- hf2];rfl
      refine G.z8 3 2 8 12 13 14 187 188 189 ?_
      refine G.loop (fun fr C' L' μ=>∃ (j:Nat)(vs:List Value)(w:Value),(j<=(aS B.col o).length/\RowsOk C' vs (((aS B.col o).take j).flatMap f2))/\fr=[(2,[],.pointer (some ⟨b2,0,none⟩)),(8,[],strV (qtx (hgtQ o z))),(12,[],.pointer (some ⟨b12,0,none⟩)),(13,[],.pointer (some ⟨b13,0,none⟩)),(14,[],w),(187,[],.slice Al (aS B.col o).length cl),(188,[],.int .i64 (aS B.col o).length),(189,[],.int .i64 j)]/\L'=[.arr w 101 2 (((aS B.col o).take j).flatMap f2).length (aB vs (((aS B.col o).take j).flatMap f2)).flatten]/\μ=(aS B.col o).length-j) (h_8 2 8 12 13 14 187 188 189) ⟨0,[],.slice none 0 0,⟨Nat.zero_le _,RowsOk.nil _⟩,rfl,rfl,rfl⟩ (fun fr C1' L1' m hle1 hI=>?_)
      obtain ⟨j,vs,w,⟨hj,hrow2⟩,rfl,rfl,rfl⟩:=hI
      refine G.z9 1 2 8 12 13 14 187 188 189 190 ?_
      refine G.cd (fun h190=>?_) fun h190=>?_
      ·have hjl:j<(aS B.col o).length:=by
        have:=of_decide_eq_true h190
        omega
       obtain ⟨k,hkj⟩:∃ k,(aS B.col o)[j]?=some k:=⟨(aS B.col o)[j],List.getElem?_eq_getElem hjl⟩
       have hks:=hsin k (List.mem_of_getElem? hkj)
       have hcnt:=da hl2 ((aS B.col o).take j)
       rw [List.length_take] at hcnt
       have hstep:=eI f2 hkj
       have hfk:f2 k=[rowR (bs B) (bp B) k (atT t (wgt B.pts t p)) (hgtQ o z) 1,rowR (bs B) (bp B) k (atT t (wgt B.pts t p)) (hgtQ o z) (-1)]:=by rw [<- hf2];rfl
       refine G.rg fun R hR=>?_
       refine D.ak (hlv.mono mup) rfl rfl rfl rfl rfl rfl rfl rfl rfl rfl (by omega) (a7 hkj) (fun _=>rfl) (fun p191 hp191=>?_)
       refine D.aa hp191 ?_
       refine D.q9 1 2 8 12 13 14 18 187 188 189 hR ?_
       refine G.aE [0,1,2,3,4,5,7,8,9,10,11,6,12,13,14,15] [] rfl (by kernel_rfl) (fun R hB hR=>?_)
       refine D.ac ?_
       refine D.aa (bkT hb2 5) ?_
       refine D.ac ?_
       refine D.aa (bkT hb12 3) ?_
       refine D.aa (bkT hb13 3) ?_
       refine D.ac ?_
       refine D.aa (bkT hb2 5) ?_
       refine D.ac ?_
       refine D.aa (bkT hb12 3) ?_
       refine D.aa (bkT hb13 3) ?_
       refine D.ac ?_
       refine D.aQ (hlp _ mup k (wgt B.pts t p) (hgtQ o z) hks hfw hqh) (fun v199 C199 hle199 hq199=>?_)
       obtain ⟨va,rfl,hva⟩:=hq199
       refine D.aQ (hln _ mup k (wgt B.pts t p) (hgtQ o z) hks hfw hqh) (fun v205 C205 hle205 hq205=>?_)
       obtain ⟨vb,rfl,hvb⟩:=hq205
       refine D.ah [[va,strV (qtx (1*hgtQ o z))],[vb,strV (qtx (-1*hgtQ o z))]] (fun p206 C206 hle206 hs206=>?_)
       refine D.append (j:=0) rfl rfl rfl rfl rfl rfl rfl rfl rfl rfl rfl hs206 (ones2 (one_sl hva) (one_sl hvb)) (by simp only [List.length_cons,List.length_nil,maxLen];omega) (by simp only [List.length_cons,List.length_nil];omega) (fun _=>rfl) (fun v207=>?_)
       refine D.q8 1 2 8 12 13 14 187 188 189 hR ?_
       refine G.rg fun R hR=>?_
       refine D.aj _ rfl ?_
       refine D.q8 1 2 8 12 13 14 187 188 189 hR ?_
       have hone:=RowsOk.snoc (r:=rowR (bs B) (bp B) k (atT t (wgt B.pts t p)) (hgtQ o z) 1) (hrow2.mono mup) hva
       have htwo:=RowsOk.snoc (r:=rowR (bs B) (bp B) k (atT t (wgt B.pts t p)) (hgtQ o z) (-1)) (hone.mono mup) hvb
       have hcel:=bg hrow2.1 va (rowR (bs B) (bp B) k (atT t (wgt B.pts t p)) (hgtQ o z) 1)
       have hcel2:=bg hone.1 vb (rowR (bs B) (bp B) k (atT t (wgt B.pts t p)) (hgtQ o z) (-1))
       have hst:((aS B.col o).take (j+1)).flatMap f2=((aS B.col o).take j).flatMap f2++[rowR (bs B) (bp B) k (atT t (wgt B.pts t p)) (hgtQ o z) 1]++[rowR (bs B) (bp B) k (atT t (wgt B.pts t p)) (hgtQ o z) (-1)]:=by rw [hstep,hfk];simp
       refine G.aR (L':=[.arr v207 101 2 (((aS B.col o).take (j+1)).flatMap f2).length (aB (vs++[va]++[vb]) (((aS B.col o).take (j+1)).flatMap f2)).flatten]) (by rw [hst,hcel2,hcel];simp [rowR]) ?_
       refine G.ar (m':=(aS B.col o).length-(j+1)) (by omega) mup (h_8 2 8 12 13 14 187 188 189) ⟨j+1,vs++[va]++[vb],v207,⟨by omega,by rw [hst];exact htwo.mono mup⟩,rfl,rfl,rfl⟩
      ·have hjl:j=(aS B.col o).length:=by
        have:=of_decide_eq_false h190
        omega
       rw [hjl,List.take_length,<- hRO] at hrow2 ⊢
       refine G.aw 0 mup (h_1 14) ⟨vs,w,hrow2.mono mup,rfl,rfl⟩
     ·have hk2:¬ o.kind=2:=by
       intro e
       rw [show ((o.kind == 2)=true) by rw [e];rfl] at h185
       cases h185
      obtain ⟨⟨hn1,hn2,hn3⟩,hn4,hn5,hn6,hn7⟩:=hFi.nr hk1 hk2
      have e1:=(bX hn1).1
      have e2:=(bX hn2).1
      have e3:=(bX hn3).1
      have hle1:(qtx (bx o.nx / bx o.nz)).length<=1000000:=Nat.le_trans (bA (QB_div hn4 hn6 hn7) (by decide)) (by decide)
      have hle2:(qtx (bx o.ny / bx o.nz)).length<=1000000:=Nat.le_trans (bA (QB_div hn5 hn6 hn7) (by decide)) (by decide)
      have hd1:∀ D:Mem,C.le D->Gives cx.P 51 [strV o.nx,strV o.nz] D (strV (qtx (bx o.nx / bx o.nz))):=fun D hD=>by
       have h:=rdiv2_fn D (hT.mono hD) (bx o.nx) (bx o.nz) 11 (by decide) (by decide) hn4 hn6 hn7
       rw [<- e1,<- e3] at h
       exact h
      have hd2:∀ D:Mem,C.le D->Gives cx.P 51 [strV o.ny,strV o.nz] D (strV (qtx (bx o.ny / bx o.nz))):=fun D hD=>by
       have h:=rdiv2_fn D (hT.mono hD) (bx o.ny) (bx o.nz) 11 (by decide) (by decide) hn5 hn6 hn7
       rw [<- e2,<- e3] at h
       exact h
      have hg1:∀ D:Mem,Gives cx.P 44 [strV (qtx (bx o.nx / bx o.nz))] D (strV (qtx (ek o))):=fun D=>by
       have h:=neg2_fn D (bx o.nx / bx o.nz) hle1
       rw [neg_div'] at h
       exact h
      have hg2:∀ D:Mem,Gives cx.P 44 [strV (qtx (bx o.ny / bx o.nz))] D (strV (qtx (cP o))):=fun D=>by
       have h:=neg2_fn D (bx o.ny / bx o.nz) hle2
       rw [neg_div'] at h
       exact h
      have hqe:QB 22 (ek o):=(QB_div (eL hn4) hn6 hn7).le (by decide)
      have hqn:QB 22 (cP o):=(QB_div (eL hn5) hn6 hn7).le (by decide)
      obtain ⟨f3,hf3⟩:∃ f3,(fun k=>([1, -1]:List Rat).map (rowR (bs B) (bp B) k (atT t fun j=>(slf B.pts t j).1) (ek o))++([1, -1]:List Rat).map (rowR (bs B) (bp B) k (atT t fun j=>(slf B.pts t j).2) (cP o)))=f3:=⟨_,rfl⟩
      have hRO:rowsO B o p t z=(aS B.col o).flatMap f3:=by unfold rowsO;rw [if_neg hk1,if_neg hk2,<- hf3]
      have hl4:∀ k,(f3 k).length=4:=fun k=>by rw [<- hf3];rfl
      refine G.rp 2 fun R hR=>?_
      refine D.aa (bkT hb5 1) ?_
      refine D.ps 2 ?_
      refine D.aa (bkT hb5 1) ?_
      refine D.ag (hd1 _ mup) ?_
      refine D.ag (hg1 _) ?_
      refine D.q6 1 2 5 10 12 14 19 hR ?_
      refine G.rp 2 fun R hR=>?_
      refine D.aa (bkT hb5 1) ?_
      refine D.ps 2 ?_
      refine D.aa (bkT hb5 1) ?_
      refine D.ag (hd2 _ mup) ?_
      refine D.ag (hg2 _) ?_
      refine D.q6 1 2 10 12 14 19 20 hR ?_
      refine G.z8 3 2 12 14 19 20 114 115 116 ?_
      refine G.loop (fun fr C' L' μ=>∃ (j:Nat)(vs:List Value)(w:Value),(j<=(aS B.col o).length/\RowsOk C' vs (((aS B.col o).take j).flatMap f3))/\fr=[(2,[],.pointer (some ⟨b2,0,none⟩)),(12,[],.pointer (some ⟨b12,0,none⟩)),(14,[],w),(19,[],strV (qtx (ek o))),(20,[],strV (qtx (cP o))),(114,[],.slice Al (aS B.col o).length cl),(115,[],.int .i64 (aS B.col o).length),(116,[],.int .i64 j)]/\L'=[.arr w 101 2 (((aS B.col o).take j).flatMap f3).length (aB vs (((aS B.col o).take j).flatMap f3)).flatten]/\μ=(aS B.col o).length-j) (h_8 2 12 14 19 20 114 115 116) ⟨0,[],.slice none 0 0,⟨Nat.zero_le _,RowsOk.nil _⟩,rfl,rfl,rfl⟩ (fun fr C2' L2' m hle2 hI=>?_)
      obtain ⟨j,vs,w,⟨hj,hrow2⟩,rfl,rfl,rfl⟩:=hI
      refine G.z9 1 2 12 14 19 20 114 115 116 117 ?_
      refine G.cd (fun h117=>?_) fun h117=>?_
      ·have hjl:j<(aS B.col o).length:=by
        have:=of_decide_eq_true h117
        omega
       obtain ⟨k,hkj⟩:∃ k,(aS B.col o)[j]?=some k:=⟨(aS B.col o)[j],List.getElem?_eq_getElem hjl⟩
       have hks:=hsin k (List.mem_of_getElem? hkj)
       have hcnt:=da hl4 ((aS B.col o).take j)
       rw [List.length_take] at hcnt
       have hstep:=eI f3 hkj
       obtain ⟨ra,hra⟩:∃ x,rowR (bs B) (bp B) k (atT t fun j=>(slf B.pts t j).1) (ek o) 1=x:=⟨_,rfl⟩
       obtain ⟨rb,hrb⟩:∃ x,rowR (bs B) (bp B) k (atT t fun j=>(slf B.pts t j).1) (ek o) (-1)=x:=⟨_,rfl⟩
       obtain ⟨rc,hrc⟩:∃ x,rowR (bs B) (bp B) k (atT t fun j=>(slf B.pts t j).2) (cP o) 1=x:=⟨_,rfl⟩
       obtain ⟨rd,hrd⟩:∃ x,rowR (bs B) (bp B) k (atT t fun j=>(slf B.pts t j).2) (cP o) (-1)=x:=⟨_,rfl⟩
       have hfk:f3 k=[ra,rb,rc,rd]:=by rw [<- hf3,<- hra,<- hrb,<- hrc,<- hrd];rfl
       refine G.rg fun R hR=>?_
       refine D.ak (hlv.mono mup) rfl rfl rfl rfl rfl rfl rfl rfl rfl rfl (by omega) (a7 hkj) (fun _=>rfl) (fun p118 hp118=>?_)
       refine D.aa hp118 ?_
       refine D.q9 1 2 12 14 19 20 22 114 115 116 hR ?_
       refine G.cut (fun fr C' L' μ=>∃ (b23 b24:Nat),(True)/\fr=[(2,[],.pointer (some ⟨b2,0,none⟩)),(12,[],.pointer (some ⟨b12,0,none⟩)),(14,[],w),(19,[],strV (qtx (ek o))),(20,[],strV (qtx (cP o))),(22,[],.int .i64 k),(23,[],.pointer (some ⟨b23,0,none⟩)),(24,[],.pointer (some ⟨b24,0,none⟩)),(114,[],.slice Al (aS B.col o).length cl),(115,[],.int .i64 (aS B.col o).length),(116,[],.int .i64 j)]/\L'=[.obj b24 (.cells ⟨[strV (qtx (slf B.pts t 0).2),strV (qtx (slf B.pts t 1).2),strV (qtx (slf B.pts t 2).2)]⟩ 122 (0,0)),.obj b23 (.cells ⟨[strV (qtx (slf B.pts t 0).1),strV (qtx (slf B.pts t 1).1),strV (qtx (slf B.pts t 2).1)]⟩ 122 (0,0)),.arr w 101 2 (((aS B.col o).take j).flatMap f3).length (aB vs (((aS B.col o).take j).flatMap f3)).flatten]) ?_ (fun fr Cr22 Lr22 μ hler22 hI=>?_)
       ·refine G.cS (.cut [0,1,2,3,4,5,6,7] (.alt 8 (.fin [9,10,11]) (.alt 9 (.fin [8,10,11]) .stop))) [(3,1),(7,1)] rfl rfl (by kernel_rfl) (fun R hB hR hH=>?_)
        refine D.ac ?_
        refine D.aa (bkT hb2 2) ?_
        refine D.aa (bkT hb12 3) ?_
        refine D.bh (fun _=>(lslopeE _ (hT.mono mup) _ B.pts B.tris t (hmi.mono mup) hM htm hw0 hsl)) ?_
        refine D.ac ?_
        refine D.aa (bkT hb2 2) ?_
        refine D.aa (bkT hb12 3) ?_
        refine D.bh (fun _=>(lslopeN _ (hT.mono mup) _ B.pts B.tris t (hmi.mono mup) hM htm hw0 hsl)) ?_
        refine D.cm hH rfl ⟨?_, ?_,trivial⟩
        ·refine D.aq (fun b23=>?_)
         refine D.aq (fun b24=>?_)
         refine D.ai (j:=1) ?_
         refine D.ai (j:=1) ?_
         refine D.e11 2 12 14 19 20 22 23 24 114 115 116 hR ?_
         refine G.perm (L':=[.obj b24 (.cells ⟨[strV (qtx (slf B.pts t 0).2),strV (qtx (slf B.pts t 1).2),strV (qtx (slf B.pts t 2).2)]⟩ 122 (0,0)),.obj b23 (.cells ⟨[strV (qtx (slf B.pts t 0).1),strV (qtx (slf B.pts t 1).1),strV (qtx (slf B.pts t 2).1)]⟩ 122 (0,0)),.arr w 101 2 (((aS B.col o).take j).flatMap f3).length (aB vs (((aS B.col o).take j).flatMap f3)).flatten]) (by first | exact List.Perm.refl _ | exact List.Perm.swap _ _ _) ?_
         exact G.aw 0 mup (h_11 2 12 14 19 20 22 23 24 114 115 116) ⟨b23,b24,trivial,rfl,rfl⟩
        ·refine D.aq (fun b24=>?_)
         refine D.aq (fun b23=>?_)
         refine D.ai (j:=0) ?_
         refine D.ai (j:=1) ?_
         refine D.e11 2 12 14 19 20 22 23 24 114 115 116 hR ?_
         refine G.perm (L':=[.obj b24 (.cells ⟨[strV (qtx (slf B.pts t 0).2),strV (qtx (slf B.pts t 1).2),strV (qtx (slf B.pts t 2).2)]⟩ 122 (0,0)),.obj b23 (.cells ⟨[strV (qtx (slf B.pts t 0).1),strV (qtx (slf B.pts t 1).1),strV (qtx (slf B.pts t 2).1)]⟩ 122 (0,0)),.arr w 101 2 (((aS B.col o).take j).flatMap f3).length (aB vs (((aS B.col o).take j).flatMap f3)).flatten]) (by first | exact List.Perm.refl _ | exact List.Perm.swap _ _ _) ?_
         exact G.aw 0 mup (h_11 2 12 14 19 20 22 23 24 114 115 116) ⟨b23,b24,trivial,rfl,rfl⟩
       obtain ⟨b23,b24,_,rfl,rfl⟩:=hI
       refine G.freeze 1 rfl (fun C23 hle23 hb23=>?_)
       refine G.freeze 0 rfl (fun C24 hle24 hb24=>?_)
       refine G.aE [0,1,2,3,4,5,7,8,9,10,11,13,14,15,16,17,19,20,21,22,23,6,12,18,24,25,26,27] [] rfl (by kernel_rfl) (fun R hB hR=>?_)
       refine D.ac ?_
       refine D.aa (bkT hb2 5) ?_
       refine D.ac ?_
       refine D.aa (bkT hb12 3) ?_
       refine D.aa (bkT hb23 3) ?_
       refine D.ac ?_
       refine D.aa (bkT hb2 5) ?_
       refine D.ac ?_
       refine D.aa (bkT hb12 3) ?_
       refine D.aa (bkT hb23 3) ?_
       refine D.ac ?_
       refine D.aa (bkT hb2 5) ?_
       refine D.ac ?_
       refine D.aa (bkT hb12 3) ?_
       refine D.aa (bkT hb24 3) ?_
       refine D.ac ?_
       refine D.aa (bkT hb2 5) ?_
       refine D.ac ?_
       refine D.aa (bkT hb12 3) ?_
       refine D.aa (bkT hb24 3) ?_
       refine D.ac ?_
       refine D.aK (hlp _ mup k (fun j=>(slf B.pts t j).1) (ek o) hks (fun j=>(hsl j).1.le (by decide)) hqe) rfl rfl rfl rfl rfl rfl rfl (fun _=>rfl) (fun v134 C134 hle134 hq134=>?_)
       obtain ⟨va,rfl,hva⟩:=hq134
       rw [hra] at hva
       refine D.aK (hln _ mup k (fun j=>(slf B.pts t j).1) (ek o) hks (fun j=>(hsl j).1.le (by decide)) hqe) rfl rfl rfl rfl rfl rfl rfl (fun _=>rfl) (fun v140 C140 hle140 hq140=>?_)
       obtain ⟨vb,rfl,hvb⟩:=hq140
       rw [hrb] at hvb
       refine D.aK (hlp _ mup k (fun j=>(slf B.pts t j).2) (cP o) hks (fun j=>(hsl j).2.le (by decide)) hqn) rfl rfl rfl rfl rfl rfl rfl (fun _=>rfl) (fun v146 C146 hle146 hq146=>?_)
       obtain ⟨vc,rfl,hvc⟩:=hq146
       rw [hrc] at hvc
       refine D.aK (hln _ mup k (fun j=>(slf B.pts t j).2) (cP o) hks (fun j=>(hsl j).2.le (by decide)) hqn) rfl rfl rfl rfl rfl rfl rfl (fun _=>rfl) (fun v152 C152 hle152 hq152=>?_)
       obtain ⟨vd,rfl,hvd⟩:=hq152
       rw [hrd] at hvd
       refine D.ah [[va,strV (qtx (1*ek o))],[vb,strV (qtx (-1*ek o))],[vc,strV (qtx (1*cP o))],[vd,strV (qtx (-1*cP o))]] (fun p153 C153 hle153 hs153=>?_)
       refine D.append (j:=0) rfl rfl rfl rfl rfl rfl rfl rfl rfl rfl rfl hs153 (ones4 (one_sl hva) (one_sl hvb) (one_sl hvc) (one_sl hvd)) (by simp only [List.length_cons,List.length_nil,maxLen];omega) (by simp only [List.length_cons,List.length_nil];omega) (fun _=>rfl) (fun v154=>?_)
       refine D.q8 1 2 12 14 19 20 114 115 116 hR ?_
       refine G.rg fun R hR=>?_
       refine D.aj _ rfl ?_
       refine D.q8 1 2 12 14 19 20 114 115 116 hR ?_
       have hone:=RowsOk.snoc (r:=ra) (hrow2.mono mup) hva
       have htwo:=RowsOk.snoc (r:=rb) (hone.mono mup) hvb
       have hthr:=RowsOk.snoc (r:=rc) (htwo.mono mup) hvc
       have hfou:=RowsOk.snoc (r:=rd) (hthr.mono mup) hvd
       have hcel:=bg hrow2.1 va ra
       have hcel2:=bg hone.1 vb rb
       have hcel3:=bg htwo.1 vc rc
       have hcel4:=bg hthr.1 vd rd
       have hst:((aS B.col o).take (j+1)).flatMap f3=((aS B.col o).take j).flatMap f3++[ra]++[rb]++[rc]++[rd]:=by rw [hstep,hfk];simp
       have b1:ra.b=1*ek o:=by rw [<- hra];rfl
       have b2:rb.b=-1*ek o:=by rw [<- hrb];rfl
       have b3:rc.b=1*cP o:=by rw [<- hrc];rfl
       have b4:rd.b=-1*cP o:=by rw [<- hrd];rfl
       refine G.aR (L':=[.arr v154 101 2 (((aS B.col o).take (j+1)).flatMap f3).length (aB (vs++[va]++[vb]++[vc]++[vd]) (((aS B.col o).take (j+1)).flatMap f3)).flatten]) (by rw [hst,hcel4,hcel3,hcel2,hcel,b1,b2,b3,b4];simp) ?_
       refine G.ar (m':=(aS B.col o).length-(j+1)) (by omega) mup (h_8 2 12 14 19 20 114 115 116) ⟨j+1,vs++[va]++[vb]++[vc]++[vd],v154,⟨by omega,by rw [hst];exact hfou.mono mup⟩,rfl,rfl,rfl⟩
      ·have hjl:j=(aS B.col o).length:=by
        have:=of_decide_eq_false h117
        omega
       rw [hjl,List.take_length,<- hRO] at hrow2 ⊢
       refine G.aw 0 mup (h_1 14) ⟨vs,w,hrow2.mono mup,rfl,rfl⟩
   ·obtain ⟨vs ,w,hrows,rfl,rfl⟩:=hI
    refine G.z1 2 4 ?_
    refine G.freezeArr 0 (aB vs (rowsO B o p t z)) rfl rfl (eC _ _) (bQ hrows.1) (fun Cg hg hsl3=>?_)
    refine G.rf ?_
    exact ⟨rfl,vs,hrows.mono mup,hsl3⟩

theorem obsK_upper (S:Sht)(s:Sgt)(i:Nat):∃ j<3,(obsK S s i).upper=labU j:=by
 have hlo:=lo_le s
 have hup:=up_le s
 unfold obsK;split
 ·exact ⟨s.u1 % 3,by omega,rfl⟩
 ·split <;> exact ⟨max (loU s) (upU s),by omega,rfl⟩
theorem lab_only:∀ j<3,∀ k<3,labU k=labU j ↔ k=j:=by decide
theorem obsK_only (S:Sht)(H:Hts)(l:List Sgt)(s:Sgt)(i:Nat):∀ k x,(a6 S H l).col[k]?=some x->(x.unit=(obsK S s i).upper ↔ k=upN (a6 S H l) (obsK S s i)):=by
 obtain ⟨j,hj,e⟩:=obsK_upper S s i
 intro k x hx
 have hu:upN (a6 S H l) (obsK S s i)=j:=by
  unfold upN
  rw [e]
  show (idxF (isU (labU j)) colK 0).toNat=j
  rw [lab_idx j hj];rfl
 have hx2:colK[k]?=some x:=hx
 have hk:k<3:=(List.getElem?_eq_some_iff.1 hx2).1
 have hxu:x.unit=labU k:=by
  rcases (by omega:k=0∨k=1∨k=2) with rfl | rfl | rfl <;> (cases hx2;rfl)
 rw [hu,e,hxu]
 exact lab_only j hj k hk
theorem plof_fn (C:Mem)(hT:Tabs C)(bv:Value)(S:Sht)(H:Hts)(l:List Sgt)(i:Nat)(hs:∀ s∈l,SgtR s)(hB:BookIn C bv (a6 S H l))(hi:i<(a6 S H l).obs.length) :
  Pur cx.P 21 [bv,.int .i64 i] C fun u D=>RowsIn D u (roK S H l i):=by
 have ho:=List.getElem?_eq_getElem hi
 obtain ⟨hi6,s,hsl,he⟩:=fk ho
 rw [he] at ho
 have hsr:=hs s (List.mem_of_getElem? hsl)
 have hR:=bookK_rich S H l hs
 have hro:roK S H l i=rowsO (a6 S H l) (obsK S s i) (ptAt S s) (tK S s) (zK S H s):=by
  unfold roK
  rw [List.getD_eq_getElem?_getD,hsl]
  rfl
 rw [hro]
 have hA:=eG hR.good.ok (List.mem_of_getElem? (locK S s hsr).2)
 have hpp:(a6 S H l).pts.length<=400:=Nat.le_trans (bookK_bp S H l).2 (by decide)
 have hw0:∀ j,QB 1 (wgt (ptsK (S.kd % 8) S.a S.b S.h) (tK S s) (cor (ptsK (S.kd % 8) S.a S.b S.h) (tK S s) 0) j):=wgt_qb (fun j=>cor_qtr j) hA (cor_qtr 0)
 have hsp:∀ j,QP 1 (slf (ptsK (S.kd % 8) S.a S.b S.h) (tK S s) j):=fun j=>slope_qp (fun j=>cor_qtr j) hA (fun j=>unit_hlf j)
 exact lof_fn C hT bv _ _ i _ _ _ _ _ hB hR.good hR.br hR.bz hR.terr ho (fineK S H l s i hsr) hR.h60 (by show colK.length<=60;decide) (by show colK≠[];decide) hpp (obsK_only S H l s i) ((ptAt_ok S s hsr).1.le (by decide)) (fun j=>(hw0 j).le (by decide)) (fun j=>(hsp j).le (by decide))
theorem plthick_fn (C:Mem)(hT:Tabs C)(bv:Value)(S:Sht)(H:Hts)(l:List Sgt)(hB:BookIn C bv (a6 S H l)) :
  Pur cx.P 19 [bv] C fun u D=>RowsIn D u (bU (a6 S H l)):=by
 have h:=bookK_bp S H l
 exact lthickness_fn C hT bv _ hB (by rw [bookK_bs];omega) (by show colK.length<=60;decide) (by show colK≠[];decide) (Nat.le_trans h.2 (by decide)) col_r

instance:DecidableEq SrcQ:=fun a b=>decidable_of_iff (a.n=b.n/\a.r=b.r) (by cases a;cases b;simp)

theorem SrcsIn.mono {C D:Mem}{v:Value}{l:List SrcQ}(h:SrcsIn C v l)(hl:C.le D):SrcsIn D v l:=by
 obtain ⟨vs,h1,h2⟩:=h
 exact ⟨vs,h1.mono hl,h2.mono hl⟩
theorem bookK_on (S:Sht)(H:Hts)(l:List Sgt):(a6 S H l).obs.length<=6:=by
 show (obsL S l).length<=6
 rw [obsL_len];omega

def RowD (r:RowQ):Prop:=∃ W:Int,W≠0/\W.natAbs<=2880000/\∀ q∈r.f,∃ N:Int,q*W=N/\N.natAbs<=2880000
theorem dot_int {f x:List Rat}{W:Int}(hf:∀ q∈f,∃ N:Int,q*W=N/\N.natAbs<=2880000)(hx:∀ y∈x,Hlf y):∀ n:Nat,∃ z:Int,dotV f x n*((2*W:Int):Rat)=z/\z.natAbs<=109440000*n
 | 0=>⟨0,by simp only [dotV];rw [Rat.zero_mul];rfl,Nat.zero_le _⟩
 | n+1=>by
  obtain ⟨z,h1,h2⟩:=dot_int hf hx n
  obtain ⟨N,h3,h4⟩:∃ N:Int,f.getD n 0*W=N/\N.natAbs<=2880000:=fE (P:=fun q:Rat=>∃ N:Int,q*(W:Rat)=N/\N.natAbs<=2880000) hf ⟨0,by rw [Rat.zero_mul];rfl,by decide⟩
  obtain ⟨k,h5,h6⟩:Hlf (x.getD n 0):=fE hx zero_hlf
  have h7:=mul_bd h4 (show k.natAbs<=38 by omega)
  refine ⟨z+N*k, ?_,by omega⟩
  simp only [dotV]
  have e:((2*W:Int):Rat)=2*(W:Rat):=by rw [Rat.intCast_mul];rfl
  have e2:((N*k:Int):Rat)=N*(k:Rat):=Rat.intCast_mul _ _
  rw [Rat.intCast_add,e2,<- h1,<- h3,<- h5,e]
  grind
theorem dot_over {f x:List Rat}:∀ n:Nat,f.length<=n->dotV f x n=dotV f x f.length
 | 0,h=>by rw [show f.length=0 by omega]
 | n+1,h=>by
  rcases Nat.lt_or_ge n f.length with h1 | h1
  ·rw [show f.length=n+1 by omega]
  ·simp only [dotV]
   rw [List.getD_eq_getElem?_getD,List.getElem?_eq_none h1,dot_over n h1]
   simp only [Option.getD_none]
   grind
theorem dot_qb {r:RowQ}{x:List Rat}(hr:RowD r)(hx:∀ y∈x,Hlf y)(hl:r.f.length<=60)(n:Nat):QB 2 (dotV r.f x n):=by
 obtain ⟨W,h1,h2,h3⟩:=hr
 have key:∀ n,n<=60->QB 2 (dotV r.f x n):=by
  intro n hn
  obtain ⟨z,h4,h5⟩:=dot_int h3 hx n
  rw [rat_quot (w:=2*W) (by omega) h4]
  unfold divS
  have e:B9 ^ 2=1000000000000000000:=by decide +kernel
  refine mk_bound (by omega) ?_ ?_
  ·rw [e];split <;> omega
  ·rw [e];omega
 rcases Nat.lt_or_ge n 60 with h | h
 ·exact key n (by omega)
 ·rw [dot_over n (by omega)]
  exact key _ hl
theorem rowR_d {s p k:Nat}{fm:List (Nat × Rat)}{b sg:Rat}{W:Int}(hW:W≠0)(hWl:W.natAbs<=2880000)(hf:∀ x∈fm,∃ N:Int,x.2*W=N/\N.natAbs<=2880000)(hs:sg=1∨sg=-1):RowD (rowR s p k fm b sg):=by
 refine ⟨W,hW,hWl,rowF_all ⟨0,by rw [Rat.zero_mul];rfl,by decide⟩ ?_⟩
 intro x hx
 obtain ⟨y,hy,rfl⟩:=List.mem_map.1 hx
 obtain ⟨N,h1,h2⟩:=hf y hy
 rcases hs with rfl | rfl
 ·exact ⟨N,by rw [<- h1];show 1*y.2*_=_;grind,h2⟩
 ·exact ⟨-N,by rw [Rat.intCast_neg,<- h1];show -1*y.2*_=_;grind,by omega⟩
theorem sgn_two:∀ q∈([1, -1]:List Rat),q=1∨q=-1:=by
 intro q hq
 simpa using hq
theorem rowsO_d {B:Bk}{o:Obs}{p:Pt}{t:Tri}{z:Rat}{W:Int}(hW:W≠0)(hWl:W.natAbs<=2880000)(hw:∀ j,∃ N:Int,wgt B.pts t p j*W=N/\N.natAbs<=2880000)
  (hs:∀ j,(∃ N:Int,(slf B.pts t j).1*W=N/\N.natAbs<=2880000)/\∃ N:Int,(slf B.pts t j).2*W=N/\N.natAbs<=2880000):∀ r∈rowsO B o p t z,RowD r:=by
 have f1:∀ x∈atT t (wgt B.pts t p),∃ N:Int,x.2*W=N/\N.natAbs<=2880000:=dM (hw 0) (hw 1) (hw 2)
 have f2:∀ x∈atT t (fun j=>(slf B.pts t j).1),∃ N:Int,x.2*W=N/\N.natAbs<=2880000:=dM (hs 0).1 (hs 1).1 (hs 2).1
 have f3:∀ x∈atT t (fun j=>(slf B.pts t j).2),∃ N:Int,x.2*W=N/\N.natAbs<=2880000:=dM (hs 0).2 (hs 1).2 (hs 2).2
 intro r hr
 unfold rowsO at hr
 split at hr
 ·rcases List.mem_append.1 hr with h | h
  ·split at h
   ·rw [List.mem_singleton.1 h];exact rowR_d hW hWl f1 (.inl rfl)
   ·simp at h
  ·split at h
   ·rw [List.mem_singleton.1 h];exact rowR_d hW hWl f1 (.inr rfl)
   ·simp at h
 ·split at hr
  ·obtain ⟨k,_,h⟩:=List.mem_flatMap.1 hr
   obtain ⟨sg,hsg,rfl⟩:=List.mem_map.1 h
   exact rowR_d hW hWl f1 (sgn_two sg hsg)
  ·obtain ⟨k,_,h⟩:=List.mem_flatMap.1 hr
   rcases List.mem_append.1 h with h | h
   ·obtain ⟨sg,hsg,rfl⟩:=List.mem_map.1 h
    exact rowR_d hW hWl f2 (sgn_two sg hsg)
   ·obtain ⟨sg,hsg,rfl⟩:=List.mem_map.1 h
    exact rowR_d hW hWl f3 (sgn_two sg hsg)
theorem tri_int {pts:List Pt}{t:Tri}{p:Pt}(hc:∀ j,Qtr (cor pts t j))(hA:bf (cor pts t 0) (cor pts t 1) (cor pts t 2)≠0)(hp:Qtr p)(hu:∀ j i,Hlf (fz (dJ pts.length (triN t j)) t i)) :
  ∃ W:Int,W≠0/\W.natAbs<=2880000/\(∀ j,∃ N:Int,wgt pts t p j*W=N/\N.natAbs<=2880000) /\
   ∀ j,(∃ N:Int,(slf pts t j).1*W=N/\N.natAbs<=2880000)/\∃ N:Int,(slf pts t j).2*W=N/\N.natAbs<=2880000:=by
 obtain ⟨x0,y0,h0,b0,d0⟩:=hc 0
 obtain ⟨x1,y1,h1,b1,d1⟩:=hc 1
 obtain ⟨x2,y2,h2,b2,d2⟩:=hc 2
 have k2:=iA_bd (x0:=x0) (y0:=y0) (x1:=x1) (y1:=y1) (x2:=x2) (y2:=y2) ⟨b0,d0,b1,d1,b2,d2⟩
 have hW:=(rat_scale (n:=0) (N:=0) (by rw [Rat.zero_mul];rfl) (area_int h0 h1 h2) hA).1
 refine ⟨iA x0 y0 x1 y1 x2 y2,hW,k2,fun j=>?_,fun j=>?_⟩
 ·obtain ⟨x3,y3,h3,b3,d3⟩:=hc ((j+1) % 3)
  obtain ⟨x4,y4,h4,b4,d4⟩:=hc ((j+2) % 3)
  obtain ⟨x5,y5,h5,b5,d5⟩:=hp
  obtain ⟨_,hq⟩:=rat_scale (area_int h5 h3 h4) (area_int h0 h1 h2) hA
  exact ⟨_,hq,iA_bd ⟨b5,d5,b3,d3,b4,d4⟩⟩
 ·obtain ⟨k0,e0,f0⟩:=hu j 0
  obtain ⟨k1,e1,f1⟩:=hu j 1
  obtain ⟨k2,e2,f2⟩:=hu j 2
  obtain ⟨_,g1,g2⟩:=slope_int h0 h1 h2 e0 e1 e2 hA
  have k4:=cross_bd (a:=k1-k0) (b:=y2-y0) (c:=y1-y0) (d:=k2-k0) ⟨by omega,by omega,by omega,by omega⟩
  have k5:=cross_bd (a:=k1-k0) (b:=x2-x0) (c:=x1-x0) (d:=k2-k0) ⟨by omega,by omega,by omega,by omega⟩
  exact ⟨⟨_,g1,by omega⟩,⟨_,g2,by omega⟩⟩
theorem thickI_d {s p:Nat}{x:Lay}{i:Nat}:∀ k,∀ r∈aI s p x i k,RowD r
 | 0,r,h=>by simp [aI] at h
 | k+1,r,h=>by
  have one:∀ (m:List (Nat × Rat))(b:Rat),(∀ x∈m,x.2=1∨x.2=-1)->RowD ⟨rowF (s*p) m,b⟩:=fun m b hm =>
   ⟨1,by decide,by decide,rowF_all ⟨0,by rw [Rat.zero_mul];rfl,by decide⟩ (fun x hx=>by
    rcases hm x hx with e | e <;> rw [e]
    ·exact ⟨1,by decide +kernel,by decide⟩
    ·exact ⟨-1,by decide +kernel,by decide⟩)⟩
  rcases List.mem_append.1 h with h | h
  ·exact thickI_d k r h
  ·unfold er at h
   rcases List.mem_cons.1 h with rfl | h
   ·exact one _ _ (by intro x hx;simp at hx;rcases hx with rfl | rfl <;> simp)
   ·split at h
    ·simp at h
    ·rw [List.mem_singleton.1 h]
     exact one _ _ (by intro x hx;simp at hx;rcases hx with rfl | rfl <;> simp)
theorem thickL_d {s p:Nat}{col:List Lay}:∀ n,∀ r∈aF s p col n,RowD r
 | 0,r,h=>by simp [aF] at h
 | n+1,r,h=>by
  rcases List.mem_append.1 h with h | h
  ·exact thickL_d n r h
  ·exact thickI_d _ r h
theorem roK_d (S:Sht)(H:Hts)(l:List Sgt)(i:Nat)(hs:∀ s∈l,SgtR s)(hi:i<l.length):∀ r∈roK S H l i,RowD r:=by
 obtain ⟨s,hsl⟩:∃ s,l[i]?=some s:=⟨l[i],List.getElem?_eq_getElem hi⟩
 have hsr:=hs s (List.mem_of_getElem? hsl)
 obtain ⟨hG,_⟩:=shape_good (S.kd % 8) (Nat.mod_lt _ (by decide)) S.a S.b S.h
 have hA:=eG hG.ok (List.mem_of_getElem? (locK S s hsr).2)
 obtain ⟨W,h1,h2,h3,h4⟩:=tri_int (fun j=>cor_qtr j) hA (ptAt_qtr S s hsr) (fun j i=>unit_hlf i)
 have hro:roK S H l i=rowsO (a6 S H l) (obsK S s i) (ptAt S s) (tK S s) (zK S H s):=by
  unfold roK
  rw [List.getD_eq_getElem?_getD,hsl]
  rfl
 rw [hro]
 exact rowsO_d h1 h2 h3 h4
theorem satisfied_fn (C:Mem)(hT:Tabs C)(rv xv:Value)(l:List RowQ)(x:List Rat)(hr:RowsIn C rv l)(hx:Sl C 1 xv (x.map encQ))(hd:∀ r∈l,RowD r)(hrr:∀ r∈l,RowR r)(hfl:∀ r∈l,r.f.length=x.length)(hxh:∀ y∈x,Hlf y)(hxl:x.length<=60) :
  Gives cx.P 32 [rv,xv] C (.bool (!(l.any (badR x)))):=by
 obtain ⟨vs,hok,hsv⟩:=hr
 obtain ⟨A0,c0,rfl,hc1,hc2,_⟩:=id hsv
 obtain ⟨A1,c1,rfl,hc3,hc4,_⟩:=id hx
 have hmx:maxLen<=9223372036854775807:=by simp [maxLen]
 simp only [bQ hok.1] at hsv hc1 ⊢
 simp only [List.length_map] at hx hc3 ⊢
 refine Fn.it (by kernel_rfl) Tryz.func32 43 fun w0=>?_
 refine G.z2 1 0 1 ?_
 refine G.z3 1 0 1 5 ?_
 refine G.loop (fun fr C' L' μ=>∃ (i:Nat),(i<=l.length/\∀ y∈l.take i,badR x y=false)/\fr=[(0,[],.slice A0 l.length c0),(1,[],.slice A1 x.length c1),(5,[],.int .i64 i)]/\L'=[]/\μ=l.length-i) (h_3 0 1 5) ⟨0,⟨Nat.zero_le _,by simp⟩,rfl,rfl,rfl⟩ (fun fr C0' L0' m hle0 hI=>?_)
 obtain ⟨i,⟨hi,hno⟩,rfl,rfl,rfl⟩:=hI
 refine G.z4 4 0 1 5 11 ?_
 refine G.cd (fun h11=>?_) fun h11=>?_
 ·have hil:i<l.length:=by
   have:=of_decide_eq_true h11
   omega
  obtain ⟨r,hri⟩:∃ r,l[i]?=some r:=⟨l[i],List.getElem?_eq_getElem hil⟩
  obtain ⟨w,hw⟩:∃ w,vs[i]?=some w:=⟨vs[i]'(by rw [hok.1];exact hil),List.getElem?_eq_getElem _⟩
  have hrm:=List.mem_of_getElem? hri
  have hsw:=hok.2 i w r hw hri
  have hrl:=hfl r hrm
  have hrd:=hd r hrm
  have hdq:=dot_qb hrd hxh (by omega)
  obtain ⟨W,hW0,hW1,hW2⟩:=id hrd
  obtain ⟨Aw,cw,rfl,_⟩:=id hsw
  rw [List.length_map] at hsw hw
  refine G.z4 1 0 1 5 6 ?_
  refine G.z5 1 0 1 5 6 7 ?_
  refine G.loop (fun fr C' L' μ=>∃ (k:Nat)(s:Str),(k<=x.length/\s=qtx (dotV r.f x k))/\fr=[(0,[],.slice A0 l.length c0),(1,[],.slice A1 x.length c1),(5,[],.int .i64 i),(6,[],strV s),(7,[],.int .i64 k)]/\L'=[]/\μ=x.length-k) (h_5 0 1 5 6 7) ⟨0,[48],⟨Nat.zero_le _,qtx_zero.symm⟩,rfl,rfl,rfl⟩ (fun fr C1' L1' m hle1 hI=>?_)
  obtain ⟨k,s,⟨hk,hse⟩,rfl,rfl,rfl⟩:=hI
  refine G.z6 4 0 1 5 6 7 17 ?_
  refine G.cd (fun h17=>?_) fun h17=>?_
  ·have hkl:k<x.length:=by
    have:=of_decide_eq_true h17
    omega
   obtain ⟨q,hq⟩:∃ q,r.f[k]?=some q:=⟨r.f[k]'(by omega),List.getElem?_eq_getElem (by omega)⟩
   obtain ⟨y,hy⟩:∃ y,x[k]?=some y:=⟨x[k],List.getElem?_eq_getElem hkl⟩
   obtain ⟨N,hN1,hN2⟩:=hW2 q (List.mem_of_getElem? hq)
   obtain ⟨K,hK1,hK2⟩:=hxh y (List.mem_of_getElem? hy)
   have hqb:QB 1 q:=qb_quot hW0 hN1 (by omega) (by omega)
   have hyb:QB 1 y:=qb_quot (w:=2) (by decide) hK1 (by omega) (by omega)
   have hstep:dotV r.f x (k+1)=dotV r.f x k+q*y:=by
    simp only [dotV]
    rw [List.getD_eq_getElem?_getD,hq,List.getD_eq_getElem?_getD,hy]
    rfl
   subst hse
   refine G.aE [0,1,2,3,4,5,6,7,8,9,10,11,12,13,14,15] [(13,1),(14,1)] rfl (by kernel_rfl) (fun R hB hR=>?_)
   refine D.ps 3 ?_
   refine D.ak (hsv.mono mup) rfl rfl rfl rfl rfl rfl rfl rfl rfl rfl (by omega) (fw hw hri) (fun _=>rfl) (fun p23 hp23=>?_)
   refine D.dr hp23 rfl rfl rfl rfl rfl rfl rfl rfl rfl rfl (fun _=>rfl) (fun p24 hp24=>?_)
   refine D.aa hp24 ?_
   refine D.ac ?_
   refine D.ak (hsw.mono mup) rfl rfl rfl rfl rfl rfl rfl rfl rfl rfl (by omega) (a7 hq) (fun _=>rfl) (fun p27 hp27=>?_)
   refine D.aa hp27 ?_
   refine D.ps 2 ?_
   refine D.ak (hx.mono mup) rfl rfl rfl rfl rfl rfl rfl rfl rfl rfl (by omega) (a7 hy) (fun _=>rfl) (fun p31 hp31=>?_)
   refine D.aa hp31 ?_
   refine D.ay (fun _=>(eD _ (hT.mono mup) q y 1 (by decide) (by decide) hqb hyb)) rfl rfl rfl rfl rfl rfl rfl rfl rfl ?_
   refine D.ay (fun _=>(radd2_fn _ (hT.mono mup) (dotV r.f x k) (q*y) 2 (by decide) (by decide) (hdq k) (eS hqb hyb))) rfl rfl rfl rfl rfl rfl rfl rfl rfl ?_
   refine D.q5 1 0 1 5 6 7 hR ?_
   refine G.rp 1 fun R hR=>?_
   refine D.aj _ rfl ?_
   refine D.q5 1 0 1 5 6 7 hR ?_
   refine G.ar (m':=x.length-(k+1)) (by omega) hle1 (h_5 0 1 5 6 7) ⟨k+1,_,⟨by omega,by rw [hstep]⟩,rfl,rfl,rfl⟩
  ·have hkl:k=x.length:=by
    have:=of_decide_eq_false h17
    omega
   subst hse
   rw [hkl]
   refine G.rp 3 fun R hR=>?_
   refine D.ak (hsv.mono mup) rfl rfl rfl rfl rfl rfl rfl rfl rfl rfl (by omega) (fw hw hri) (fun _=>rfl) (fun p38 hp38=>?_)
   refine D.dr hp38 rfl rfl rfl rfl rfl rfl rfl rfl rfl rfl (fun _=>rfl) (fun p39 hp39=>?_)
   refine D.aa hp39 ?_
   refine D.af (rcompare2_fn _ (hT.mono mup) (dotV r.f x x.length) r.b 22 (by decide) (by decide) ((hdq _).le (by decide)) (hrr r hrm).2) rfl rfl rfl rfl rfl rfl rfl (fun _=>rfl) ?_
   refine D.q4 1 0 1 5 42 hR ?_
   refine G.cd (fun h42=>?_) fun h42=>?_
   ·have hb:badR x r=true:=by unfold badR;rw [<- cmpQ_gt,hrl];exact h42
    refine G.z1 1 4 ?_
    refine G.rf ?_
    exact ⟨by rw [List.any_eq_true.2 ⟨r,hrm,hb⟩];rfl,rfl⟩
   ·have hb:badR x r=false:=by unfold badR;rw [<- cmpQ_gt,hrl];exact h42
    refine G.rp 1 fun R hR=>?_
    refine D.aj _ rfl ?_
    refine D.q3 1 0 1 5 hR ?_
    refine G.ar (m':=l.length-(i+1)) (by omega) mup (h_3 0 1 5) ⟨i+1,⟨by omega,fun y hy=>by
     rw [List.take_add_one,hri] at hy
     rcases List.mem_append.1 hy with hy | hy
     ·exact hno y hy
     ·simp only [Option.toList_some,List.mem_singleton] at hy
      subst hy
      exact hb⟩,rfl,rfl,rfl⟩
 ·have hil:i=l.length:=by
   have:=of_decide_eq_false h11
   omega
  rw [hil,List.take_length] at hno
  refine G.z1 1 4 ?_
  refine G.rf ?_
  exact ⟨by rw [List.any_eq_false.2 (fun y hy=>by rw [hno y hy];decide)];rfl,rfl⟩

def htsC2 (H:Hts × Hts):List Value:=htsC H.1++htsC H.2
theorem fld_ok {n:Nat}{f:List Rat}(hl:f.length=n)(hf:∀ q∈f,QB 22 q):fldZ n (f.map qtx)=0:=by
 unfold fldZ
 rw [List.length_map,if_pos hl,show (f.map qtx).all aU=true from ?_]
 ·rfl
 ·rw [List.all_eq_true]
  intro x hx
  obtain ⟨q,hq,rfl⟩:=List.mem_map.1 hx
  exact bt (hf q hq)
theorem valE_txs {n:Nat}{f g:List Rat}(hl:f.length=n)(hf:∀ q∈f,QB 22 q):valE 2 n (txs [f,g])=fldZ n (g.map qtx):=by
 have h:bB (fun j=>fldZ n ([f.map qtx,g.map qtx].getD j [])) 1=0:=firstErr_step rfl (fld_ok hl hf)
 show (if (2:Nat)=2 then (if bB (fun j=>fldZ n ([f.map qtx,g.map qtx].getD j [])) 1≠0 then bB (fun j=>fldZ n ([f.map qtx,g.map qtx].getD j [])) 1 else fldZ n (g.map qtx)) else 5)=fldZ n (g.map qtx)
 rw [if_pos rfl,if_neg (fun hn=>hn h)]
theorem fields2 {C:Mem}{v a b:Value}{f g:List Rat}(h:Sl C 1 v [[a],[b]])(ha:Sl C 1 a (f.map encQ))(hb:Sl C 1 b (g.map encQ)):FieldsIn C v (txs [f,g]):=by
 refine ⟨[a,b],rfl,fun i w l h1 h2=>?_,h⟩
 match i with
 | 0=>cases h1;cases h2;rw [<- encQ_S1];exact ha
 | 1=>cases h1;cases h2;rw [<- encQ_S1];exact hb
 | i+2=>cases h1
theorem fields1 {C:Mem}{v a:Value}{f:List Rat}(h:Sl C 1 v [[a]])(ha:Sl C 1 a (f.map encQ)):FieldsIn C v (txs [f]):=by
 refine ⟨[a],rfl,fun i w l h1 h2=>?_,h⟩
 match i with
 | 0=>cases h1;cases h2;rw [<- encQ_S1];exact ha
 | i+1=>cases h1
theorem dotOk_of {r:RowQ}{x:List Rat}(hr:RowR r)(hd:RowD r)(hl:r.f.length=x.length)(hx:∀ y∈x,Hlf y)(h60:x.length<=60):DotOk r x :=
 ⟨hr.1,hr.2,hl,fun n=>(dot_qb hd hx (by omega) n).le (by decide)⟩
theorem fb (l:List Rat):(l.map encQ).all (fun r=>r.all oneB)=true:=by
 rw [List.all_eq_true]
 intro r hr
 obtain ⟨q,_,rfl⟩:=List.mem_map.1 hr
 rfl
theorem thickI_r {s p:Nat}{x:Lay}{i:Nat}(hx:LayR x):∀ k,∀ r∈aI s p x i k,RowR r
 | 0,r,h=>by simp [aI] at h
 | k+1,r,h=>by
  have one:∀ (m:List (Nat × Rat)),(∀ x∈m,x.2=1∨x.2=-1)->∀ q∈rowF (s*p) m,QB 22 q:=fun m hm =>
   rowF_all (QB_zero.le (by decide)) (fun x hx=>by
    rcases hm x hx with e | e <;> rw [e]
    ·exact QB_one.le (by decide)
    ·exact neg_one_qb.le (by decide))
  rcases List.mem_append.1 h with h | h
  ·exact thickI_r hx k r h
  ·unfold er at h
   rcases List.mem_cons.1 h with rfl | h
   ·exact ⟨one _ (by intro x hx;simp at hx;rcases hx with rfl | rfl <;> simp),eL hx.1⟩
   ·split at h
    ·simp at h
    ·rename_i m hm
     rw [List.mem_singleton.1 h]
     exact ⟨one _ (by intro x hx;simp at hx;rcases hx with rfl | rfl <;> simp),hx.2.1 _ hm⟩
theorem thickL_r {s p:Nat}{col:List Lay}(hc:∀ x∈col,LayR x):∀ n,∀ r∈aF s p col n,RowR r
 | 0,r,h=>by simp [aF] at h
 | n+1,r,h=>by
  rcases List.mem_append.1 h with h | h
  ·exact thickL_r hc n r h
  ·exact thickI_r (fE hc ⟨QB_zero.le (by decide),fun q hq=>by simp at hq,Nat.zero_le _⟩) _ r h
theorem thickI_fl {s p:Nat}{x:Lay}{i:Nat}:∀ k,∀ r∈aI s p x i k,r.f.length=s*p
 | 0,r,h=>by simp [aI] at h
 | k+1,r,h=>by
  rcases List.mem_append.1 h with h | h
  ·exact thickI_fl k r h
  ·unfold er at h
   rcases List.mem_cons.1 h with rfl | h
   ·exact dR _ _
   ·split at h
    ·simp at h
    ·rw [List.mem_singleton.1 h];exact dR _ _
theorem thickL_fl {s p:Nat}{col:List Lay}:∀ n,∀ r∈aF s p col n,r.f.length=s*p
 | 0,r,h=>by simp [aF] at h
 | n+1,r,h=>by
  rcases List.mem_append.1 h with h | h
  ·exact thickL_fl n r h
  ·exact thickI_fl _ r h
theorem bookRows (S:Sht)(H:Hts)(l:List Sgt)(hs:∀ s∈l,SgtR s):(∀ r∈bU (a6 S H l),RowD r/\RowR r/\r.f.length=2*(a6 S H l).pts.length)/\∀ i,i<(a6 S H l).obs.length->∀ r∈roK S H l i,RowD r/\RowR r/\r.f.length=2*(a6 S H l).pts.length:=by
 have hRi:=bookK_rich S H l hs
 refine ⟨fun r hr=>⟨thickL_d _ r hr,thickL_r hRi.br.col _ r hr,thickL_fl _ r hr⟩,fun i hi r hr=>?_⟩
 have ho:=List.getElem?_eq_getElem hi
 obtain ⟨hi6,s,hsl,he⟩:=fk ho
 have hil:=(List.getElem?_eq_some_iff.1 hsl).1
 refine ⟨roK_d S H l i hs hil r hr, ?_, ?_⟩
 ·obtain ⟨p,ti,t,z,hf,hro⟩:=hRi.fine i _ ho
  rw [hro] at hr
  exact hf.rows r hr
 ·unfold roK at hr
  exact rowsO_fl r hr
theorem G.shareV1 {F:Fx}{k:List KI}{ds:List (Option Nat)}{R:Rg F.n ds}{l:List Oper}{ov:List (Nat × Nat)}{t:OT}{fr0:Fr}{C0:Mem}{L0:List Ent}(_:∀ fr C L,fr.all (fun x=>x.2.1.isEmpty)=true->G F k .normal fr C L->D F.cx R [] fr C L)(fr:Value->Fr)(L:Value->List Ent)
  (body:(∀ b1,G F k .normal (fr b1) C0 (L b1))->DN F.cx R l ov t fr0 C0 L0) (h:∀ b1,G F k .normal (fr b1) C0 (L b1)):DN F.cx R l ov t fr0 C0 L0:=body h
theorem lfails_fn (C:Mem)(hT:Tabs C)(pv:Value)(S:Sht)(H:Hts)(l:List Sgt)(X:Hts × Hts)(hP:PlanIn C pv S H l)(hPl:PlanR S H l)(hX:HtsR X.1/\HtsR X.2) :
  Gives cx.P 8 [pv,.agg ⟨htsC2 X⟩] C (.bool true):=by
 obtain ⟨A,c,rfl,hsv⟩:=hP
 have hmx:maxLen<=9223372036854775807:=by simp [maxLen]
 have hRi:=bookK_rich S H l hPl.s
 have hG:=hRi.good
 have hbp:=bookK_bp S H l
 have hbk:bp (a6 S H l)=(a6 S H l).pts.length:=rfl
 have hon:=bookK_on S H l
 obtain ⟨hbT,hbO⟩:=bookRows S H l hPl.s
 obtain ⟨F0,hF0⟩:∃ F,fsK (a6 S H l).pts.length X.1=F:=⟨_,rfl⟩
 obtain ⟨F1,hF1⟩:∃ F,fsK (a6 S H l).pts.length X.2=F:=⟨_,rfl⟩
 have hl0:F0.length=(a6 S H l).pts.length:=by rw [<- hF0];exact fsK_len _ _
 have hl1:F1.length=(a6 S H l).pts.length:=by rw [<- hF1];exact fsK_len _ _
 have hq0:∀ q∈F0,QB 22 q:=by rw [<- hF0];exact fun q hq=>(fsK_qb _ _ q hq).le (by decide)
 have hq1:∀ q∈F1,QB 22 q:=by rw [<- hF1];exact fun q hq=>(fsK_qb _ _ q hq).le (by decide)
 have hq01:∀ l∈[F0,F1],∀ q∈l,QB 22 q:=by
  intro m hm
  simp only [List.mem_cons,List.not_mem_nil,or_false] at hm
  rcases hm with rfl | rfl
  ·exact hq0
  ·exact hq1
 have hq0n:∀ l∈[F0,[]],∀ q∈l,QB 22 q:=by
  intro m hm
  simp only [List.mem_cons,List.not_mem_nil,or_false] at hm
  rcases hm with rfl | rfl
  ·exact hq0
  ·exact fun q hq=>absurd hq List.not_mem_nil
 have hxh:∀ y∈F0++F1,Hlf y:=by
  intro y hy
  rcases List.mem_append.1 hy with h | h
  ·rw [<- hF0] at h;exact fsK_hlf _ _ y h
  ·rw [<- hF1] at h;exact fsK_hlf _ _ y h
 have hxl:(F0++F1).length=2*(a6 S H l).pts.length:=by rw [List.length_append];omega
 have hflat:[F0,F1].flatten=F0++F1:=by simp
 have hE0:valE (bs (a6 S H l)) (bp (a6 S H l)) (txs [F0,F1])=0:=(valE_txs hl0 hq0).trans (fld_ok hl1 hq1)
 have hE1:valE (bs (a6 S H l)) (bp (a6 S H l)) (txs [F0])=5:=rfl
 have hE2:valE (bs (a6 S H l)) (bp (a6 S H l)) (txs [F0,[]])=5:=(valE_txs hl0 hq0).trans (by
  unfold fldZ
  rw [if_neg (by simp only [List.map_nil,List.length_nil];omega)])
 have hdk:(∀ r∈bU (a6 S H l),DotOk r (F0++F1))/\∀ i,i<(a6 S H l).obs.length->∀ r∈roK S H l i,DotOk r (F0++F1) :=
  ⟨fun r hr=>dotOk_of (hbT r hr).2.1 (hbT r hr).1 (by rw [hxl];exact (hbT r hr).2.2) hxh (by omega),fun i hi r hr=>dotOk_of (hbO i hi r hr).2.1 (hbO i hi r hr).1 (by rw [hxl];exact (hbO i hi r hr).2.2) hxh (by omega)⟩
 obtain ⟨FL,hFL⟩:∃ FL,failsL (a6 S H l) (roK S H l) (F0++F1)=FL:=⟨_,rfl⟩
 refine Fn.it (by kernel_rfl) Tryz.func8 125 fun w0=>?_
 refine G.rg fun R hR=>?_
 refine D.aC (fun b2=>?_)
 refine D.aC (fun b3=>?_)
 refine D.q2 1 2 3 hR ?_
 refine G.freeze 1 rfl (fun C1 hle1 hb1=>?_)
 refine G.freeze 0 rfl (fun C2 hle2 hb2=>?_)
 refine G.rg fun R hR=>?_
 refine D.ag (known_fn _ (hT.mono mup)) ?_
 refine D.ps 3 ?_
 refine D.bd rfl rfl rfl rfl rfl rfl (fun _=>PtrTo.blockT (Mem.get hb1 mup) _ 1) rfl rfl rfl ?_
 refine D.ps 2 ?_
 refine D.aJ rfl rfl rfl rfl rfl rfl rfl rfl ?_
 refine D.e3 2 3 24 hR ?_
 refine G.cd (fun h24=>?_) fun h24=>?_
 ·refine G.rg fun R hR=>?_
  refine D.ag (known_fn _ (hT.mono mup)) ?_
  refine D.q1 1 4 hR ?_
  refine G.rf ?_
  exact ⟨rfl,rfl⟩
 ·refine G.rg fun R hR=>?_
  refine D.aa (bkT hb1 12) ?_
  refine D.aQ (make24_fn _ (hT.mono mup) S H _ l hPl.kd hPl.h (hsv.mono mup) hPl.s hG) (fun v27 C27 hle27 hq27=>?_)
  obtain ⟨v1,v2,tv,cv,ov,rfl,g1,g2,g3,g4,g5⟩:=id hq27.ex
  obtain ⟨B1,d1,rfl,_⟩:=id g1
  obtain ⟨B2,d2,rfl,_⟩:=id g2
  obtain ⟨B3,d3,rfl,_⟩:=id g3
  obtain ⟨B4,d4,rfl,_⟩:=id g4
  obtain ⟨B5,d5,rfl,_⟩:=id g5
  simp only [List.length_map] at hq27 ⊢
  refine D.aq (fun b5=>?_)
  refine D.ai (j:=0) ?_
  refine D.e2 3 5 hR ?_
  refine G.freeze 0 rfl (fun C5 hle5 hb5=>?_)
  refine G.aE [0,1,2,3,5,6,7,8,4,9,10,11] [] rfl (by kernel_rfl) (fun R hB hR=>?_)
  refine D.ac ?_
  refine D.aa (bkT hb5 2) ?_
  refine D.ap (_) rfl rfl rfl rfl rfl rfl rfl rfl rfl (fun _=>⟨by decide,by decide,rfl⟩) rfl rfl ?_
  refine D.aa (bkT hb2 7) ?_
  refine D.ac ?_
  refine D.aa (bkT hb5 2) ?_
  refine D.ap (_) rfl rfl rfl rfl rfl rfl rfl rfl rfl (fun _=>⟨by decide,by decide,rfl⟩) rfl rfl ?_
  refine D.aa (bkT hb2 7) ?_
  refine D.aK (ed _ (hT.mono mup) _ _ (a6 S H l).pts.length B1 d1 X.1 rfl (by omega) hX.1) rfl rfl rfl rfl rfl rfl rfl (fun _=>rfl) (fun v32 C32 hle32 hq32=>?_)
  refine D.aK (ed _ (hT.mono mup) _ _ (a6 S H l).pts.length B1 d1 X.2 rfl (by omega) hX.2) rfl rfl rfl rfl rfl rfl rfl (fun _=>rfl) (fun v37 C37 hle37 hq37=>?_)
  rw [hF0] at hq32
  obtain ⟨P0,k0,rfl,_⟩:=id hq32
  simp only [List.length_map] at hq32 ⊢
  rw [hF1] at hq37
  obtain ⟨P1,k1,rfl,_⟩:=id hq37
  simp only [List.length_map] at hq37 ⊢
  refine D.ah [[.slice P0 F0.length k0],[.slice P1 F1.length k1]] (fun p38 C38 hle38 hs38=>?_)
  refine D.q2 1 5 6 hR ?_
  obtain ⟨A6,c6,rfl,hc6,_⟩:=id hs38
  rw [show ([[.slice P0 F0.length k0],[.slice P1 F1.length k1]]:List (List Value)).length=2 from rfl] at hs38 hc6 ⊢
  refine G.cS (.cut [1,2,3,5,6] (.alt 0 (.cut [] (.alt 4 (.fin [7,8,9]) (.alt 7 (.fin [4,8,9]) .stop))) (.alt 7 (.fin [0,4,8,9]) .stop))) [] rfl rfl (by kernel_rfl) (fun R hB hR hH=>?_)
  refine G.shareV1 hR (fun v47=>[(5,[],.pointer (some ⟨b5,0,none⟩)),(6,[],.slice A6 2 c6),(7,[],v47)]) (fun v47=>[.arr v47 54 1 (0+(F0.map encQ).length+(F1.map encQ).length) ([]++(F0.map encQ).flatten++(F1.map encQ).flatten)]) (fun hc=>?_) (fun v47=>?_)
  ·refine D.ac ?_
   refine D.ak (hs38.mono mup) rfl rfl rfl rfl rfl rfl rfl rfl rfl rfl (by omega) rfl (fun _=>rfl) (fun p41 hp41=>?_)
   refine D.aa hp41 ?_
   refine D.ac ?_
   refine D.ak (hs38.mono mup) rfl rfl rfl rfl rfl rfl rfl rfl rfl rfl (by omega) rfl (fun _=>rfl) (fun p45 hp45=>?_)
   refine D.cm hH rfl ⟨?_, ?_,trivial⟩
   ·refine D.dB [] rfl rfl rfl rfl rfl rfl rfl rfl rfl rfl rfl rfl (fun _=>rfl) (fun b39=>?_)
    refine D.cm hH rfl ⟨?_, ?_,trivial⟩
    ·refine D.ej (j:=0) rfl rfl rfl rfl rfl rfl rfl rfl rfl rfl rfl rfl rfl (hq32.mono mup) (fb _) (by simp only [List.length_map,List.length_nil,maxLen];omega) (by simp only [List.length_map,List.length_nil];omega) (fun _=>rfl) (fun v43=>?_)
     refine D.aa hp45 ?_
     refine D.ej (j:=0) rfl rfl rfl rfl rfl rfl rfl rfl rfl rfl rfl rfl rfl (hq37.mono mup) (fb _) (by simp only [List.length_map,List.length_nil,maxLen];omega) (by simp only [List.length_map,List.length_nil];omega) (fun _=>rfl) (fun v47=>?_)
     refine D.ac ?_
     exact D.done [(5,[],_),(6,[],_),(7,[],_)] ⟨rfl,rfl,rfl,trivial⟩ (hR _ _ _ rfl (G.perm _ (List.Perm.refl _) (hc v47)))
    ·refine D.aa hp45 ?_
     refine D.ej (j:=0) rfl rfl rfl rfl rfl rfl rfl rfl rfl rfl rfl rfl rfl (hq32.mono mup) (fb _) (by simp only [List.length_map,List.length_nil,maxLen];omega) (by simp only [List.length_map,List.length_nil];omega) (fun _=>rfl) (fun v43=>?_)
     refine D.ej (j:=0) rfl rfl rfl rfl rfl rfl rfl rfl rfl rfl rfl rfl rfl (hq37.mono mup) (fb _) (by simp only [List.length_map,List.length_nil,maxLen];omega) (by simp only [List.length_map,List.length_nil];omega) (fun _=>rfl) (fun v47=>?_)
     refine D.ac ?_
     exact D.done [(5,[],_),(6,[],_),(7,[],_)] ⟨rfl,rfl,rfl,trivial⟩ (hR _ _ _ rfl (G.perm _ (List.Perm.refl _) (hc v47)))
   ·refine D.aa hp45 ?_
    refine D.dB [] rfl rfl rfl rfl rfl rfl rfl rfl rfl rfl rfl rfl (fun _=>rfl) (fun b39=>?_)
    refine D.ej (j:=0) rfl rfl rfl rfl rfl rfl rfl rfl rfl rfl rfl rfl rfl (hq32.mono mup) (fb _) (by simp only [List.length_map,List.length_nil,maxLen];omega) (by simp only [List.length_map,List.length_nil];omega) (fun _=>rfl) (fun v43=>?_)
    refine D.ej (j:=0) rfl rfl rfl rfl rfl rfl rfl rfl rfl rfl rfl rfl rfl (hq37.mono mup) (fb _) (by simp only [List.length_map,List.length_nil,maxLen];omega) (by simp only [List.length_map,List.length_nil];omega) (fun _=>rfl) (fun v47=>?_)
    refine D.ac ?_
    exact D.done [(5,[],_),(6,[],_),(7,[],_)] ⟨rfl,rfl,rfl,trivial⟩ (hR _ _ _ rfl (G.perm _ (List.Perm.refl _) (hc v47)))
  clear hR hH hB R
  refine G.aR (L':=[.arr v47 54 1 (F0++F1).length ((F0++F1).map encQ).flatten]) (by rw [List.length_append,List.length_map,List.length_map,Nat.zero_add,List.nil_append,List.map_append,List.flatten_append]) ?_
  refine G.freezeArr 0 ((F0++F1).map encQ) rfl rfl (by intro r hr;obtain ⟨y,_,rfl⟩:=List.mem_map.1 hr;rfl) (by rw [List.length_map]) (fun C7 hle7 hxv=>?_)
  have hff:FieldsIn C7 _ (txs [F0,F1]):=fields2 (hs38.mono mup) (hq32.mono mup) (hq37.mono mup)
  refine G.rg fun R hR=>?_
  refine D.aa (bkT hb5 5) ?_
  refine D.ac ?_
  refine D.aK (fails_fn _ (hT.mono mup) _ _ (a6 S H l) _ (roK S H l) [F0,F1] (hq27.mono mup) hRi (by omega) (hff.mono mup) hq01 (by decide:2<=100) (by intro _;rw [hflat];exact ⟨by omega,hdk⟩)) rfl rfl rfl rfl rfl rfl rfl (fun _=>rfl) (fun v51 C51 hle51 hq51=>?_)
  obtain ⟨ov2,rfl,hov⟩:=hq51
  rw [hE0,hflat,if_pos rfl,hFL] at hov
  rw [hE0]
  obtain ⟨Ao,co,rfl,_⟩:=id hov
  rw [List.length_map] at hov ⊢
  refine D.q5 5 5 6 7 8 9 hR ?_
  have hf1:FieldsIn _ _ (txs [F0]):=fields1 (Sl.sub hs38 (l:=0) (h:=1) (m:=c6) (by omega) (by show 1<=2;decide) (by omega) (Nat.le_refl _)) (hq32.mono mup)
  refine G.aE [0,1,2,3,4,5,6,7,8] [] rfl (by kernel_rfl) (fun R hB hR=>?_)
  refine D.aa (bkT hb5 5) ?_
  refine D.ac ?_
  refine D.eM 0 1 c6 rfl rfl rfl rfl rfl rfl rfl rfl rfl rfl rfl rfl (fun _=>⟨.inl ⟨rfl,rfl⟩,.inr ⟨_,rfl⟩,.inl ⟨rfl,rfl⟩,by omega,by omega,by omega⟩) rfl rfl ?_
  refine D.aK (fails_fn _ (hT.mono mup) _ _ (a6 S H l) _ (roK S H l) [F0] (hq27.mono mup) hRi (by omega) (hf1.mono mup) (by intro m hm;rw [List.mem_singleton.1 hm];exact hq0) (by decide:1<=100) (by intro h;rw [hE1] at h;exact absurd h (by decide))) rfl rfl rfl rfl rfl rfl rfl (fun _=>rfl) (fun v58 C58 hle58 hq58=>?_)
  obtain ⟨gv,rfl,hgv⟩:=hq58
  rw [hE1]
  refine D.q6 5 5 6 7 8 9 11 hR ?_
  refine G.aE [0,1,2,3,4,5,6,7,8,9,10] [] rfl (by kernel_rfl) (fun R hB hR=>?_)
  refine D.aa (bkT hb5 5) ?_
  refine D.ac ?_
  refine D.ak (hs38.mono mup) rfl rfl rfl rfl rfl rfl rfl rfl rfl rfl (by omega) rfl (fun _=>rfl) (fun p64 hp64=>?_)
  refine D.aa hp64 ?_
  refine D.ah [[.slice P0 F0.length k0],[.slice none 0 0]] (fun p66 C66 hle66 hs66=>?_)
  refine D.aK (fails_fn _ (hT.mono mup) _ _ (a6 S H l) _ (roK S H l) [F0,[]] (hq27.mono mup) hRi (by omega) (fields2 (hs66.mono mup) (hq32.mono mup) (Sl.nil _ _)) hq0n (by decide:2<=100) (by intro h;rw [hE2] at h;exact absurd h (by decide))) rfl rfl rfl rfl rfl rfl rfl (fun _=>rfl) (fun v67 C67 hle67 hq67=>?_)
  obtain ⟨gw,rfl,hgw⟩:=hq67
  rw [hE2]
  refine D.q6 5 5 7 8 9 11 13 hR ?_
  refine G.rp 5 fun R hR=>?_
  refine D.aJ rfl rfl rfl rfl rfl rfl rfl rfl ?_
  refine D.e5 5 7 8 9 75 hR ?_
  refine G.cd (fun h75=>?_) fun h75=>?_
  ·exact absurd h75 (by decide)
  ·refine G.z5 1 5 7 8 9 14 ?_
   refine G.rg fun R hR=>?_
   refine D.aa (bkT hb5 5) ?_
   refine D.aQ (plthick_fn _ (hT.mono mup) _ S H l (hq27.mono mup)) (fun v77 C77 hle77 hq77=>?_)
   refine D.ac ?_
   refine D.af (satisfied_fn _ (hT.mono mup) _ _ (bU (a6 S H l)) (F0++F1) (hq77.mono mup) (hxv.mono mup) (fun r hr=>(hbT r hr).1) (fun r hr=>(hbT r hr).2.1) (fun r hr=>by rw [hxl];exact (hbT r hr).2.2) hxh (by omega)) rfl rfl rfl rfl rfl rfl rfl (fun _=>rfl) ?_
   refine D.q6 1 5 7 8 9 14 80 hR ?_
   refine G.cut (fun fr C' L' μ=>∃ (w:Value),(True)/\fr=[(5,[],.pointer (some ⟨b5,0,none⟩)),(7,[],v47),(8,[],.slice Ao FL.length co),(9,[],.int .i64 0),(14,[],w)]/\L'=[.arr w 3 1 (if (bU (a6 S H l)).any (badR (F0++F1)) then [(-1:Int)] else []).length ((if (bU (a6 S H l)).any (badR (F0++F1)) then [(-1:Int)] else []).map encI).flatten]) ?_ (fun fr C80 L80 μ hle80 hI=>?_)
   ·refine G.cd (fun h80=>?_) fun h80=>?_
    ·have hb:(bU (a6 S H l)).any (badR (F0++F1))=true:=by simpa using h80
     refine G.nilArr 3 1 ?_
     refine G.rp 1 fun R hR=>?_
     refine D.ah [encI (-1)] (fun p82 C82 hle82 hs82=>?_)
     refine D.append (j:=0) rfl rfl rfl rfl rfl rfl rfl rfl rfl rfl rfl hs82 rfl (by decide) (by decide) (fun _=>rfl) (fun v83=>?_)
     refine D.q5 1 5 7 8 9 14 hR ?_
     refine G.aR (L':=[.arr v83 3 1 (if (bU (a6 S H l)).any (badR (F0++F1)) then [(-1:Int)] else []).length ((if (bU (a6 S H l)).any (badR (F0++F1)) then [(-1:Int)] else []).map encI).flatten]) (by rw [if_pos hb];rfl) ?_
     refine G.aw 0 mup (h_5 5 7 8 9 14) ⟨v83,trivial,rfl,rfl⟩
    ·have hb:¬ (bU (a6 S H l)).any (badR (F0++F1))=true:=by
      intro h
      rw [h] at h80
      exact absurd h80 (by decide)
     refine G.nilArr 3 1 ?_
     refine G.aR (L':=[.arr (.slice none 0 0) 3 1 (if (bU (a6 S H l)).any (badR (F0++F1)) then [(-1:Int)] else []).length ((if (bU (a6 S H l)).any (badR (F0++F1)) then [(-1:Int)] else []).map encI).flatten]) (by rw [if_neg hb];rfl) ?_
     refine G.aw 0 mup (h_5 5 7 8 9 14) ⟨.slice none 0 0,trivial,rfl,rfl⟩
   ·obtain ⟨w,_,rfl,rfl⟩:=hI
    obtain ⟨HH,hHH⟩:∃ HH,(if (bU (a6 S H l)).any (badR (F0++F1)) then [(-1:Int)] else [])=HH:=⟨_,rfl⟩
    have hHl:HH.length<=1:=by rw [<- hHH];split <;> simp
    have hfin:FL=HH++((List.range (a6 S H l).obs.length).filter fun i=>(roK S H l i).any (badR (F0++F1))).map fun i:Nat=>(i:Int):=by rw [<- hFL];unfold failsL;rw [hHH]
    rw [hHH]
    refine G.z6 1 5 7 8 9 14 15 ?_
    refine G.aR (L':=[.arr w 3 1 (HH++((List.range 0).filter fun i=>(roK S H l i).any (badR (F0++F1))).map fun i:Nat=>(i:Int)).length ((HH++((List.range 0).filter fun i=>(roK S H l i).any (badR (F0++F1))).map fun i:Nat=>(i:Int)).map encI).flatten]) (by simp) ?_
    refine G.loop (fun fr C' L' μ=>∃ (i:Nat)(w:Value),(i<=(a6 S H l).obs.length)/\fr=[(5,[],.pointer (some ⟨b5,0,none⟩)),(7,[],v47),(8,[],.slice Ao FL.length co),(9,[],.int .i64 0),(14,[],w),(15,[],.int .i64 i)]/\L'=[.arr w 3 1 (HH++((List.range i).filter fun i=>(roK S H l i).any (badR (F0++F1))).map fun i:Nat=>(i:Int)).length ((HH++((List.range i).filter fun i=>(roK S H l i).any (badR (F0++F1))).map fun i:Nat=>(i:Int)).map encI).flatten]/\μ=(a6 S H l).obs.length-i) (h_6 5 7 8 9 14 15) ⟨0,w,Nat.zero_le _,rfl,rfl,rfl⟩ (fun fr C0' L0' m hle0 hI=>?_)
    obtain ⟨i,w,hi,rfl,rfl,rfl⟩:=hI
    refine G.rp 2 fun R hR=>?_
    refine D.aa (bkT hb5 1) ?_
    refine D.q7 2 5 7 8 9 14 15 88 hR ?_
    refine G.cd (fun h88=>?_) fun h88=>?_
    ·have hil:i<(a6 S H l).obs.length:=by
      have:=of_decide_eq_true h88
      omega
     have hcl:(HH++((List.range i).filter fun i=>(roK S H l i).any (badR (F0++F1))).map fun i:Nat=>(i:Int)).length<=200:=by
      rw [List.length_append,List.length_map]
      have:=List.length_filter_le (fun i=>(roK S H l i).any (badR (F0++F1))) (List.range i)
      rw [List.length_range] at this
      omega
     refine G.rg fun R hR=>?_
     refine D.aa (bkT hb5 5) ?_
     refine D.ac ?_
     refine D.aQ (plof_fn _ (hT.mono mup) _ S H l i hPl.s (hq27.mono mup) hil) (fun v93 C93 hle93 hq93=>?_)
     refine D.ac ?_
     refine D.af (satisfied_fn _ (hT.mono mup) _ _ (roK S H l i) (F0++F1) (hq93.mono mup) (hxv.mono mup) (fun r hr=>(hbO i hil r hr).1) (fun r hr=>(hbO i hil r hr).2.1) (fun r hr=>by rw [hxl];exact (hbO i hil r hr).2.2) hxh (by omega)) rfl rfl rfl rfl rfl rfl rfl (fun _=>rfl) ?_
     refine D.q7 1 5 7 8 9 14 15 96 hR ?_
     refine G.cd (fun h96=>?_) fun h96=>?_
     ·have hb:(roK S H l i).any (badR (F0++F1))=true:=by simpa using h96
      have hstep:((List.range (i+1)).filter fun i=>(roK S H l i).any (badR (F0++F1)))=((List.range i).filter fun i=>(roK S H l i).any (badR (F0++F1)))++[i]:=by rw [List.range_succ,List.filter_append,List.filter_cons,if_pos hb];rfl
      refine G.rp 2 fun R hR=>?_
      refine D.ah [encI (i:Nat)] (fun p99 C99 hle99 hs99=>?_)
      refine D.append (j:=0) rfl rfl rfl rfl rfl rfl rfl rfl rfl rfl rfl hs99 rfl (by simp only [List.length_singleton,maxLen];omega) (by simp only [List.length_singleton];omega) (fun _=>rfl) (fun v100=>?_)
      refine D.q6 1 5 7 8 9 14 15 hR ?_
      refine G.rp 1 fun R hR=>?_
      refine D.aj _ rfl ?_
      refine D.q6 1 5 7 8 9 14 15 hR ?_
      refine G.aR (L':=[.arr v100 3 1 (HH++((List.range (i+1)).filter fun i=>(roK S H l i).any (badR (F0++F1))).map fun i:Nat=>(i:Int)).length ((HH++((List.range (i+1)).filter fun i=>(roK S H l i).any (badR (F0++F1))).map fun i:Nat=>(i:Int)).map encI).flatten]) (by rw [hstep];simp [encI];omega) ?_
      refine G.ar (m':=(a6 S H l).obs.length-(i+1)) (by omega) mup (h_6 5 7 8 9 14 15) ⟨i+1,v100,(by omega),rfl,rfl,rfl⟩
     ·have hb:¬ (roK S H l i).any (badR (F0++F1))=true:=by
       intro h
       rw [h] at h96
       exact absurd h96 (by decide)
      have hstep:((List.range (i+1)).filter fun i=>(roK S H l i).any (badR (F0++F1)))=((List.range i).filter fun i=>(roK S H l i).any (badR (F0++F1))):=by rw [List.range_succ,List.filter_append,List.filter_cons,if_neg hb];simp
      refine G.rp 1 fun R hR=>?_
      refine D.aj _ rfl ?_
      refine D.q6 1 5 7 8 9 14 15 hR ?_
      refine G.aR (L':=[.arr w 3 1 (HH++((List.range (i+1)).filter fun i=>(roK S H l i).any (badR (F0++F1))).map fun i:Nat=>(i:Int)).length ((HH++((List.range (i+1)).filter fun i=>(roK S H l i).any (badR (F0++F1))).map fun i:Nat=>(i:Int)).map encI).flatten]) (by rw [hstep]) ?_
      refine G.ar (m':=(a6 S H l).obs.length-(i+1)) (by omega) mup (h_6 5 7 8 9 14 15) ⟨i+1,w,(by omega),rfl,rfl,rfl⟩
    ·have hil:i=(a6 S H l).obs.length:=by
      have:=of_decide_eq_false h88
      omega
     subst hil
     have hFLl:FL.length<=7:=by
      rw [hfin,List.length_append,List.length_map]
      have:=List.length_filter_le (fun i=>(roK S H l i).any (badR (F0++F1))) (List.range (a6 S H l).obs.length)
      rw [List.length_range] at this
      omega
     rw [<- hfin]
     refine G.freezeArr 0 (FL.map encI) rfl rfl (by intro r hr;obtain ⟨y,_,rfl⟩:=List.mem_map.1 hr;rfl) (by rw [List.length_map]) (fun C8 hle8 hwv=>?_)
     obtain ⟨Aw,cw,rfl,_⟩:=id hwv
     rw [List.length_map] at hwv ⊢
     refine G.rp 8 fun R hR=>?_
     refine D.aJ rfl rfl rfl rfl rfl rfl rfl rfl ?_
     refine D.e3 8 14 109 hR ?_
     refine G.cd (fun h109=>?_) fun h109=>?_
     ·exact absurd h109 (by simp)
     ·refine G.z3 1 8 14 16 ?_
      refine G.loop (fun fr C' L' μ=>∃ (j:Nat),(j<=FL.length)/\fr=[(8,[],.slice Ao FL.length co),(14,[],.slice Aw FL.length cw),(16,[],.int .i64 j)]/\L'=[]/\μ=FL.length-j) (h_3 8 14 16) ⟨0,Nat.zero_le _,rfl,rfl,rfl⟩ (fun fr C1' L1' m hle1 hI=>?_)
      obtain ⟨j,hj,rfl,rfl,rfl⟩:=hI
      refine G.z4 4 8 14 16 113 ?_
      refine G.cd (fun h113=>?_) fun h113=>?_
      ·have hjl:j<FL.length:=by
        have:=of_decide_eq_true h113
        omega
       obtain ⟨y,hy⟩:∃ y,FL[j]?=some y:=⟨FL[j],List.getElem?_eq_getElem hjl⟩
       refine G.aE [0,1,2,3,4,5,6,7,8] [] rfl (by kernel_rfl) (fun R hB hR=>?_)
       refine D.ps 2 ?_
       refine D.ak (hov.mono mup) rfl rfl rfl rfl rfl rfl rfl rfl rfl rfl (by omega) (a7 hy) (fun _=>rfl) (fun p118 hp118=>?_)
       refine D.aa hp118 ?_
       refine D.ps 2 ?_
       refine D.ak (hwv.mono mup) rfl rfl rfl rfl rfl rfl rfl rfl rfl rfl (by omega) (a7 hy) (fun _=>rfl) (fun p122 hp122=>?_)
       refine D.aa hp122 ?_
       refine D.q4 1 8 14 16 124 hR ?_
       refine G.cd (fun h124=>?_) fun h124=>?_
       ·exact absurd h124 (by simp)
       ·refine G.rp 1 fun R hR=>?_
        refine D.aj _ rfl ?_
        refine D.q3 1 8 14 16 hR ?_
        refine G.ar (m':=FL.length-(j+1)) (by omega) hle1 (h_3 8 14 16) ⟨j+1,(by omega),rfl,rfl,rfl⟩
      ·refine G.z1 1 4 ?_
       refine G.rf ?_
       exact ⟨rfl,rfl⟩

section
variable {H:Type} {enc:TypeId × Value->H} {W:World} {spare:Nat->Bool} {held:Bool}
theorem heights2_of {n:Nat}{cs:List Value}{y:DataW H × List MemPlace}(hl:cs.length=14)(h:DataW.trod enc Tryz.prog W 0 spare held n 82 cs=some y):∃ X:Hts × Hts,cs=htsC2 X/\HtsR X.1/\HtsR X.2:=by
 obtain ⟨xs,m,_,_,_,hx,hf⟩:=DataW.trod_array Tryz.underlying82 h
 have h7:Tryz.prog.cellsOf 28=7:=by kernel_rfl
 have h0:=hf 0 (by decide)
 have h1:=hf 1 (by decide)
 rw [h7] at h0 h1
 rw [List.getElem?_eq_getElem (by omega)] at h0 h1
 match cs,hl with
 | [c0,c1,c2,c3,c4,c5,c6,c7,c8,c9,c10,c11,c12,c13],_ =>
  obtain ⟨G0,e0,r0⟩:=heights_of h0
  obtain ⟨G1,e1,r1⟩:=heights_of h1
  refine ⟨(G0,G1), ?_,r0,r1⟩
  unfold htsC2
  rw [<- e0,<- e1]
  rfl
end
open Go Go.Jog Go.ChangeShapes Go.WideShapes Go.ChangeAt Go.RowKit
set_option maxRecDepth 100000
set_option maxHeartbeats 40000000

namespace lawConstraintFails
theorem laid_met (os:Os)(args:Array Value):laidMetH Tryz.prog Rows.constraintFailsRow.laid ((laidWorld os).forCall (fun _ _=>0) ⟨#[],args,[]⟩).memory :=
 laidMet_of_run' 8 (by kernel_rfl) (by kernel_rfl)
theorem contract (H:Type)(enc:TypeId × Value->H)(W:World)(base:Nat)(args:Array Value)(ds gs:List (DataW H))(before:List MemPlace)
  (hval:∀ (j:Nat) t v,Tryz.f8.params[j]?=some t->args[j]?=some v->Value.okWide Tryz.prog W .any base t v)
  (hW:DataW.Whole enc Tryz.prog Tryz.f8.params.toList Rows.constraintFailsSpec.vars false W args.toList ds gs before) (hL:laidMet Tryz.prog Rows.constraintFailsRow.laid W) :
  Calls Tryz.prog 8 args W fun e W'=>∃ v,e=.returned v/\Rows.constraintFailsSpec.post enc Tryz.prog Tryz.f8 false true false false W args v W':=by
 have hW':=hW
 obtain ⟨p,q,hA0,hV,rfl,hfz,hnd⟩:=hW
 have hA:DataW.TrodAll enc Tryz.prog W 0 (fun _=>true) true Tryz.f8.params.toList args.toList ds p:=hA0
 rw [Tryz.params8] at hA hval
 obtain ⟨v0,vs0,d0,ds0,p0,q0,hargs0,rfl,rfl,h0,r0⟩:=trodAll_cons hA
 obtain ⟨v1,vs1,d1,ds1,p1,q1,hargs1,rfl,rfl,h1,r1⟩:=trodAll_cons r0
 obtain ⟨rfl,rfl,rfl⟩:=trodAll_nil r1
 obtain rfl:args=#[v0,v1]:=by cases args;simp_all
 obtain ⟨rfl,rfl⟩:=trodVars_none hV
 obtain ⟨S0,G0,l0,hpl0,hpr0⟩:∃ S G l,PlanIn (memOf W) v0 S G l/\PlanR S G l:=by
  obtain ⟨cs,rfl,_⟩:=okWide_struct Tryz.underlying31 (hval 0 31 v0 rfl rfl)
  obtain ⟨n,hn⟩:=(id h0)
  exact plan_of hn
 obtain ⟨X1,rfl,hX1⟩:∃ X:Hts × Hts,v1=.agg ⟨htsC2 X⟩/\HtsR X.1/\HtsR X.2:=by
  obtain ⟨⟨cs⟩,rfl,hsz⟩:=okWide_array' Tryz.underlying82 (hval 1 82 v1 rfl rfl)
  have hc:Tryz.prog.cellsOf 82=14:=by kernel_rfl
  obtain ⟨n,hn⟩:=(id h1)
  have hl:cs.length=14:=by rw [hc] at hsz;exact hsz
  obtain ⟨X,e,hr⟩:=heights2_of hl hn
  exact ⟨X,congrArg (fun x=>Value.agg ⟨x⟩) e,hr⟩
 simp only [List.append_nil] at hW'
 have hlt0:∀ x∈p0,x.block<W.heap.size:=fun x hx=>hW'.lt x (by simp [hx])
 have hlt1:∀ x∈p1,x.block<W.heap.size:=fun x hx=>hW'.lt x (by simp [hx])
 have main:=gives_below (lfails_fn (memOf W) (tabs_of hL) _ S0 G0 l0 X1 hpl0 hpr0 hX1)
 refine Calls.mono main fun e W' ⟨he,hb⟩=>?_
 subst he
 refine ⟨_,rfl,post_of_below (pa:=p0++(p1++([]))) (pv:=[]) hW' (fun _ _ _=>trodAll_cons_mk (shut_bool Tryz.underlying4 _) trodAll_mk0) (fun sp hsp=>?_) (fun _ _=>rfl) (by simp) hb (ok_one (by kernel_rfl) rfl (okWide_bool_mk Tryz.underlying4 _))⟩
 exact trodAll_cons_mk (WideElems.Trod_stays laidOut' (by kernel_rfl) (of_decide_eq_true (by kernel_rfl)) h0 (fun x hx=>hb.same (hlt0 x hx)) (fun x hx=>hsp x (by simp [hx]))) (trodAll_cons_mk (WideElems.Trod_stays laidOut' (by kernel_rfl) (of_decide_eq_true (by kernel_rfl)) h1 (fun x hx=>hb.same (hlt1 x hx)) (fun x hx=>hsp x (by simp [hx]))) (trodAll_mk0))

theorem reads (os:Os){H:Type}(enc:TypeId × Value->H):∃ places,DataW.whole enc Tryz.prog ((laidWorld os).forCall (fun _ _=>0) ⟨#[],#[.agg ⟨[.int .u8 0,.int .i8 0,.int .i8 0,.bool false,.int .i8 0,.int .i8 0,.int .i8 0,.int .i8 0,.int .i8 0,.int .i8 0,.bool false,.slice none 0 0]⟩,.agg ⟨[.int .i8 0,.int .i8 0,.int .i8 0,.int .i8 0,.int .i8 0,.int .i8 0,.bool false,.int .i8 0,.int .i8 0,.int .i8 0,.int .i8 0,.int .i8 0,.int .i8 0,.bool false]⟩],[]⟩).memory Tryz.f8.params.toList Rows.constraintFailsSpec.vars false (#[.agg ⟨[.int .u8 0,.int .i8 0,.int .i8 0,.bool false,.int .i8 0,.int .i8 0,.int .i8 0,.int .i8 0,.int .i8 0,.int .i8 0,.bool false,.slice none 0 0]⟩,.agg ⟨[.int .i8 0,.int .i8 0,.int .i8 0,.int .i8 0,.int .i8 0,.int .i8 0,.bool false,.int .i8 0,.int .i8 0,.int .i8 0,.int .i8 0,.int .i8 0,.int .i8 0,.bool false]⟩]:Array Value).toList 8=some ([.agg [.agg [.lit (.int .u8 0),.agg [.lit (.int .i8 0),.lit (.int .i8 0)],.lit (.bool false)],.agg [.agg [.lit (.int .i8 0),.lit (.int .i8 0),.lit (.int .i8 0),.lit (.int .i8 0),.lit (.int .i8 0),.lit (.int .i8 0)],.lit (.bool false)],.nil],.agg [.agg [.agg [.lit (.int .i8 0),.lit (.int .i8 0),.lit (.int .i8 0),.lit (.int .i8 0),.lit (.int .i8 0),.lit (.int .i8 0)],.lit (.bool false)],.agg [.agg [.lit (.int .i8 0),.lit (.int .i8 0),.lit (.int .i8 0),.lit (.int .i8 0),.lit (.int .i8 0),.lit (.int .i8 0)],.lit (.bool false)]]],[],places) :=
 ⟨[],by kernel_rfl⟩

theorem lifted (os:Os)(started:os.Started)(H:Type)(enc:TypeId × Value->H)(F:Stop.Interp) :
  ReturnsInHanded {} Tryz.checked os 8 .any ((OpenSpec.ofChange Rows.constraintFailsSpec).preRow enc Tryz.prog Tryz.f8 Rows.constraintFailsRow.domain false Rows.constraintFailsRow.laid) (((OpenSpec.ofChange Rows.constraintFailsSpec).at F).post enc Tryz.prog Tryz.f8 false true false false):=by
 obtain ⟨places,hx⟩:=reads os enc
 refine returnsInHanded_of_row (C:=Tryz.checked) (s:=OpenSpec.ofChange Rows.constraintFailsSpec) own started (by kernel_rfl) Tryz.func8
  (witness_row_at (enc:=enc) (C:=Tryz.checked) false (laidWorld os) #[.agg ⟨[.int .u8 0,.int .i8 0,.int .i8 0,.bool false,.int .i8 0,.int .i8 0,.int .i8 0,.int .i8 0,.int .i8 0,.int .i8 0,.bool false,.slice none 0 0]⟩,.agg ⟨[.int .i8 0,.int .i8 0,.int .i8 0,.int .i8 0,.int .i8 0,.int .i8 0,.bool false,.int .i8 0,.int .i8 0,.int .i8 0,.int .i8 0,.int .i8 0,.int .i8 0,.bool false]⟩] rfl (by kernel_rfl) (by kernel_rfl) (by kernel_rfl)
   (OpenSpec.preRow_of_cond 8 hx (by kernel_rfl) (fun k hk=>by cases hk) (by kernel_rfl) (laid_met os _))) ?_
 intro W base args ds gs before hval hW _ _ _ hL _ _
 exact contract H enc W base args ds gs before hval hW hL

theorem bothB {a b:Bool}(h:a=true)(k:b=true):(a && b)=true:=by rw [h,k];rfl
theorem said:Rows.ConstraintFailsSaid :=
 OpenClaim.holds_of_cond 8 Tryz.f8 rfl rfl rfl rfl rfl rfl rfl ⟨rfl,rfl,rfl,rfl,rfl⟩ rfl rfl rfl rfl rfl (by as_aux_lemma=>kernel_rfl) Tryz.func8 (by unfold joinedFacts;(repeat' (with_reducible refine bothB ?_ ?_));all_goals (as_aux_lemma=>kernel_rfl))
  (of_decide_eq_true (by as_aux_lemma=>kernel_rfl)) (by unfold Func.isWrapper;first | (rw [if_pos (by decide +kernel)];kernel_rfl) | (rw [if_neg (by decide +kernel)];exact ⟨rfl,rfl⟩))
  (fun os started H enc _ F=>by rw [OpenClaim.pre_eq_preRow];exact lifted os started H enc F)

theorem plain (f : FuncId) (fn : Func) (hf : Tryz.pinned.checked.prog.funcNamed "klippe/klippelaw25.ConstraintFails" = some f) (hfn : Tryz.pinned.checked.prog.funcs[f]? = some fn) :
  true=Tryz.pinned.checked.prog.looks []/\∀ (j:Nat) t,fn.params[j]?=some t->Tryz.pinned.checked.prog.wantsStandIn t=false:=by
 obtain rfl : f = 8 := Option.some.inj ((show Tryz.prog.funcNamed "klippe/klippelaw25.ConstraintFails" = some 8 by kernel_rfl).symm.trans hf) |>.symm
 obtain rfl:fn=Tryz.f8:=(Option.some.inj (Tryz.func8.symm.trans hfn)).symm
 refine ⟨by kernel_rfl,fun j t ht=>?_⟩
 rw [Tryz.params8] at ht
 have hm:=Array.mem_of_getElem? ht
 simp only [List.mem_toArray,List.mem_cons,List.not_mem_nil,or_false] at hm
 rcases hm with rfl | rfl
 ·exact (show Tryz.prog.wantsStandIn 31=false by kernel_rfl)
 ·exact (show Tryz.prog.wantsStandIn 82=false by kernel_rfl)
end lawConstraintFails

theorem constraintFails_card:Rows.ConstraintFailsCardSaid :=
 Claim7.holds_tied_plain_at .later [] _ _ _ _ lawConstraintFails.said (fun _ h=>by cases h) (by kernel_rfl) (fun _ h=>by cases h) constraintFails_row_tie rfl ⟨rfl,rfl⟩ (by kernel_rfl) rfl lawConstraintFails.plain (by kernel_rfl)
#print axioms constraintFails_card
end Go.Proofs.YtmgkekjbbodicaaGreatDoor
