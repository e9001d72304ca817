/- FOR ANY PLAN AND ANY NUMBER ConstraintMany ANSWERS true, and leaves them as they were. -/
import Derived.Test.YtmgkekjbbodicaaGreatDoorG11
import Derived.Test.YtmgkekjbbodicaaGreatDoorShelf
set_option maxHeartbeats 4000000
namespace Go.Jog
open Go
theorem G.formB {F:Fx}{k:List KI}{fr:Fr}{C:Mem}{L:List Ent}{e:Exit}{v:Value}{t size len:Nat}{xs:List Value}(hm:Ent.arr v t size len xs∈L)(h:∀ A c,v=.slice A len c->(0<len->∃ g,A=some ⟨g,0,none⟩)->G F k e fr C L):G F k e fr C L :=
 G.form hm fun hf _=>by
  rcases hf with ⟨h1,h2⟩ | ⟨g,c,h1,_,_⟩
  ·exact h none 0 (by rw [h1,h2]) (by omega)
  ·exact h _ c h1 (fun _=>⟨g,rfl⟩)
theorem D.loadT {cx:Cx}{n:Nat}{ds:List (Option Nat)}{R:Rg n ds}{its:List It}{fr:Fr}{C:Mem}{L:List Ent}{i k d:Nat}{o:Oper}{v:Value}{t:Nat}{x:Operand}{p:Value}{cs:List Value}{ti:TI}(hc:PtrTo C p cs)(hk:k=1)(hd:o.dst=some d)(hop:o.op=.load t x)(hg:gOn ds fr o.guard=true)(hx:ev fr [] x=some p)
  (ht:cx.T.get t=some ti) (hv:bN ti cs=some v) (hp:aH n ds ((d,[],v)::fr) d=true) (h:D cx R its ((d,[],v)::fr) C L):D cx R ((i,k,o)::its) fr C L :=
 D.detT (by subst hk;rfl) hd hg hp (fun a hs κ' hκ w hw=>by
  obtain ⟨ad,rfl,_,hcell⟩:=hc
  have hex:(execOp a.eval o).run cx.P w=.ok (.value v) w:=by
   have e1:execOp a.eval o=(do Pure.pure (.value (<- Instr.loadAt t (a.eval x))):Sem Next):=by unfold execOp;rw [hop]
   rw [e1,hs _ _ hx]
   simp only [Instr.loadAt,Instr.sureAddr,Sem.run_bind,Sem.run_pure,Result.andThen_ok]
   rw [dq cx.hT ht (fun j u hj=>((hcell j u hj).mono (hκ hk).1).cell hw.sep) hv]
   rfl
  unfold Oper.quietAt
  rw [hex]
  exact ⟨rfl,rfl⟩) h
end Go.Jog
namespace Go.Proofs.YtmgkekjbbodicaaGreatDoor
open Go Go.Jog
set_option maxRecDepth 100000

theorem lzeros_fn (C:Mem)(bv:Value)(B:Bk)(hB:BookIn C bv B)(hc:B.col.length<=1000)(hc0:B.col≠[])(hp:B.pts.length<=400):Jog.Fn cx.P 43 [bv] C [] fun u _C' L'=>∃ A c,u=.slice A (bs B*bp B:Nat) c/\(0<bs B*bp B->∃ g,A=some ⟨g,0,none⟩)/\L'=[.arr u 54 1 (bs B*bp B) (List.replicate (bs B*bp B) (strV [48]))]:=by
 have hm:bs B*bp B<=1000*400:=Nat.mul_le_mul (by unfold bs;omega) hp
 have hB0:=hB
 obtain ⟨v1,v2,tv,cv,ov,rfl,h1,h2,h3,h4,h5⟩:=id hB.ex
 have hmx:1000000<=maxLen:=by simp [maxLen]
 obtain ⟨N,hN⟩:∃ N,bs B*bp B=N:=⟨_,rfl⟩
 have hcnt:∀ D:Mem,C.le D->Gives cx.P 16 [.agg ⟨[v1,v2,tv,cv,ov]⟩] D (.int .i64 ((N:Nat):Int)):=fun D hD=>by
  have h:=lcount_fn D _ B (hB0.mono hD) hc hc0 hp
  rw [hN] at h
  exact h
 rw [hN] at hm ⊢
 refine Fn.it (by kernel_rfl) Tryz.func43 15 fun w0=>?_
 refine G.rg fun R hR=>?_
 refine D.aF (fun b1=>?_)
 refine D.aa ?_
 refine D.e1 1 hR ?_;clear hR R
 refine G.freeze 0 rfl (fun C1 hle1 hb1=>?_)
 refine G.rg fun R hR=>?_
 refine D.aa ?_
 refine D.e2 1 3 hR ?_;clear hR R
 refine G.rg fun R hR=>?_
 refine D.aa ?_
 refine D.e3 1 3 4 hR ?_;clear hR R
 refine G.nilArr 54 1 ?_
 refine G.loop (fun fr C' L' μ=>∃ (i:Nat)(w:Value),(i<=N)/\fr=[(1,[],.pointer (some ⟨b1,0,none⟩)),(3,[],w),(4,[],.int .i64 i)]/\L'=[.arr w 54 1 i (List.replicate i (strV [48]))]/\μ=N-i) (fr':=[(1,[],_),(3,[],_),(4,[],_)]) ⟨rfl,rfl,rfl,trivial⟩ ⟨0,_,Nat.zero_le _,rfl,rfl,rfl⟩ (fun fr C0' L0' m hle0 hI=>?_)
 obtain ⟨i,w,hi,rfl,rfl,rfl⟩:=hI
 refine G.rg fun R hR=>?_
 refine D.aa ?_
 refine D.ac (bkT hb1 5) ?_
 refine D.ag (hcnt _ mup) ?_
 refine D.aa ?_
 refine D.e4 1 3 4 8 hR ?_;clear hR R
 refine G.cond rfl (fun h8=>?_) (fun h8=>?_)
 ·have hil:i<N:=by
   have:=of_decide_eq_true h8
   omega
  refine G.rg fun R hR=>?_
  refine D.aa ?_
  refine D.ai [[strV [48]]] (fun p12 C12 hle12 hs12=>?_)
  refine D.append (j:=0) rfl rfl rfl rfl rfl rfl rfl rfl rfl rfl rfl hs12 rfl (by simp only [List.length_singleton,maxLen];omega) (by simp only [List.length_singleton];omega) (fun _=>rfl) (fun v13=>?_)
  refine D.aa ?_
  refine D.e3 1 3 4 hR ?_;clear hR R
  refine G.rg fun R hR=>?_
  refine D.aa ?_
  refine D.al _ ?_
  refine D.aa ?_
  refine D.e3 1 3 4 hR ?_;clear hR R
  refine G.aY (L':=[.arr v13 54 1 (i+1) (List.replicate (i+1) (strV [48]))]) (by rw [List.replicate_succ'];rfl) ?_
  refine G.au (m':=N-(i+1)) (by omega) mup (fr':=[(1,[],_),(3,[],_),(4,[],_)]) ⟨rfl,rfl,rfl,trivial⟩ ⟨i+1,v13,(by omega),rfl,rfl,rfl⟩
 ·have hil:i=N:=by
   have:=of_decide_eq_false h8
   omega
  subst hil
  refine G.rg fun R hR=>?_
  iterate 2 refine D.aa ?_
  refine D.e1 2 hR ?_;clear hR R
  refine G.formB (.head _) (fun Aw cw hw hblk=>?_)
  subst hw
  refine G.ay (G.fin1 rfl rfl ?_)
  exact ⟨_,_,rfl,hblk,rfl⟩

theorem lthickness_fn (C:Mem)(_hT:Tabs C)(bv:Value)(B:Bk)(hB:BookIn C bv B)(h60:bs B*bp B<=60)(hc:B.col.length<=60)(hc0:B.col≠[])(hpp:B.pts.length<=400)(hcol:∀ x∈B.col,LayR x) :
  Pur cx.P 19 [bv] C fun u D=>RowsIn D u (thickB B):=by
 have hB0:=hB
 obtain ⟨v1,v2,tv,cv,ov,rfl,h1,h2,h3,h4,h5⟩:=id hB.ex
 obtain ⟨A1,c1,rfl,hq1,hq2,_⟩:=id h1
 obtain ⟨A4,c4,rfl,hq3,hq4,_⟩:=id h4
 have hcp:=List.length_pos_iff.2 hc0
 have hs:bs B+1=B.col.length:=by unfold bs;omega
 have hmx:maxLen<=9223372036854775807:=by simp [maxLen]
 have hzer:=fun (D:Mem)(hD:C.le D)=>lzeros_fn D _ B (hB0.mono hD) (by omega) hc0 hpp
 unfold thickB
 unfold bp at *
 obtain ⟨p,hp⟩:∃ p,B.pts.length=p:=⟨_,rfl⟩
 obtain ⟨s,hse⟩:∃ s,bs B=s:=⟨_,rfl⟩
 obtain ⟨col,hce⟩:∃ col,B.col=col:=⟨_,rfl⟩
 simp only [List.length_map] at h1 h4 hzer ⊢
 rw [hp,hse] at h60 hzer ⊢
 rw [hce] at hc hc0 hcol hcp hs h4 ⊢
 rw [hse] at hs
 simp only [hce] at hzer
 refine Fn.it (by kernel_rfl) Tryz.func19 91 fun w0=>?_
 refine G.rg fun R hR=>?_
 refine D.aF (fun b1=>?_)
 refine D.aa ?_
 refine D.e1 1 hR ?_;clear hR R
 refine G.freeze 0 rfl (fun C1 hle1 hb1=>?_)
 refine G.rg fun R hR=>?_
 refine D.aa ?_
 refine D.e2 1 3 hR ?_;clear hR R
 refine G.rg fun R hR=>?_
 iterate 2 refine D.aa ?_
 refine D.ac (bkT hb1 1) ?_
 iterate 2 refine D.aa ?_
 refine D.e3 1 3 4 hR ?_;clear hR R
 refine G.rg fun R hR=>?_
 refine D.aa ?_
 refine D.e4 1 3 4 5 hR ?_;clear hR R
 refine G.nilArr 101 2 ?_
 refine G.loop (fun fr C' L' μ=>∃ (i:Nat)(vs:List Value)(w:Value),(1<=i/\(i+1<=col.length∨i=1)/\RowsOk C' vs (aE s p col (i-1)))/\fr=[(1,[],.pointer (some ⟨b1,0,none⟩)),(3,[],w),(4,[],.int .i64 p),(5,[],.int .i64 i)]/\L'=[.arr w 101 2 (aE s p col (i-1)).length (aB vs (aE s p col (i-1))).flatten]/\μ=col.length-i) (fr':=[(1,[],_),(3,[],_),(4,[],_),(5,[],_)]) ⟨rfl,rfl,rfl,rfl,trivial⟩ ⟨1,[],_,⟨Nat.le_refl _,.inr rfl,RowsOk.nil _⟩,rfl,rfl,rfl⟩ (fun fr C0' L0' m hle0 hI=>?_)
 obtain ⟨i,vs,w,⟨hi1,hi2,hrows⟩,rfl,rfl,rfl⟩:=hI
 refine G.rg fun R hR=>?_
 refine D.aa ?_
 refine D.al _ ?_
 refine D.aa ?_
 refine D.ac (bkT hb1 1) ?_
 iterate 2 refine D.aa ?_
 refine D.e5 1 3 4 5 18 hR ?_;clear hR R
 refine G.cond rfl (fun h18=>?_) (fun h18=>?_)
 ·have hil:i+1<col.length:=by
   have:=of_decide_eq_true h18
   omega
  obtain ⟨x,hx⟩:∃ x,col[i]?=some x:=⟨col[i]'(by omega),List.getElem?_eq_getElem (by omega)⟩
  obtain ⟨hr1,hr2,hr3⟩:=hcol x (List.mem_of_getElem? hx)
  have hTl:=thickL_len s p col (i-1)
  refine G.rg fun R hR=>?_
  refine D.aa ?_
  refine D.e5 1 3 4 5 6 hR ?_;clear hR R
  refine G.aY (L':=[.arr w 101 2 (aE s p col (i-1)++aG s p x i 0).length (aB vs (aE s p col (i-1)++aG s p x i 0)).flatten]) (by simp [aG]) ?_
  refine G.loop (fun fr C' L' μ=>∃ (k:Nat)(vs2:List Value)(w2:Value),(k<=p/\RowsOk C' vs2 (aE s p col (i-1)++aG s p x i k))/\fr=[(1,[],.pointer (some ⟨b1,0,none⟩)),(3,[],w2),(4,[],.int .i64 p),(5,[],.int .i64 i),(6,[],.int .i64 k)]/\L'=[.arr w2 101 2 (aE s p col (i-1)++aG s p x i k).length (aB vs2 (aE s p col (i-1)++aG s p x i k)).flatten]/\μ=p-k) (fr':=[(1,[],_),(3,[],_),(4,[],_),(5,[],_),(6,[],_)]) ⟨rfl,rfl,rfl,rfl,rfl,trivial⟩ ⟨0,vs,w,⟨Nat.zero_le _,by simpa [aG] using hrows⟩,rfl,rfl,rfl⟩ (fun fr C1' L1' m hle1 hI=>?_)
  obtain ⟨k,vs2,w2,⟨hk,hrow2⟩,rfl,rfl,rfl⟩:=hI
  refine G.rg fun R hR=>?_
  iterate 3 refine D.aa ?_
  refine D.e6 1 3 4 5 6 23 hR ?_;clear hR R
  refine G.cond rfl (fun h23=>?_) (fun h23=>?_)
  ·have hkp:k<p:=by simpa using h23
   have hip:i*p+p<=s*p:=by
    rw [<- Nat.succ_mul]
    exact Nat.mul_le_mul_right _ (by omega)
   have hjp:(i-1)*p+p=i*p:=by
    rw [<- Nat.succ_mul,show (i-1).succ=i by omega]
   have hTi:=thickI_len s p x i k
   have hm1:((i-1:Nat):Int)*(p:Int)=(((i-1)*p:Nat):Int):=(Int.natCast_mul _ _).symm
   have hm2:(i:Int)*(p:Int)=((i*p:Nat):Int):=(Int.natCast_mul _ _).symm
   have hRl:(aE s p col (i-1)++aG s p x i k).length<=400:=by
    rw [List.length_append]
    omega
   refine G.aJ [(1,3)] rfl (fun R hR=>?_)
   refine D.ac (bkT hb1 5) ?_
   refine D.call (hzer _ mup) rfl (.inr (by decide)) rfl rfl rfl rfl rfl rfl (List.Perm.refl _) (fun _=>rfl) (fun v27 C27 L27 hle27 hq27=>?_)
   obtain ⟨Az,cz,rfl,hblk,rfl⟩:=hq27
   obtain ⟨bz,rfl⟩:=hblk (by omega)
   refine D.aa ?_
   refine D.e6 1 3 4 5 6 7 hR ?_;clear hR R
   refine G.rg fun R hR=>?_
   iterate 2 refine D.aa ?_
   refine D.bO (((i-1:Nat):Int)) rfl rfl rfl rfl (by omega) (by omega) (by omega) rfl rfl ?_
   refine D.aa ?_
   refine D.al _ ?_
   refine D.aa ?_
   refine D.bO (((((i-1)*p+k:Nat)):Int)) rfl rfl rfl rfl (by omega) (by omega) (by omega) rfl rfl ?_
   iterate 3 refine D.aa ?_
   refine D.al _ ?_
   refine D.aa ?_
   refine D.bO ((((i*p+k:Nat)):Int)) rfl rfl rfl rfl (by omega) (by omega) (by omega) rfl rfl ?_
   refine D.ba (((i-1)*p+k)) rfl rfl rfl rfl rfl rfl rfl rfl rfl rfl (fun _=>⟨by omega,by omega,(Nat.mul_one _).symm⟩) rfl rfl ?_
   refine D.aP (j:=0) rfl rfl rfl rfl rfl rfl rfl rfl rfl rfl rfl (by simp [];omega) ?_
   refine D.ba ((i*p+k)) rfl rfl rfl rfl rfl rfl rfl rfl rfl rfl (fun _=>⟨by omega,by omega,(Nat.mul_one _).symm⟩) rfl rfl ?_
   refine D.aP (j:=0) rfl rfl rfl rfl rfl rfl rfl rfl rfl rfl rfl (by simp [ap];omega) ?_
   refine D.e6 1 3 4 5 6 7 hR ?_;clear hR R
   refine G.aY (L':=[.arr (.slice (some ⟨bz,0,none⟩) (s*p) cz) 54 1 (s*p) (facV (s*p) [(i*p+k, -1),((i-1)*p+k,1)]),.arr w2 101 2 (aE s p col (i-1)++aG s p x i k).length (aB vs2 (aE s p col (i-1)++aG s p x i k)).flatten]) (by
    first
    | (rw [<- st2 (n:=s*p) 1 (-1) (by omega) (by omega),bx,a8];rfl)
    | (rw [<- st2' (n:=s*p) 1 (-1) (by omega) (by omega) (by omega),bx,a8];rfl)) ?_
   refine G.freezeArr 0 ((rowF (s*p) [(i*p+k, -1),((i-1)*p+k,1)]).map encQ) rfl (dC _ _) (by intro r hr;obtain ⟨y,_,rfl⟩:=List.mem_map.1 hr;rfl) (by simp [rowF_len]) (fun Cz hz hsz=>?_)
   have hR2:=hrow2.1
   have hone:=RowsOk.snoc (r:=lowR s p x i k) (hrow2.mono mup) hsz
   have hcel:=cI hR2 (.slice (some ⟨bz,0,none⟩) (s*p) cz) (lowR s p x i k)
   refine G.rg fun R hR=>?_
   iterate 3 refine D.aa ?_
   refine D.ac (bkT hb1 1) ?_
   refine D.aa ?_
   refine D.am (h4.mono mup) rfl rfl rfl rfl rfl rfl rfl rfl rfl rfl (by omega) (bj hx) (fun _=>rfl) (fun p48 hp48=>?_)
   refine D.d9 hp48 rfl rfl rfl rfl rfl rfl rfl rfl rfl rfl (fun _=>rfl) (fun p49 hp49=>?_)
   refine D.ac hp49 ?_
   refine D.ah (neg2_fn _ x.min (Nat.le_trans (dw hr1) (by decide))) rfl rfl rfl rfl rfl rfl rfl (fun _=>rfl) ?_
   refine D.ak [.slice (some ⟨bz,0,none⟩) (s*p:Nat) cz,strV (qtx (-x.min))] ?_
   refine D.ai [[.slice (some ⟨bz,0,none⟩) (s*p:Nat) cz,strV (qtx (-x.min))]] (fun p53 C53 hle53 hs53=>?_)
   refine D.append (j:=0) rfl rfl rfl rfl rfl rfl rfl rfl rfl rfl rfl hs53 rfl (by simp only [List.length_singleton,maxLen];omega) (by simp only [List.length_singleton];omega) (fun _=>rfl) (fun v54=>?_)
   refine D.aa ?_
   refine D.e5 1 3 4 5 6 hR ?_;clear hR R
   refine G.aY (L':=[.arr v54 101 2 (aE s p col (i-1)++aG s p x i k++[lowR s p x i k]).length (aB (vs2++[.slice (some ⟨bz,0,none⟩) (s*p) cz]) (aE s p col (i-1)++aG s p x i k++[lowR s p x i k])).flatten]) (by rw [hcel];simp [lowR];omega) ?_
   refine G.rg fun R hR=>?_
   refine D.aa ?_
   refine D.ac (bkT hb1 1) ?_
   refine D.aa ?_
   refine D.am (h4.mono mup) rfl rfl rfl rfl rfl rfl rfl rfl rfl rfl (by omega) (bj hx) (fun _=>rfl) (fun p58 hp58=>?_)
   refine D.d9 hp58 rfl rfl rfl rfl rfl rfl rfl rfl rfl rfl (fun _=>rfl) (fun p59 hp59=>?_)
   refine D.ac hp59 ?_
   refine D.aa ?_
   refine D.e6 1 3 4 5 6 61 hR ?_;clear hR R
   refine G.cond rfl (fun h61=>?_) (fun h61=>?_)
   ·obtain ⟨m,hm⟩:∃ m,x.max=some m:=by
     rw [opt_nil] at h61
     exact Option.isSome_iff_exists.1 h61
    have hthick:thickP s p x i k=[lowR s p x i k,highR s p m i k]:=by unfold thickP;rw [hm]
    have hmt:optS x.max=qtx m:=by rw [hm];rfl
    refine G.aJ [(1,3)] rfl (fun R hR=>?_)
    refine D.ac (bkT hb1 5) ?_
    refine D.call (hzer _ mup) rfl (.inr (by decide)) rfl rfl rfl rfl rfl rfl (List.Perm.refl _) (fun _=>rfl) (fun v63 C63 L63 hle63 hq63=>?_)
    obtain ⟨Az2,cz2,rfl,hblk2,rfl⟩:=hq63
    obtain ⟨bz2,rfl⟩:=hblk2 (by omega)
    refine D.aa ?_
    refine D.e6 1 3 4 5 6 8 hR ?_;clear hR R
    refine G.rg fun R hR=>?_
    iterate 2 refine D.aa ?_
    refine D.bO (((i-1:Nat):Int)) rfl rfl rfl rfl (by omega) (by omega) (by omega) rfl rfl ?_
    refine D.aa ?_
    refine D.al _ ?_
    refine D.aa ?_
    refine D.bO (((((i-1)*p+k:Nat)):Int)) rfl rfl rfl rfl (by omega) (by omega) (by omega) rfl rfl ?_
    iterate 3 refine D.aa ?_
    refine D.al _ ?_
    refine D.aa ?_
    refine D.bO ((((i*p+k:Nat)):Int)) rfl rfl rfl rfl (by omega) (by omega) (by omega) rfl rfl ?_
    refine D.ba (((i-1)*p+k)) rfl rfl rfl rfl rfl rfl rfl rfl rfl rfl (fun _=>⟨by omega,by omega,(Nat.mul_one _).symm⟩) rfl rfl ?_
    refine D.aP (j:=0) rfl rfl rfl rfl rfl rfl rfl rfl rfl rfl rfl (by simp [];omega) ?_
    refine D.ba ((i*p+k)) rfl rfl rfl rfl rfl rfl rfl rfl rfl rfl (fun _=>⟨by omega,by omega,(Nat.mul_one _).symm⟩) rfl rfl ?_
    refine D.aP (j:=0) rfl rfl rfl rfl rfl rfl rfl rfl rfl rfl rfl (by simp [ap];omega) ?_
    refine D.e6 1 3 4 5 6 8 hR ?_;clear hR R
    refine G.aY (L':=[.arr (.slice (some ⟨bz2,0,none⟩) (s*p) cz2) 54 1 (s*p) (facV (s*p) [(i*p+k,1),((i-1)*p+k, -1)]),.arr v54 101 2 (aE s p col (i-1)++aG s p x i k++[lowR s p x i k]).length (aB (vs2++[.slice (some ⟨bz,0,none⟩) (s*p) cz]) (aE s p col (i-1)++aG s p x i k++[lowR s p x i k])).flatten]) (by
     first
     | (rw [<- st2 (n:=s*p) (-1) 1 (by omega) (by omega),bx,a8];rfl)
     | (rw [<- st2' (n:=s*p) (-1) 1 (by omega) (by omega) (by omega),bx,a8];rfl)) ?_
    refine G.freezeArr 0 ((rowF (s*p) [(i*p+k,1),((i-1)*p+k, -1)]).map encQ) rfl (dC _ _) (by intro r hr;obtain ⟨y,_,rfl⟩:=List.mem_map.1 hr;rfl) (by simp [rowF_len]) (fun Cz2 hz2 hsz2=>?_)
    have htwo:=RowsOk.snoc (r:=highR s p m i k) (hone.mono mup) hsz2
    have hcel2:=cI hone.1 (.slice (some ⟨bz2,0,none⟩) (s*p) cz2) (highR s p m i k)
    refine G.rg fun R hR=>?_
    iterate 3 refine D.aa ?_
    refine D.ac (bkT hb1 1) ?_
    refine D.aa ?_
    refine D.am (h4.mono mup) rfl rfl rfl rfl rfl rfl rfl rfl rfl rfl (by omega) (bj hx) (fun _=>rfl) (fun p84 hp84=>?_)
    refine D.d9 hp84 rfl rfl rfl rfl rfl rfl rfl rfl rfl rfl (fun _=>rfl) (fun p85 hp85=>?_)
    refine D.ac hp85 ?_
    refine D.ak [.slice (some ⟨bz2,0,none⟩) (s*p:Nat) cz2,strV (optS x.max)] ?_
    refine D.ai [[.slice (some ⟨bz2,0,none⟩) (s*p:Nat) cz2,strV (optS x.max)]] (fun p88 C88 hle88 hs88=>?_)
    refine D.append (j:=0) rfl rfl rfl rfl rfl rfl rfl rfl rfl rfl rfl hs88 rfl (by simp only [List.length_append,List.length_singleton,maxLen] at hRl ⊢;omega) (by simp only [List.length_append,List.length_singleton] at hRl ⊢;omega) (fun _=>rfl) (fun v89=>?_)
    refine D.aa ?_
    refine D.e5 1 3 4 5 6 hR ?_;clear hR R
    refine G.rg fun R hR=>?_
    refine D.aa ?_
    refine D.al _ ?_
    refine D.aa ?_
    refine D.e5 1 3 4 5 6 hR ?_;clear hR R
    refine G.aY (L':=[.arr v89 101 2 (aE s p col (i-1)++aG s p x i (k+1)).length (aB (vs2++[.slice (some ⟨bz,0,none⟩) (s*p) cz]++[.slice (some ⟨bz2,0,none⟩) (s*p) cz2]) (aE s p col (i-1)++aG s p x i (k+1))).flatten]) (by
     rw [aG,hthick,<- List.append_assoc,show ∀ (l:List RowQ)(a b:RowQ),l++[a,b]=l++[a]++[b] from fun l a b=>by simp,hcel2,hmt]
     simp [highR];omega) ?_
    refine G.au (m':=p-(k+1)) (by omega) mup (fr':=[(1,[],_),(3,[],_),(4,[],_),(5,[],_),(6,[],_)]) ⟨rfl,rfl,rfl,rfl,rfl,trivial⟩ ⟨k+1,_,v89,⟨by omega,by
     rw [aG,hthick,<- List.append_assoc,show ∀ (l:List RowQ)(a b:RowQ),l++[a,b]=l++[a]++[b] from fun l a b=>by simp]
     exact htwo.mono mup⟩,rfl,rfl,rfl⟩
   ·have hm:x.max=none:=by
     rw [opt_nil] at h61
     cases hx2:x.max with
     | none=>rfl
     | some q=>rw [hx2] at h61;cases h61
    have hthick:thickP s p x i k=[lowR s p x i k]:=by unfold thickP;rw [hm]
    refine G.rg fun R hR=>?_
    refine D.aa ?_
    refine D.al _ ?_
    refine D.aa ?_
    refine D.e5 1 3 4 5 6 hR ?_;clear hR R
    refine G.aY (L':=[.arr v54 101 2 (aE s p col (i-1)++aG s p x i (k+1)).length (aB (vs2++[.slice (some ⟨bz,0,none⟩) (s*p) cz]) (aE s p col (i-1)++aG s p x i (k+1))).flatten]) (by rw [aG,hthick,<- List.append_assoc]) ?_
    refine G.au (m':=p-(k+1)) (by omega) mup (fr':=[(1,[],_),(3,[],_),(4,[],_),(5,[],_),(6,[],_)]) ⟨rfl,rfl,rfl,rfl,rfl,trivial⟩ ⟨k+1,_,v54,⟨by omega,by
     rw [aG,hthick,<- List.append_assoc]
     exact hone.mono mup⟩,rfl,rfl,rfl⟩
  ·have hkp:k=p:=by
    have:¬ k<p:=by simpa using h23
    omega
   have hfull:aE s p col (i-1)++aG s p x i k=aE s p col i:=by
    obtain ⟨j,rfl⟩:∃ j,i=j+1:=⟨i-1,by omega⟩
    rw [hkp,Nat.add_sub_cancel,aE,lay_at hx]
   refine G.rg fun R hR=>?_
   refine D.aa ?_
   refine D.al _ ?_
   refine D.aa ?_
   refine D.e4 1 3 4 5 hR ?_;clear hR R
   refine G.aY (L':=[.arr w2 101 2 (aE s p col (i+1-1)).length (aB vs2 (aE s p col (i+1-1))).flatten]) (by rw [hfull];rfl) ?_
   refine G.au (m':=col.length-(i+1)) (by omega) mup (fr':=[(1,[],_),(3,[],_),(4,[],_),(5,[],_)]) ⟨rfl,rfl,rfl,rfl,trivial⟩ ⟨i+1,vs2,w2,⟨by omega,.inl (by omega),by rw [Nat.add_sub_cancel,<- hfull];exact hrow2⟩,rfl,rfl,rfl⟩
 ·have hil:i-1=col.length-2:=by
   have:=of_decide_eq_false h18
   omega
  refine G.rg fun R hR=>?_
  iterate 2 refine D.aa ?_
  refine D.e1 2 hR ?_;clear hR R
  rw [hil] at hrows ⊢
  refine G.freezeArr 0 (aB vs (aE s p col (col.length-2))) rfl rfl (rowCells_two _ _) (bG hrows.1) (fun Cg hg hsl3=>?_)
  refine G.rf ?_
  exact ⟨rfl,vs,hrows.mono mup,hsl3⟩

def bR (n:Nat):List Lay:=(List.range n).map fun i=>⟨[117,UInt8.ofNat (97+i % 26),UInt8.ofNat (97+i / 26)],1,none⟩
theorem bQ (n:Nat):(bR n).length=n:=by simp [bR]
def bookM (S:Sht)(H:Hts)(n:Nat):Bk:=⟨ptsK (S.kd % 8) S.a S.b S.h,shT (S.kd % 8),(fsK (ptsK (S.kd % 8) S.a S.b S.h).length H).map qtx,bR n,[]⟩
theorem manyCol_z:∀ n<30,colZ (bR (n+1))=0:=by decide +kernel
theorem manyCol_r (n:Nat):∀ x∈bR n,LayR x:=by
 intro x hx
 obtain ⟨i,_,rfl⟩:=List.mem_map.1 hx
 exact ⟨(by decide +kernel:QB 22 (1:Rat)),fun q h=>by simp at h,by show 3<=999998;decide⟩
theorem bookM_zero (S:Sht)(H:Hts)(n:Nat)(hn:n<30):eB (bookM S H (n+1))=0:=by
 have h1:fldZ (bookM S H (n+1)).pts.length (bookM S H (n+1)).terr=0:=by
  unfold fldZ
  rw [if_pos (by show ((fsK _ H).map qtx).length=_;rw [List.length_map,fsK_len];rfl)]
  show chkZ (((fsK _ H).map qtx).all aX)=0
  rw [all_right (fun q hq=>ok1 (fsK_qb _ H q hq))]
  rfl
 have h2:colZ (bookM S H (n+1)).col=0:=manyCol_z n hn
 unfold eB
 rw [if_neg (by rw [h1];decide),if_neg (by rw [h2];decide),if_neg (by show ¬ 100<0;decide)]
 rfl
theorem bookM_r (S:Sht)(H:Hts)(n:Nat)(hn:n<=30):BookR (bookM S H n):=by
 refine ⟨?_,manyCol_r n,(by show (bR n).length<=1000000;rw [bQ];omega),fun o ho=>by cases ho⟩
 intro s h
 obtain ⟨q,hq,rfl⟩:=List.mem_map.1 h
 exact len_qtx1 (fsK_qb _ H q hq)
theorem bookM_z (C:Mem)(hT:Tabs C)(bv:Value)(S:Sht)(H:Hts)(n:Nat)(hn:n<30)(hB:BookIn C bv (bookM S H (n+1))):BookZ C bv (bookM S H (n+1)) 0:=by
 have hG:=(shape_good (S.kd % 8) (Nat.mod_lt _ (by decide)) S.a S.b S.h).1
 refine ⟨hB,fun D hD=>?_,fun _=>?_, ?_,hG.ok.lp⟩
 ·have h2:=checkAll_fn D (hT.mono hD) bv _ (hB.mono hD) hG (bookM_r S H (n+1) (by omega))
  rwa [bookM_zero S H n hn] at h2
 ·intro e
  have h:=bQ (n+1)
  rw [show bR (n+1)=[] from e] at h
  simp at h
 ·show (bR (n+1)).length<=1000
  rw [bQ]
  omega

theorem two_bytes (i:Nat)(hi:i<30):([[.int .u8 (97+((i % 26:Nat):Int))],[.int .u8 (97+((i / 26:Nat):Int))]]:List (List Value))=(([UInt8.ofNat (97+i % 26),UInt8.ofNat (97+i / 26)]:Str).map fun b=>[.int .u8 b.toNat]):=by
 have h1:((UInt8.ofNat (97+i % 26)).toNat:Int)=97+((i % 26:Nat):Int):=by
  rw [UInt8.toNat_ofNat']
  omega
 have h2:((UInt8.ofNat (97+i / 26)).toNat:Int)=97+((i / 26:Nat):Int):=by
  rw [UInt8.toNat_ofNat']
  omega
 simp only [List.map,h1,h2]
theorem manyCol_next (i:Nat):bR (i+1)=bR i++[⟨[117,UInt8.ofNat (97+i % 26),UInt8.ofNat (97+i / 26)],1,none⟩]:=by
 unfold bR
 rw [List.range_succ,List.map_append]
 rfl
theorem many_fn (C:Mem)(hT:Tabs C)(pv:Value)(S:Sht)(H:Hts)(l:List Sgt)(m:Nat)(_hm:m<256)(hP:PlanIn C pv S H l)(hPl:PlanR S H l) :
  Gives cx.P 4 [pv,.int .u8 m] C (.bool true):=by
 obtain ⟨A,c,rfl,hsv⟩:=hP
 have hG:=(shape_good (S.kd % 8) (Nat.mod_lt _ (by decide)) S.a S.b S.h).1
 refine Fn.it (by kernel_rfl) Tryz.func4 86 fun w0=>?_
 refine G.rg fun R hR=>?_
 refine D.aF (fun b2=>?_)
 refine D.aa ?_
 refine D.e2 1 2 hR ?_;clear hR R
 refine G.freeze 0 rfl (fun C1 hle1 hb1=>?_)
 refine G.rg fun R hR=>?_
 refine D.ag (known_fn _ (hT.mono mup)) ?_
 iterate 3 refine D.aa ?_
 refine D.a6 rfl rfl rfl rfl rfl rfl (fun _=>PtrTo.blockT (Mem.get hb1 mup) _ 1) rfl rfl rfl ?_
 iterate 2 refine D.aa ?_
 refine D.aI rfl rfl rfl rfl rfl rfl rfl rfl ?_
 refine D.e3 1 2 18 hR ?_;clear hR R
 refine G.cond rfl (fun h18=>?_) (fun h18=>?_)
 ·refine G.rg fun R hR=>?_
  refine D.ag (known_fn _ (hT.mono mup)) ?_
  refine D.aa ?_
  refine D.e1 4 hR ?_;clear hR R
  refine G.rf ?_
  exact ⟨rfl,rfl⟩
 ·refine G.rg fun R hR=>?_
  refine D.ac (bkT hb1 12) ?_
  refine D.a7 (make24_fn _ (hT.mono mup) S H _ l hPl.kd hPl.h (hsv.mono mup) hPl.s hG) (fun v21 C21 hle21 hq21=>?_)
  obtain ⟨v1,v2,tv,cv,ov,rfl,g1,g2,g3,g4,g5⟩:=id hq21.ex
  obtain ⟨B1,d1,rfl,_⟩:=id g1
  obtain ⟨B2,d2,rfl,_⟩:=id g2
  obtain ⟨B3,d3,rfl,_⟩:=id g3
  obtain ⟨B4,d4,rfl,_⟩:=id g4
  obtain ⟨B5,d5,rfl,_⟩:=id g5
  simp only [List.length_map] at hq21 g1 g2 g3 ⊢
  refine D.aq (fun b5=>?_)
  refine D.aj (j:=0) ?_
  refine D.e2 1 5 hR ?_;clear hR R
  refine G.rg fun R hR=>?_
  refine D.aa ?_
  refine D.aj (j:=0) ?_
  refine D.aa ?_
  refine D.aj (j:=0) ?_
  refine D.e2 1 5 hR ?_;clear hR R
  refine G.rg fun R hR=>?_
  refine D.aa ?_
  refine D.e3 1 5 6 hR ?_;clear hR R
  refine G.nilArr 56 3 ?_
  refine G.perm (L':=[.obj b5 (.cells ⟨[.slice B1 (dS S H l).pts.length d1,.slice B2 (dS S H l).tris.length d2,.slice B3 (dS S H l).terr.length d3,.slice none 0 0,.slice none 0 0]⟩ 43 (0,0)),.arr (.slice none 0 0) 56 3 0 []]) (List.Perm.swap _ _ _) ?_
  refine G.loop (fun fr C' L' μ=>∃ (i:Nat)(w:Value),(i<=m % 30+1)/\fr=[(1,[],.int .u8 (m:Nat)),(5,[],.pointer (some ⟨b5,0,none⟩)),(6,[],.int .i64 i)]/\L'=[.obj b5 (.cells ⟨[.slice B1 (dS S H l).pts.length d1,.slice B2 (dS S H l).tris.length d2,.slice B3 (dS S H l).terr.length d3,w,.slice none 0 0]⟩ 43 (0,0)),.arr w 56 3 i ((bR i).map encL).flatten]/\μ=m % 30+1-i) (fr':=[(1,[],_),(5,[],_),(6,[],_)]) ⟨rfl,rfl,rfl,trivial⟩ ⟨0,.slice none 0 0,Nat.zero_le _,rfl,rfl,rfl⟩ (fun fr C0' L0' m hle0 hI=>?_)
  obtain ⟨i,w,hi,rfl,rfl,rfl⟩:=hI
  refine G.rg fun R hR=>?_
  iterate 2 refine D.aa ?_
  refine D.cZ (m) (30) rfl rfl rfl rfl rfl rfl (by omega) rfl rfl ?_
  refine D.ci (c:=((m % 30:Nat):Int)) rfl rfl rfl rfl rfl rfl rfl rfl (wrap_i64 (by omega) (by omega)) (fun _=>rfl) ?_
  refine D.al _ ?_
  refine D.aa ?_
  refine D.e4 1 5 6 29 hR ?_;clear hR R
  refine G.cond rfl (fun h29=>?_) (fun h29=>?_)
  ·have hil:i<m % 30+1:=by
    have:=of_decide_eq_true h29
    omega
   refine G.rg fun R hR=>?_
   refine D.aa ?_
   refine D.af (.head _) ?_
   refine D.aa ?_
   refine D.cZ (i) (26) rfl rfl rfl rfl rfl rfl (by omega) rfl rfl ?_
   refine D.al _ ?_
   refine D.ci (c:=(97+((i % 26:Nat):Int))) rfl rfl rfl rfl rfl rfl rfl rfl (wrap_u8 (by omega) (by omega)) (fun _=>rfl) ?_
   refine D.aa ?_
   refine D.eK (i) (26) rfl rfl rfl rfl rfl rfl (by omega) (.inl ⟨rfl,by omega⟩) rfl rfl ?_
   refine D.al _ ?_
   refine D.ci (c:=(97+((i / 26:Nat):Int))) rfl rfl rfl rfl rfl rfl rfl rfl (wrap_u8 (by omega) (by omega)) (fun _=>rfl) ?_
   refine D.ai [[.int .u8 (97+((i % 26:Nat):Int))],[.int .u8 (97+((i / 26:Nat):Int))]] (fun p42 C42 hle42 hs42=>?_)
   refine D.strOf (show Sl _ 1 _ (([UInt8.ofNat (97+i % 26),UInt8.ofNat (97+i / 26)]:Str).map fun b=>[.int .u8 b.toNat]) from by rw [<- two_bytes i (by omega)];exact hs42.mono mup) rfl rfl rfl rfl rfl rfl rfl rfl rfl rfl rfl (fun _=>rfl) ?_
   refine D.bK rfl rfl rfl rfl rfl rfl (fun _=>(by simp only [List.length_cons,List.length_nil];omega)) rfl rfl ?_
   refine D.ak [strV [117,UInt8.ofNat (97+i % 26),UInt8.ofNat (97+i / 26)],strV [49],strV []] ?_
   refine D.ai [[strV [117,UInt8.ofNat (97+i % 26),UInt8.ofNat (97+i / 26)],strV [49],strV []]] (fun p46 C46 hle46 hs46=>?_)
   refine D.cj (j:=1) rfl rfl rfl rfl rfl rfl rfl rfl rfl rfl rfl (hs46.mono mup) rfl (by simp only [List.length_singleton,maxLen];omega) (by simp only [List.length_singleton];omega) (fun _=>rfl) (fun A47 n47 c47=>?_)
   refine D.aa ?_
   refine D.aj (j:=1) ?_
   refine D.e3 1 5 6 hR ?_;clear hR R
   refine G.rg fun R hR=>?_
   refine D.aa ?_
   refine D.al _ ?_
   refine D.aa ?_
   refine D.e3 1 5 6 hR ?_;clear hR R
   refine G.aY (L':=[.obj b5 (.cells ⟨[.slice B1 (dS S H l).pts.length d1,.slice B2 (dS S H l).tris.length d2,.slice B3 (dS S H l).terr.length d3,.slice A47 n47 c47,.slice none 0 0]⟩ 43 (0,0)),.arr (.slice A47 n47 c47) 56 3 (i+1) ((bR (i+1)).map encL).flatten]) (by rw [manyCol_next,List.map_append,List.flatten_append];simp [encL,optS,bx];try rfl) ?_
   refine G.au (m':=m % 30+1-(i+1)) (by omega) mup (fr':=[(1,[],_),(5,[],_),(6,[],_)]) ⟨rfl,rfl,rfl,trivial⟩ ⟨i+1,_,(by omega),rfl,rfl,rfl⟩
  ·have hil:i=m % 30+1:=by
    have:=of_decide_eq_false h29
    omega
   subst hil
   refine G.freezeArr 1 ((bR (m % 30+1)).map encL) rfl rfl (by intro r hr;obtain ⟨y,_,rfl⟩:=List.mem_map.1 hr;rfl) (by rw [List.length_map,bQ]) (fun Cg hg hsl3=>?_)
   refine G.freeze 0 rfl (fun C5 hle5 hb5=>?_)
   obtain ⟨Aw,cw,rfl,_⟩:=id hsl3
   have hBM:BookIn C5 (.agg ⟨[.slice B1 (dS S H l).pts.length d1,.slice B2 (dS S H l).tris.length d2,.slice B3 (dS S H l).terr.length d3,.slice Aw (m % 30+1) cw,.slice none 0 0]⟩) (bookM S H (m % 30+1)):=⟨_,_,_,_,_,rfl,g1.mono mup,g2.mono mup,g3.mono mup,(by have h:=hsl3;simp only [List.length_map,bQ] at h;exact h.mono mup),Sl.nil _ _⟩
   have hZ:=bookM_z C5 (hT.mono mup) _ S H (m % 30) (by omega) hBM
   have hbs:bs (bookM S H (m % 30+1))=m % 30:=by
    show (bR (m % 30+1)).length-1=_
    rw [bQ];omega
   have hc60:(bookM S H (m % 30+1)).col.length<=60:=by show (bR _).length<=60;rw [bQ];omega
   have hc0:(bookM S H (m % 30+1)).col≠[]:=hZ.ne rfl
   obtain ⟨N,hN⟩:∃ N,bs (bookM S H (m % 30+1))*bp (bookM S H (m % 30+1))=N:=⟨_,rfl⟩
   obtain ⟨z1,hz1⟩:∃ z:Int,(if 60<N then 0 else (N:Int))=z:=⟨_,rfl⟩
   obtain ⟨z2,hz2⟩:∃ z:Int,(if 60<N then 4 else 0)=z:=⟨_,rfl⟩
   have hcnt:∀ D:Mem,C5.le D->Gives cx.P 13 [.agg ⟨[.slice B1 (dS S H l).pts.length d1,.slice B2 (dS S H l).tris.length d2,.slice B3 (dS S H l).terr.length d3,.slice Aw (m % 30+1) cw,.slice none 0 0]⟩] D (.tuple #[.int .i64 z1,.int .i64 z2]):=fun D hD=>by
    have h:=count_fn D _ _ 0 (hZ.mono hD)
    unfold ofE at h
    rw [hN] at h
    rw [if_neg (show ¬ ((0:Int)≠0) by decide)] at h
    by_cases h6:60<N
    ·rw [if_pos h6] at h hz1 hz2
     rw [<- hz1,<- hz2]
     exact h
    ·rw [if_neg h6] at h hz1 hz2
     rw [<- hz1,<- hz2]
     exact h
   have hlc:∀ D:Mem,C5.le D->Gives cx.P 16 [.agg ⟨[.slice B1 (dS S H l).pts.length d1,.slice B2 (dS S H l).tris.length d2,.slice B3 (dS S H l).terr.length d3,.slice Aw (m % 30+1) cw,.slice none 0 0]⟩] D (.int .i64 (N:Nat)):=fun D hD=>by
    have h:=lcount_fn D _ _ (hBM.mono hD) (by omega) hc0 hG.ok.lp
    rw [hN] at h
    exact h
   have hsim:(.slice Aw (m % 30+1) cw:Value)=.slice Aw ((bR (m % 30+1)).map encL).length cw:=by rw [List.length_map,bQ]
   rw [<- hsim] at hb5
   refine G.rg fun R hR=>?_
   refine D.ac (bkT hb5 5) ?_
   refine D.ag (hcnt _ mup) ?_
   iterate 5 refine D.aa ?_
   refine D.e3 5 7 8 hR ?_;clear hR R
   refine G.rg fun R hR=>?_
   refine D.ac (bkT hb5 5) ?_
   refine D.ag (hlc _ mup) ?_
   refine D.aa ?_
   refine D.e4 5 7 8 56 hR ?_;clear hR R
   refine G.cond rfl (fun h56=>?_) (fun h56=>?_)
   ·have h6:60<N:=by
     have:=of_decide_eq_true h56
     omega
    rw [if_pos h6] at hz1 hz2
    subst hz1
    subst hz2
    refine G.rg fun R hR=>?_
    iterate 5 refine D.aa ?_
    refine D.aw ?_
    refine D.aa ?_
    refine D.e1 4 hR ?_;clear hR R
    refine G.rf ?_
    exact ⟨rfl,rfl⟩
   ·have h6:¬ 60<N:=by
     have:=of_decide_eq_false h56
     omega
    rw [if_neg h6] at hz1 hz2
    subst hz1
    subst hz2
    refine G.rg fun R hR=>?_
    refine D.ac (bkT hb5 5) ?_
    refine D.aO (thickness_ok _ (hT.mono mup) _ _ (hZ.mono mup) (by omega) (manyCol_r _)) rfl rfl rfl rfl rfl rfl rfl (fun _=>rfl) (fun v65 C65 hle65 hq65=>?_)
    obtain ⟨rv,rfl,hrv⟩:=hq65
    iterate 5 refine D.aa ?_
    refine D.e5 5 7 8 9 10 hR ?_;clear hR R
    refine G.aJ [(15,2)] rfl (fun R hR=>?_)
    iterate 4 refine D.aa ?_
    refine D.a6 rfl rfl rfl rfl rfl rfl (fun _=>PtrTo.blockT (Mem.get hb5 mup) _ 5) rfl rfl rfl ?_
    refine D.bc (fun _=>(hlc _ mup)) ?_
    refine D.aa ?_
    simp only [beq_self_eq_true]
    refine D.aw ?_
    iterate 3 refine D.aa ?_
    refine D.aw ?_
    iterate 2 refine D.aa ?_
    refine D.loadT (bkT hb5 5) rfl rfl rfl rfl rfl rfl rfl rfl ?_
    refine D.aO (lthickness_fn _ (hT.mono mup) _ _ (hBM.mono mup) (by omega) hc60 hc0 hG.ok.lp (manyCol_r _)) rfl rfl rfl rfl rfl rfl rfl (fun _=>rfl) (fun v83 C83 hle83 hq83=>?_)
    refine D.aA (fun _=>(by have h:=sameRows_fn _ _ _ _ _ (hrv.mono mup) hq83;rw [decide_eq_true rfl] at h;exact h)) rfl rfl rfl rfl rfl rfl rfl rfl rfl ?_
    refine D.aw ?_
    refine D.aa ?_
    refine D.e1 4 hR ?_;clear hR R
    refine G.rf ?_
    exact ⟨rfl,rfl⟩
open Go Go.Jog Go.ChangeShapes Go.WideShapes Go.ChangeAt Go.RowKit
set_option maxRecDepth 100000
set_option maxHeartbeats 40000000

namespace lawConstraintMany
theorem laid_met (os:Os)(args:Array Value):laidMetH Tryz.prog Rows.constraintManyRow.laid ((laidWorld os).forCall (fun _ _=>0) ⟨#[],args,[]⟩).memory :=
 laidMet_of_run' 8 (by kernel_rfl) (by kernel_rfl)
theorem contract (H:Type)(enc:TypeId × Value->H)(W:World)(base:Nat)(args:Array Value)(ds gs:List (DataW H))(before:List MemPlace)
  (hval:∀ (j:Nat) t v,Tryz.f4.params[j]?=some t->args[j]?=some v->Value.okWide Tryz.prog W .any base t v)
  (hW:DataW.Whole enc Tryz.prog Tryz.f4.params.toList Rows.constraintManySpec.vars false W args.toList ds gs before) (hL:laidMet Tryz.prog Rows.constraintManyRow.laid W) :
  Calls Tryz.prog 4 args W fun e W'=>∃ v,e=.returned v/\Rows.constraintManySpec.post enc Tryz.prog Tryz.f4 false true false false W args v W':=by
 have hW':=hW
 obtain ⟨p,q,hA0,hV,rfl,hfz,hnd⟩:=hW
 have hA:DataW.TrodAll enc Tryz.prog W 0 (fun _=>true) true Tryz.f4.params.toList args.toList ds p:=hA0
 rw [Tryz.params4] at hA hval
 obtain ⟨v0,vs0,d0,ds0,p0,q0,hargs0,rfl,rfl,h0,r0⟩:=trodAll_cons hA
 obtain ⟨v1,vs1,d1,ds1,p1,q1,hargs1,rfl,rfl,h1,r1⟩:=trodAll_cons r0
 obtain ⟨rfl,rfl,rfl⟩:=trodAll_nil r1
 obtain rfl:args=#[v0,v1]:=by cases args;simp_all
 obtain ⟨rfl,rfl⟩:=trodVars_none hV
 obtain ⟨S0,G0,l0,hpl0,hpr0⟩:∃ S G l,PlanIn (memOf W) v0 S G l/\PlanR S G l:=by
  obtain ⟨cs,rfl,_⟩:=okWide_struct Tryz.underlying31 (hval 0 31 v0 rfl rfl)
  obtain ⟨n,hn⟩:=(id h0)
  exact plan_of hn
 obtain ⟨l1,rfl⟩:∃ b:UInt8,v1=.int .u8 b.toNat:=by
  obtain ⟨k1,rfl⟩:=okWide_int Tryz.underlying5 (hval 1 5 v1 rfl rfl)
  obtain ⟨n,hn⟩:=(id h1)
  exact u8_of hn
 simp only [List.append_nil] at hW'
 have hlt0:∀ x∈p0,x.block<W.heap.size:=fun x hx=>hW'.lt x (by simp [hx])
 have hlt1:∀ x∈p1,x.block<W.heap.size:=fun x hx=>hW'.lt x (by simp [hx])
 have main:=gives_below (many_fn (memOf W) (tabs_of hL) _ S0 G0 l0 l1.toNat l1.toNat_lt hpl0 hpr0)
 refine Calls.mono main fun e W' ⟨he,hb⟩=>?_
 subst he
 refine ⟨_,rfl,post_of_below (pa:=p0++(p1++([]))) (pv:=[]) hW' (fun _ _ _=>trodAll_cons_mk (shut_bool Tryz.underlying4 _) trodAll_mk0) (fun sp hsp=>?_) (fun _ _=>rfl) (by simp) hb (ok_one (by kernel_rfl) rfl (okWide_bool_mk Tryz.underlying4 _))⟩
 exact trodAll_cons_mk (WideElems.Trod_stays laidOut' (by kernel_rfl) (of_decide_eq_true (by kernel_rfl)) h0 (fun x hx=>hb.same (hlt0 x hx)) (fun x hx=>hsp x (by simp [hx]))) (trodAll_cons_mk (WideElems.Trod_stays laidOut' (by kernel_rfl) (of_decide_eq_true (by kernel_rfl)) h1 (fun x hx=>hb.same (hlt1 x hx)) (fun x hx=>hsp x (by simp [hx]))) (trodAll_mk0))

theorem reads (os:Os){H:Type}(enc:TypeId × Value->H):∃ places,DataW.whole enc Tryz.prog ((laidWorld os).forCall (fun _ _=>0) ⟨#[],#[.agg ⟨[.int .u8 0,.int .i8 0,.int .i8 0,.bool false,.int .i8 0,.int .i8 0,.int .i8 0,.int .i8 0,.int .i8 0,.int .i8 0,.bool false,.slice none 0 0]⟩,.int .u8 0],[]⟩).memory Tryz.f4.params.toList Rows.constraintManySpec.vars false (#[.agg ⟨[.int .u8 0,.int .i8 0,.int .i8 0,.bool false,.int .i8 0,.int .i8 0,.int .i8 0,.int .i8 0,.int .i8 0,.int .i8 0,.bool false,.slice none 0 0]⟩,.int .u8 0]:Array Value).toList 8=some ([.agg [.agg [.lit (.int .u8 0),.agg [.lit (.int .i8 0),.lit (.int .i8 0)],.lit (.bool false)],.agg [.agg [.lit (.int .i8 0),.lit (.int .i8 0),.lit (.int .i8 0),.lit (.int .i8 0),.lit (.int .i8 0),.lit (.int .i8 0)],.lit (.bool false)],.nil],.lit (.int .u8 0)],[],places) :=
 ⟨[],by kernel_rfl⟩

theorem lifted (os:Os)(started:os.Started)(H:Type)(enc:TypeId × Value->H)(F:Stop.Interp) :
  ReturnsInHanded {} Tryz.checked os 4 .any ((OpenSpec.ofChange Rows.constraintManySpec).preRow enc Tryz.prog Tryz.f4 Rows.constraintManyRow.domain false Rows.constraintManyRow.laid) (((OpenSpec.ofChange Rows.constraintManySpec).at F).post enc Tryz.prog Tryz.f4 false true false false):=by
 obtain ⟨places,hx⟩:=reads os enc
 refine returnsInHanded_of_row (C:=Tryz.checked) (s:=OpenSpec.ofChange Rows.constraintManySpec) own started (by kernel_rfl) Tryz.func4
  (witness_row_at (enc:=enc) (C:=Tryz.checked) false (laidWorld os) #[.agg ⟨[.int .u8 0,.int .i8 0,.int .i8 0,.bool false,.int .i8 0,.int .i8 0,.int .i8 0,.int .i8 0,.int .i8 0,.int .i8 0,.bool false,.slice none 0 0]⟩,.int .u8 0] rfl (by kernel_rfl) (by kernel_rfl) (by kernel_rfl)
   (OpenSpec.preRow_of_cond 8 hx (by kernel_rfl) (fun k hk=>by cases hk) (by kernel_rfl) (laid_met os _))) ?_
 intro W base args ds gs before hval hW _ _ _ hL _ _
 exact contract H enc W base args ds gs before hval hW hL

theorem bothB {a b:Bool}(h:a=true)(k:b=true):(a && b)=true:=by rw [h,k];rfl
theorem said:Rows.ConstraintManySaid :=
 OpenClaim.holds_of_cond 4 Tryz.f4 rfl rfl rfl rfl rfl rfl rfl ⟨rfl,rfl,rfl,rfl,rfl⟩ rfl rfl rfl rfl rfl (by as_aux_lemma=>kernel_rfl) Tryz.func4 (by unfold joinedFacts;repeat' (with_reducible refine bothB ?_ ?_);all_goals (as_aux_lemma=>kernel_rfl))
  (of_decide_eq_true (by as_aux_lemma=>kernel_rfl)) (by unfold Func.isWrapper;first | (rw [if_pos (by decide +kernel)];kernel_rfl) | (rw [if_neg (by decide +kernel)];exact ⟨rfl,rfl⟩))
  (fun os started H enc _ F=>by rw [OpenClaim.pre_eq_preRow];exact lifted os started H enc F)

theorem plain (f : FuncId) (fn : Func) (hf : Tryz.pinned.checked.prog.funcNamed "klippe/klippelaw25.ConstraintMany" = some f) (hfn : Tryz.pinned.checked.prog.funcs[f]? = some fn) :
  true=Tryz.pinned.checked.prog.looks []/\∀ (j:Nat) t,fn.params[j]?=some t->Tryz.pinned.checked.prog.wantsStandIn t=false:=by
 obtain rfl : f = 4 := Option.some.inj ((show Tryz.prog.funcNamed "klippe/klippelaw25.ConstraintMany" = some 4 by kernel_rfl).symm.trans hf) |>.symm
 obtain rfl:fn=Tryz.f4:=(Option.some.inj (Tryz.func4.symm.trans hfn)).symm
 refine ⟨by kernel_rfl,fun j t ht=>?_⟩
 rw [Tryz.params4] at ht
 have hm:=Array.mem_of_getElem? ht
 simp only [List.mem_toArray,List.mem_cons,List.not_mem_nil,or_false] at hm
 rcases hm with rfl | rfl
 ·exact (show Tryz.prog.wantsStandIn 31=false by kernel_rfl)
 ·exact (show Tryz.prog.wantsStandIn 5=false by kernel_rfl)
end lawConstraintMany

theorem constraintMany_card:Rows.ConstraintManyCardSaid :=
 Claim7.holds_tied_plain_at .later [] _ _ _ _ lawConstraintMany.said (fun _ h=>by cases h) (by kernel_rfl) (fun _ h=>by cases h) constraintMany_row_tie rfl ⟨rfl,rfl⟩ (by kernel_rfl) rfl lawConstraintMany.plain (by kernel_rfl)
#print axioms constraintMany_card
end Go.Proofs.YtmgkekjbbodicaaGreatDoor
