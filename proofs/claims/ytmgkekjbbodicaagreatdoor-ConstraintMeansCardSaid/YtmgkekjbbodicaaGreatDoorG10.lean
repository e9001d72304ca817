/- Laws that the proofs of this seat share, part 10. -/
import Derived.Test.YtmgkekjbbodicaaGreatDoorG9
import Derived.Test.YtmgkekjbbodicaaGreatDoorShelf
set_option maxHeartbeats 4000000
namespace Go.Proofs.YtmgkekjbbodicaaGreatDoor
open Go Go.Jog
set_option maxRecDepth 100000


def bx (err:Nat->Int):Nat->Int
 | 0=>0
 | n+1=>if bx err n≠0 then bx err n else err n
theorem firstErr_stay {err:Nat->Int}{n:Nat}(h:bx err n≠0):∀ m,n<=m->bx err m=bx err n
 | 0,hm=>by rw [show n=0 by omega]
 | m+1,hm=>by
  rcases Nat.lt_or_ge m n with h1 | h1
  ·rw [show n=m+1 by omega]
  ·have ih:=firstErr_stay h m h1
   simp only [bx,ih]
   rw [if_pos h]
theorem firstErr_hit {err:Nat->Int}{i n:Nat}(h0:bx err i=0)(he:err i≠0)(hi:i<n):bx err n=err i:=by
 have h1:bx err (i+1)=err i:=by simp only [bx,h0];rw [if_neg (by decide)]
 rw [firstErr_stay (n:=i+1) (by rw [h1];exact he) n (by omega),h1]
theorem firstErr_step {err:Nat->Int}{i:Nat}(h0:bx err i=0)(he:err i=0):bx err (i+1)=0:=by
 simp only [bx,h0]
 rw [if_neg (by decide),he]
theorem firstErr_zero {err:Nat->Int}:∀ {n:Nat},bx err n=0->∀ i,i<n->err i=0
 | 0,_,i,hi=>by omega
 | n+1,h,i,hi=>by
  by_cases h0:bx err n=0
  ·rcases Nat.lt_or_ge i n with h1 | h1
   ·exact firstErr_zero h0 i h1
   ·have:i=n:=by omega
    subst this
    simp only [bx,h0] at h
    rwa [if_neg (by decide)] at h
  ·simp only [bx] at h
   rw [if_pos h0] at h
   exact absurd h h0

def FieldsIn (C:Mem)(v:Value)(ls:List (List Str)):Prop:=∃ vs:List Value,vs.length=ls.length/\(∀ (i:Nat)(w:Value)(l:List Str),vs[i]?=some w->ls[i]?=some l->Sl C 1 w (l.map dM))/\Sl C 1 v (vs.map fun w=>[w])
theorem FieldsIn.mono {C D:Mem}{v:Value}{ls:List (List Str)}(h:FieldsIn C v ls)(hl:C.le D):FieldsIn D v ls:=by
 obtain ⟨vs,h1,h2,h3⟩:=h
 exact ⟨vs,h1,fun i w l h4 h5=>(h2 i w l h4 h5).mono hl,h3.mono hl⟩
def valE (s p:Nat)(ls:List (List Str)):Int:=if ls.length=s then bx (fun j=>fldZ p (ls.getD j [])) ls.length else 5
theorem fldZ_len {p:Nat}{l:List Str}(h:fldZ p l=0):l.length=p:=by
 unfold fldZ at h
 split at h
 ·assumption
 ·cases h
theorem flat_len {p:Nat}:∀ {ls:List (List Str)},(∀ l∈ls,l.length=p)->ls.flatten.length=p*ls.length
 | [],_=>by simp
 | l::ls,h=>by rw [List.flatten_cons,List.length_append,h l List.mem_cons_self,flat_len fun x hx=>h x (List.mem_cons_of_mem _ hx),List.length_cons,Nat.mul_succ,Nat.add_comm]
theorem flat_step {α:Type}{ls:List (List α)}{j:Nat}{l:List α}(h:ls[j]?=some l):(ls.take (j+1)).flatten=(ls.take j).flatten++l:=by
 rw [List.take_add_one,h,List.flatten_append]
 simp
theorem values_fn (C:Mem)(hT:Tabs C)(bv v:Value)(B:Bk)(s:Nat)(ls:List (List Str))(hB:BookIn C bv B)(hG:Good B.pts B.tris)(hv:FieldsIn C v ls)(hs:∀ l∈ls,∀ x∈l,x.length<=999998)(hl:ls.length<=1000) :
  Pur cx.P 60 [eJ s (bp B),bv,v] C fun u D=>∃ w,u=.tuple #[w,.int .i64 (valE s (bp B) ls)]/\Sl D 1 w ((if valE s (bp B) ls=0 then ls.flatten else []).map dM):=by
 obtain ⟨vs,hvl,hvr,hvv⟩:=hv
 have hlp:=hG.ok.lp
 obtain ⟨v1,v2,tv,cv,ov,rfl,h1,h2,h3,h4,h5⟩:=id hB.ex
 have hm:MeshIn C (.agg ⟨[v1,v2]⟩) B.pts B.tris:=⟨v1,v2,rfl,h1,h2⟩
 obtain ⟨A0,c0,rfl,hc1,hc2,_⟩:=id hvv
 have hmx:maxLen<=9223372036854775807:=by simp [maxLen]
 simp only [List.length_map,hvl] at hvv hc1 ⊢
 refine Fn.it (by kernel_rfl) Tryz.func60 35 fun w0=>?_
 refine G.rg fun R hR=>?_
 refine D.aE (fun b3=>?_)
 refine D.aE (fun b4=>?_)
 refine D.q3 2 2 3 4 hR ?_;clear hR R
 refine G.freeze 1 rfl (fun C3 hle3 hb3=>?_)
 refine G.freeze 0 rfl (fun C4 hle4 hb4=>?_)
 refine G.rp 3 fun R hR=>?_
 refine D.aa (bkT hb3 1) ?_
 refine D.q3 1 2 4 16 hR ?_;clear hR R
 refine G.cd (fun h16=>?_) fun h16=>?_
 ·have hne:ls.length≠s:=by
   intro e
   rw [e] at h16
   simp at h16
  have hz:valE s (bp B) ls=5:=by unfold valE;rw [if_neg hne]
  refine G.z2 2 6 7 ?_
  refine G.aA (G.dropAll (G.aP rfl rfl rfl ?_))
  exact ⟨rfl,.slice none 0 0,by rw [hz],by rw [hz];exact Sl.nil _ _⟩
 ·have heq:ls.length=s:=by
   have h:((ls.length:Nat):Int)=(s:Nat):=by simpa using h16
   omega
  refine G.z3 1 2 4 8 ?_
  refine G.z5 3 4 8 17 18 19 ?_
  refine G.nilArr 54 1 ?_
  refine G.loop (fun fr C' L' μ=>∃ (j:Nat)(w:Value),(j<=ls.length/\bx (fun j=>fldZ (bp B) (ls.getD j [])) j=0)/\fr=[(4,[],.pointer (some ⟨b4,0,none⟩)),(8,[],w),(17,[],.slice A0 ls.length c0),(18,[],.int .i64 ls.length),(19,[],.int .i64 j)]/\L'=[.arr w 54 1 (ls.take j).flatten.length ((ls.take j).flatten.map dM).flatten]/\μ=ls.length-j) (h_5 4 8 17 18 19) ⟨0,_,⟨Nat.zero_le _,rfl⟩,rfl,rfl,rfl⟩ (fun fr C0' L0' m hle0 hI=>?_)
  obtain ⟨j,w,⟨hj,hno⟩,rfl,rfl,rfl⟩:=hI
  refine G.z6 1 4 8 17 18 19 20 ?_
  refine G.cd (fun h20=>?_) fun h20=>?_
  ·have hjl:j<ls.length:=by
    have:=of_decide_eq_true h20
    omega
   obtain ⟨l,hlj⟩:∃ l,ls[j]?=some l:=⟨ls[j],List.getElem?_eq_getElem hjl⟩
   obtain ⟨w2,hw⟩:∃ w2,vs[j]?=some w2:=⟨vs[j]'(by rw [hvl];exact hjl),List.getElem?_eq_getElem _⟩
   have hsw:=hvr j w2 l hw hlj
   obtain ⟨Aw,cw,rfl,_⟩:=id hsw
   simp only [List.length_map] at hsw hw
   have hgd:ls.getD j []=l:=by rw [List.getD_eq_getElem?_getD,hlj,Option.getD_some]
   have hrow:(vs.map fun w=>[w])[j]?=some [.slice Aw l.length cw]:=by rw [List.getElem?_map,hw];rfl
   have hall:∀ x∈ls.take j,x.length=bp B:=by
    intro x hx
    obtain ⟨i,hi⟩:=List.getElem?_of_mem hx
    have hij:=(List.getElem?_eq_some_iff.1 hi).1
    rw [List.length_take] at hij
    rw [List.getElem?_take,if_pos (by omega)] at hi
    have h:=firstErr_zero hno i (by omega)
    simp only [List.getD_eq_getElem?_getD,hi,Option.getD_some] at h
    exact fldZ_len h
   have hfl:=flat_len hall
   rw [List.length_take] at hfl
   have hbp:bp B<=400:=by unfold bp;omega
   have hfb:(ls.take j).flatten.length<=400*1000:=by rw [hfl];exact Nat.mul_le_mul hbp (by omega)
   refine G.rg fun R hR=>?_
   refine D.ap (hvv.mono mup) rfl rfl rfl rfl rfl rfl rfl rfl rfl rfl (by omega) hrow (fun _=>rfl) (fun p21 hp21=>?_)
   refine D.aa hp21 ?_
   refine D.q6 1 4 8 10 17 18 19 hR ?_;clear hR R
   refine G.rp 1 fun R hR=>?_
   refine D.aa (bkT hb4 2) ?_
   refine D.ae ?_
   refine D.ah (fieldCheck_fn _ (hT.mono mup) _ _ B.pts B.tris l (hm.mono mup) hG (hsw.mono mup) (hs l (List.mem_of_getElem? hlj))) ?_
   refine D.q7 1 4 8 10 11 17 18 19 hR ?_;clear hR R
   refine G.z8 2 4 8 10 11 17 18 19 28 ?_
   refine G.cd (fun h28=>?_) fun h28=>?_
   ·have he:fldZ (bp B) l≠0:=by
     intro e
     rw [show fldZ B.pts.length l=0 from e] at h28
     exact absurd h28 (by decide)
    have hz:valE s (bp B) ls=fldZ (bp B) l:=by
     unfold valE
     rw [if_pos heq,firstErr_hit (i:=j) hno (by simp only [hgd];exact he) hjl]
     simp only [hgd]
    refine G.z2 3 6 7 ?_
    refine G.aA (G.dropAll (G.aP rfl rfl rfl ?_))
    exact ⟨rfl,.slice none 0 0,by rw [hz];rfl,by rw [hz,if_neg he];exact Sl.nil _ _⟩
   ·have he:fldZ (bp B) l=0:=by
     have h:fldZ B.pts.length l=0:=by simpa using h28
     exact h
    have hll:=fldZ_len he
    refine G.rp 2 fun R hR=>?_
    refine D.appendX (j:=0) rfl rfl rfl rfl rfl rfl rfl rfl rfl rfl rfl rfl rfl (hsw.mono mup) (by simp [dM,oneB,strV]) (by simp only [List.length_map,maxLen];omega) (by simp only [List.length_map];omega) (fun _=>rfl) (fun v32=>?_)
    refine D.q5 1 4 8 17 18 19 hR ?_;clear hR R
    refine G.rg fun R hR=>?_
    refine D.am _ ?_
    refine D.q5 1 4 8 17 18 19 hR ?_;clear hR R
    refine G.ba (L':=[.arr v32 54 1 (ls.take (j+1)).flatten.length ((ls.take (j+1)).flatten.map dM).flatten]) (by rw [flat_step hlj,List.map_append,List.flatten_append,List.length_append,List.length_map];rfl) ?_
    refine G.au (m':=ls.length-(j+1)) (by omega) mup (h_5 4 8 17 18 19) ⟨j+1,v32,⟨by omega,firstErr_step hno (by simp only [hgd];exact he)⟩,rfl,rfl,rfl⟩
  ·have hjl:j=ls.length:=by
    have:=of_decide_eq_false h20
    omega
   subst hjl
   have hz:valE s (bp B) ls=0:=by unfold valE;rw [if_pos heq];exact hno
   rw [List.take_length]
   refine G.z2 3 6 7 ?_
   refine G.freezeArr 0 (ls.flatten.map dM) rfl rfl (by intro r hr;obtain ⟨y,_,rfl⟩:=List.mem_map.1 hr;rfl) (by rw [List.length_map]) (fun Cg hg hsl3=>?_)
   refine G.aA (G.dropAll (G.aP rfl rfl rfl ?_))
   exact ⟨rfl,_,by rw [hz],by rw [if_pos hz];exact hsl3⟩

def dotV (f x:List Rat):Nat->Rat
 | 0=>0
 | n+1=>dotV f x n+f.getD n 0*x.getD n 0
def badR (x:List Rat)(r:RowQ):Bool:=decide (r.b<dotV r.f x r.f.length)
structure DotOk (r:RowQ)(x:List Rat):Prop where
 f:∀ q∈r.f,QB 22 q
 b:QB 22 r.b
 len:r.f.length=x.length
 s:∀ n,QB 2000 (dotV r.f x n)
theorem cfails_fn (C:Mem)(hT:Tabs C)(fv xv:Value)(r:RowQ)(x:List Rat)(hf:Sl C 1 fv (r.f.map encQ))(hx:Sl C 1 xv (x.map encQ))(hxq:∀ q∈x,QB 22 q)(hd:DotOk r x)(hxl:x.length<=1000) :
  Gives cx.P 65 [.agg ⟨[fv,strV (qtx r.b)]⟩,xv] C (.bool (badR x r)):=by
 obtain ⟨A0,c0,rfl,hc1,hc2,_⟩:=id hf
 obtain ⟨A1,c1,rfl,hc3,hc4,_⟩:=id hx
 have hlen:=hd.len
 have hmx:maxLen<=9223372036854775807:=by simp [maxLen]
 simp only [List.length_map] at hf hx hc1 hc3 ⊢
 refine Fn.it (by kernel_rfl) Tryz.func65 32 fun w0=>?_
 refine G.rg fun R hR=>?_
 refine D.aE (fun b2=>?_)
 refine D.q2 1 1 2 hR ?_
 refine G.z3 1 1 2 5 ?_
 refine G.freeze 0 rfl (fun C2 hle2 hb2=>?_)
 refine G.rp 1 fun R hR=>?_
 refine D.aa (bkT hb2 1) ?_
 refine D.q6 2 1 2 5 9 10 11 hR ?_
 refine G.loop (fun fr C' L' μ=>∃ (i:Nat)(s:Str),(i<=r.f.length/\s=qtx (dotV r.f x i))/\fr=[(1,[],.slice A1 x.length c1),(2,[],.pointer (some ⟨b2,0,none⟩)),(5,[],strV s),(9,[],.slice A0 r.f.length c0),(10,[],.int .i64 r.f.length),(11,[],.int .i64 i)]/\L'=[]/\μ=r.f.length-i) (h_6 1 2 5 9 10 11) ⟨0,[48],⟨Nat.zero_le _,qtx_zero.symm⟩,rfl,rfl,rfl⟩ (fun fr C0' L0' m hle0 hI=>?_)
 obtain ⟨i,s,⟨hi,hse⟩,rfl,rfl,rfl⟩:=hI
 refine G.z7 1 1 2 5 9 10 11 12 ?_
 refine G.cd (fun h12=>?_) fun h12=>?_
 ·have hil:i<r.f.length:=by
   have:=of_decide_eq_true h12
   omega
  obtain ⟨q,hq⟩:∃ q,r.f[i]?=some q:=⟨r.f[i],List.getElem?_eq_getElem hil⟩
  obtain ⟨y,hy⟩:∃ y,x[i]?=some y:=⟨x[i]'(by omega),List.getElem?_eq_getElem (by omega)⟩
  have hqb:=hd.f q (List.mem_of_getElem? hq)
  have hyb:=hxq y (List.mem_of_getElem? hy)
  have hstep:dotV r.f x (i+1)=dotV r.f x i+q*y:=by
   simp only [dotV]
   rw [List.getD_eq_getElem?_getD,hq,List.getD_eq_getElem?_getD,hy]
   rfl
  subst hse
  refine G.rp 1 fun R hR=>?_
  refine D.ap (hf.mono mup) rfl rfl rfl rfl rfl rfl rfl rfl rfl rfl (by omega) (bl hq) (fun _=>rfl) (fun p14 hp14=>?_)
  refine D.aa hp14 ?_
  refine D.q8 2 1 2 5 6 7 9 10 11 hR ?_
  refine G.z9 2 1 2 5 6 7 9 10 11 17 ?_
  refine G.cd (fun h17=>?_) fun h17=>?_
  ·skip
   refine G.rp 4 fun R hR=>?_
   refine D.ap (hx.mono mup) rfl rfl rfl rfl rfl rfl rfl rfl rfl rfl (by omega) (bl hy) (fun _=>rfl) (fun p22 hp22=>?_)
   refine D.aa hp22 ?_
   refine D.af (dB _ (hT.mono mup) q y 22 (by decide) (by decide) hqb hyb) rfl rfl rfl rfl rfl rfl rfl (fun _=>rfl) ?_
   refine D.af (radd_fn _ (hT.mono mup) (dotV r.f x i) (q*y) 2000 (by decide) (by decide) (hd.s i) ((fu hqb hyb).le (by decide))) rfl rfl rfl rfl rfl rfl rfl (fun _=>rfl) ?_
   refine D.q6 1 1 2 5 9 10 11 hR ?_
   refine G.rg fun R hR=>?_
   refine D.am _ ?_
   refine D.q6 1 1 2 5 9 10 11 hR ?_
   refine G.au (m':=r.f.length-(i+1)) (by omega) hle0 (h_6 1 2 5 9 10 11) ⟨i+1,_,⟨by omega,by rw [hstep]⟩,rfl,rfl,rfl⟩
  ·have hq0:q=0:=by
    have h:(!decide (q=0))=false:=by rw [<- dF];exact h17
    simpa using h
   refine G.rg fun R hR=>?_
   refine D.am _ ?_
   refine D.q6 1 1 2 5 9 10 11 hR ?_
   refine G.au (m':=r.f.length-(i+1)) (by omega) hle0 (h_6 1 2 5 9 10 11) ⟨i+1,_,⟨by omega,by rw [hstep,hq0,Rat.zero_mul,Rat.add_zero]⟩,rfl,rfl,rfl⟩
 ·have hil:i=r.f.length:=by
   have:=of_decide_eq_false h12
   omega
  subst hil
  subst hse
  refine G.rp 2 fun R hR=>?_
  refine D.aa (bkT hb2 1) ?_
  refine D.af (fb _ (hT.mono mup) (dotV r.f x r.f.length) r.b 2000 (by decide) (by decide) (hd.s _) (hd.b.le (by decide))) rfl rfl rfl rfl rfl rfl rfl (fun _=>rfl) ?_
  refine D.q1 2 4 hR ?_
  refine G.rf ?_
  exact ⟨by unfold badR;rw [cmpQ_gt],rfl⟩
theorem bad1_fn (C:Mem)(hT:Tabs C)(fv xv:Value)(b:Nat)(r:RowQ)(x:List Rat)(hb:C b=some (.cells ⟨[xv]⟩ 38 (0,0)))(hf:Sl C 1 fv (r.f.map encQ))(hx:Sl C 1 xv (x.map encQ))(hxq:∀ q∈x,QB 22 q)(hd:DotOk r x)(hxl:x.length<=1000) :
  Gives cx.P 64 [.agg ⟨[fv,strV (qtx r.b)]⟩,.pointer (some ⟨b,0,none⟩)] C (.bool (badR x r)):=by
 obtain ⟨A1,c1,rfl,hc3,hc4,_⟩:=id hx
 obtain ⟨A0,c0,rfl,hc1,hc2,_⟩:=id hf
 refine Fn.it (by kernel_rfl) Tryz.func64 7 fun w0=>?_
 refine G.rg fun R hR=>?_
 refine D.aE (fun b2=>?_)
 refine D.q2 1 1 2 hR ?_
 refine G.rg fun R hR=>?_
 refine D.ag (.head _) ?_
 refine D.aa (bkT hb 1) ?_
 refine D.ah (cfails_fn _ (hT.mono mup) _ _ r x (hf.mono mup) (hx.mono mup) hxq hd hxl) ?_
 refine D.q1 1 3 hR ?_
 refine G.rf ?_
 exact ⟨rfl,rfl⟩
theorem indexFuncR_fn (C:Mem)(v:Value)(l:List RowQ)(g:Nat)(ca:List Value)(pb:RowQ->Bool)(hv:RowsIn C v l)(_hen:Jog.Enters cx.P g=true)
  (hp:∀ x∈l,∀ (D:Mem)(fv:Value),C.le D->Sl D 1 fv (x.f.map encQ)->Gives cx.P g (.agg ⟨[fv,strV (qtx x.b)]⟩::ca) D (.bool (pb x))) :
  Gives cx.P 117 [v,.func (.func g) #[] ⟨ca⟩] C (.int .i64 (idxF pb l 0)):=by
 obtain ⟨vs,hok,hsv⟩:=hv
 obtain ⟨A0,c0,rfl,hc1,hc2,_⟩:=id hsv
 have hmx:maxLen<=9223372036854775807:=by simp [maxLen]
 simp only [cV hok.1] at hsv hc1 ⊢
 refine Fn.it (by kernel_rfl) Tryz.func117 19 fun w0=>?_
 refine G.z2 1 0 1 ?_
 refine G.z4 3 0 1 7 8 ?_
 refine G.loop (fun fr C' L' μ=>∃ (i:Nat),(i<=l.length/\∀ y∈l.take i,pb y=false)/\fr=[(0,[],.slice A0 l.length c0),(1,[],.func (.func g) #[] ⟨ca⟩),(7,[],.int .i64 l.length),(8,[],.int .i64 i)]/\L'=[]/\μ=l.length-i) (h_4 0 1 7 8) ⟨0,⟨Nat.zero_le _,by simp⟩,rfl,rfl,rfl⟩ (fun fr C0' L0' m hle0 hI=>?_)
 obtain ⟨i,⟨hi,hno⟩,rfl,rfl,rfl⟩:=hI
 refine G.z5 1 0 1 7 8 9 ?_
 refine G.cd (fun h9=>?_) fun h9=>?_
 ·have hil:i<l.length:=by simpa using h9
  obtain ⟨x,hx⟩:∃ x,l[i]?=some x:=⟨l[i],List.getElem?_eq_getElem hil⟩
  obtain ⟨w,hw⟩:∃ w,vs[i]?=some w:=⟨vs[i]'(by rw [hok.1];exact hil),List.getElem?_eq_getElem _⟩
  have hsw:=hok.2 i w x hw hx
  refine G.z5 2 0 1 5 7 8 ?_
  refine G.rp 3 fun R hR=>?_
  refine D.ap (hsv.mono mup) rfl rfl rfl rfl rfl rfl rfl rfl rfl rfl (by omega) (rowCells_at hw hx) (fun _=>rfl) (fun p14 hp14=>?_)
  refine D.aa hp14 ?_
  refine D.ah (hp x (List.mem_of_getElem? hx) _ w mup (hsw.mono mup)) ?_
  refine D.e6 0 1 5 7 8 16 hR ?_
  refine G.cd (fun h16=>?_) fun h16=>?_
  ·have hyes:pb x=true:=h16
   refine G.z1 2 4 ?_
   refine G.rf ?_
   exact ⟨by rw [idxF_hit hx hyes hno,Nat.zero_add],rfl⟩
  ·have hn:pb x=false:=h16
   refine G.rg fun R hR=>?_
   refine D.am _ ?_
   refine D.q4 1 0 1 7 8 hR ?_
   refine G.au (m':=l.length-(i+1)) (by omega) hle0 (h_4 0 1 7 8) ⟨i+1,⟨by omega,fun y hy=>by
    rw [List.take_add_one,hx] at hy
    rcases List.mem_append.1 hy with hy | hy
    ·exact hno y hy
    ·simp only [Option.toList_some,List.mem_singleton] at hy
     subst hy
     exact hn⟩,rfl,rfl,rfl⟩
 ·have hil:i=l.length:=by
   have:¬ i<l.length:=by simpa using h9
   omega
  refine G.z1 1 4 ?_
  refine G.rf ?_
  exact ⟨by rw [hil,List.take_length] at hno;rw [idxF_miss hno],rfl⟩
theorem containsFuncR_fn (C:Mem)(v:Value)(l:List RowQ)(g:Nat)(ca:List Value)(pb:RowQ->Bool)(hv:RowsIn C v l)(hen:Jog.Enters cx.P g=true)
  (hp:∀ x∈l,∀ (D:Mem)(fv:Value),C.le D->Sl D 1 fv (x.f.map encQ)->Gives cx.P g (.agg ⟨[fv,strV (qtx x.b)]⟩::ca) D (.bool (pb x))) :
  Gives cx.P 66 [v,.func (.func g) #[] ⟨ca⟩] C (.bool (l.any pb)):=by
 refine Fn.it (by kernel_rfl) Tryz.func66 9 fun w0=>?_
 refine G.z2 1 0 1 ?_
 refine G.rp 2 fun R hR=>?_
 refine D.ah (indexFuncR_fn _ v l g ca pb (hv.mono mup) hen (fun x hx D fv hD=>hp x hx D fv (Mem.le.trans mup hD))) ?_
 refine D.q1 2 4 hR ?_
 refine G.rf ?_
 refine ⟨?_,rfl⟩
 congr 1
 rcases idxF_cases pb l with ⟨h1,h2⟩ | ⟨i,x,h1,h2,h3,_⟩
 ·rw [h1,List.any_eq_false.2 (fun y hy=>by rw [h2 y hy];decide)]
  rfl
 ·rw [h1,List.any_eq_true.2 ⟨x,List.mem_of_getElem? h2,h3⟩]
  exact decide_eq_true (by omega)

def failsL (B:Bk)(RO:Nat->List RowQ)(x:List Rat):List Int:=(if (dE B).any (badR x) then [-1] else [])++((List.range B.obs.length).filter fun i=>(RO i).any (badR x)).map fun i:Nat=>(i:Int)
def txs (lq:List (List Rat)):List (List Str):=lq.map fun l=>l.map qtx
theorem txs_flat (lq:List (List Rat)):(txs lq).flatten.map dM=lq.flatten.map encQ:=by
 unfold txs
 rw [<- List.map_flatten,List.map_map]
 rfl
theorem fails_fn (C:Mem)(hT:Tabs C)(bv sv:Value)(B:Bk)(fs:List Rat)(RO:Nat->List RowQ)(lq:List (List Rat))(hB:BookIn C bv B)(hRr:Rich B fs RO)(hol:B.obs.length<=100)(hs:FieldsIn C sv (txs lq))(hq:∀ l∈lq,∀ q∈l,QB 22 q)(hll:lq.length<=100)
  (hd:valE (bs B) (bp B) (txs lq)=0->lq.flatten.length<=1000/\(∀ r∈dE B,DotOk r lq.flatten)/\∀ i,i<B.obs.length->∀ r∈RO i,DotOk r lq.flatten) :
  Pur cx.P 31 [bv,sv] C fun u D=>∃ w,u=.tuple #[w,.int .i64 (valE (bs B) (bp B) (txs lq))]/\Sl D 1 w ((if valE (bs B) (bp B) (txs lq)=0 then failsL B RO lq.flatten else []).map encI):=by
 have hB0:=hB
 have hZ:=hRr.bookz hT hB
 have hG:=hRr.good
 have hxq:∀ q∈lq.flatten,QB 22 q:=fun q hqm=>by
  obtain ⟨l,hl,hql⟩:=List.mem_flatten.1 hqm
  exact hq l hl q hql
 have hst:∀ l∈txs lq,∀ x∈l,x.length<=999998:=by
  intro l hl x hx
  unfold txs at hl
  obtain ⟨m,hm,rfl⟩:=List.mem_map.1 hl
  obtain ⟨q,hqm,rfl⟩:=List.mem_map.1 hx
  exact dZ (hq m hm q hqm)
 have htl:(txs lq).length=lq.length:=by simp [txs]
 obtain ⟨v1,v2,tv,cv,ov,rfl,h1,h2,h3,h4,h5⟩:=id hB.ex
 obtain ⟨A5,c5,rfl,hq5,hq6,_⟩:=id h5
 have hmx:maxLen<=9223372036854775807:=by simp [maxLen]
 simp only [List.length_map] at h5 hq5 hB0 hZ ⊢
 refine Fn.it (by kernel_rfl) Tryz.func31 67 fun w0=>?_
 refine G.rg fun R hR=>?_
 refine D.aE (fun b2=>?_)
 refine D.q2 2 1 2 hR ?_;clear hR R
 refine G.freeze 0 rfl (fun C2 hle2 hb2=>?_)
 refine G.rg fun R hR=>?_
 refine D.aa (bkT hb2 5) ?_
 refine D.ah (of_ok _ _ B (hZ.mono mup) hRr.h60) ?_
 refine D.ps 3 ?_
 refine D.aq (fun b6=>?_)
 refine D.aj (j:=0) ?_
 refine D.q4 1 1 2 6 7 hR ?_;clear hR R
 refine G.z5 2 1 2 6 7 20 ?_
 refine G.cd (fun h20=>?_) fun h20=>?_
 ·exact absurd h20 (by decide)
 ·refine G.freeze 0 rfl (fun C6 hle6 hb6=>?_)
  refine G.rg fun R hR=>?_
  refine D.aa (bkT hb6 2) ?_
  refine D.aa (bkT hb2 5) ?_
  refine D.ae ?_
  refine D.aM (values_fn _ (hT.mono mup) _ _ B (bs B) (txs lq) (hB0.mono mup) hG (hs.mono mup) hst (by omega)) rfl rfl rfl rfl rfl rfl rfl (fun _=>rfl) (fun v26 C26 hle26 hq26=>?_)
  obtain ⟨wv,rfl,hwv⟩:=hq26
  obtain ⟨Aw,cw,rfl,_⟩:=id hwv
  refine D.ps 3 ?_
  refine D.aq (fun b8=>?_)
  refine D.aj (j:=0) ?_
  refine D.q4 1 2 6 7 8 hR ?_;clear hR R
  refine G.z5 2 2 6 7 8 30 ?_
  refine G.cd (fun h30=>?_) fun h30=>?_
  ·have he:valE (bs B) (bp B) (txs lq)≠0:=by
    intro e
    rw [e] at h30
    exact absurd h30 (by decide)
   refine G.z2 3 4 5 ?_
   refine G.aA (G.dropAll (G.aP rfl rfl rfl ?_))
   exact ⟨rfl,.slice none 0 0,rfl,by rw [if_neg he];exact Sl.nil _ _⟩
  ·have he:valE (bs B) (bp B) (txs lq)=0:=by simpa using h30
   obtain ⟨hfl,hdT,hdO⟩:=hd he
   rw [if_pos he,txs_flat] at hwv
   simp only [if_pos he,txs_flat,List.length_map]
   refine G.z4 1 2 6 8 9 ?_
   refine G.freeze 0 rfl (fun C8 hle8 hb8=>?_)
   simp only [List.length_map] at hb8 hwv
   have hwl:(((txs lq).flatten).map dM).length=lq.flatten.length:=by rw [txs_flat,List.length_map]
   have hclo:∀ (r:RowQ),DotOk r lq.flatten->∀ (D:Mem)(fv:Value),C8.le D->Sl D 1 fv (r.f.map encQ)->Gives cx.P 64 [.agg ⟨[fv,strV (qtx r.b)]⟩,.pointer (some ⟨b8,0,none⟩)] D (.bool (badR lq.flatten r)):=fun r hr D fv hD hf=>bad1_fn D (hT.mono (Mem.le.trans mup hD)) fv _ b8 r lq.flatten (hD _ _ hb8) hf (hwv.mono (Mem.le.trans mup hD)) hxq hr hfl
   refine G.z4 2 2 6 9 10 ?_
   refine G.rg fun R hR=>?_
   refine D.aa (bkT hb6 2) ?_
   refine D.ae ?_
   refine D.aa (bkT hb2 1) ?_
   refine D.aU (thickness_fn _ (hT.mono mup) _ (bs B) (bp B) B.col (h4.mono mup) hRr.scol.1 hRr.h60 hRr.br.col) (fun v36 C36 hle36 hq36=>?_)
   refine D.ae ?_
   refine D.ah (containsFuncR_fn _ _ (dE B) 64 [.pointer (some ⟨b8,0,none⟩)] (badR lq.flatten) (RowsIn.mono hq36 mup) rfl (fun x hx D fv hD hf=>hclo x (hdT x hx) D fv (Mem.le.trans mup hD) hf)) ?_
   refine D.e5 2 6 9 10 38 hR ?_;clear hR R
   refine G.cut (fun fr C' L' μ=>∃ (w:Value),(True)/\fr=[(2,[],.pointer (some ⟨b2,0,none⟩)),(6,[],.pointer (some ⟨b6,0,none⟩)),(9,[],w),(10,[],.func (.func 64) #[] #[.pointer (some ⟨b8,0,none⟩)])]/\L'=[.arr w 3 1 (if (dE B).any (badR lq.flatten) then [(-1:Int)] else []).length ((if (dE B).any (badR lq.flatten) then [(-1:Int)] else []).map encI).flatten]) ?_ (fun fr C38 L38 μ hle38 hI=>?_)
   ·refine G.cd (fun h38=>?_) fun h38=>?_
    ·have hb:(dE B).any (badR lq.flatten)=true:=h38
     refine G.nilArr 3 1 ?_
     refine G.rp 1 fun R hR=>?_
     refine D.ai [encI (-1)] (fun p40 C40 hle40 hs40=>?_)
     refine D.append (j:=0) rfl rfl rfl rfl rfl rfl rfl rfl rfl rfl rfl hs40 rfl (by decide) (by decide) (fun _=>rfl) (fun v41=>?_)
     refine D.q4 1 2 6 9 10 hR ?_;clear hR R
     refine G.ba (L':=[.arr v41 3 1 (if (dE B).any (badR lq.flatten) then [(-1:Int)] else []).length ((if (dE B).any (badR lq.flatten) then [(-1:Int)] else []).map encI).flatten]) (by rw [if_pos hb];rfl) ?_
     refine G.ax 0 mup (h_4 2 6 9 10) ⟨v41,trivial,rfl,rfl⟩
    ·have hb:¬ (dE B).any (badR lq.flatten)=true:=by rw [show (dE B).any (badR lq.flatten)=false from h38];decide
     refine G.nilArr 3 1 ?_
     refine G.ba (L':=[.arr (.slice none 0 0) 3 1 (if (dE B).any (badR lq.flatten) then [(-1:Int)] else []).length ((if (dE B).any (badR lq.flatten) then [(-1:Int)] else []).map encI).flatten]) (by rw [if_neg hb];rfl) ?_
     refine G.ax 0 mup (h_4 2 6 9 10) ⟨.slice none 0 0,trivial,rfl,rfl⟩
   ·obtain ⟨w,_,rfl,rfl⟩:=hI
    obtain ⟨H,hH⟩:∃ H,(if (dE B).any (badR lq.flatten) then [(-1:Int)] else [])=H:=⟨_,rfl⟩
    have hHl:H.length<=1:=by rw [<- hH];split <;> simp
    have hfin:failsL B RO lq.flatten=H++((List.range B.obs.length).filter fun i=>(RO i).any (badR lq.flatten)).map fun i:Nat=>(i:Int):=by unfold failsL;rw [hH]
    rw [hH]
    refine G.rp 1 fun R hR=>?_
    refine D.aa (bkT hb2 1) ?_
    refine D.q6 2 2 6 9 10 44 45 hR ?_;clear hR R
    refine G.ba (L':=[.arr w 3 1 (H++((List.range 0).filter fun i=>(RO i).any (badR lq.flatten)).map fun i:Nat=>(i:Int)).length ((H++((List.range 0).filter fun i=>(RO i).any (badR lq.flatten)).map fun i:Nat=>(i:Int)).map encI).flatten]) (by simp) ?_
    refine G.loop (fun fr C' L' μ=>∃ (i:Nat)(w:Value),(i<=B.obs.length)/\fr=[(2,[],.pointer (some ⟨b2,0,none⟩)),(6,[],.pointer (some ⟨b6,0,none⟩)),(9,[],w),(10,[],.func (.func 64) #[] #[.pointer (some ⟨b8,0,none⟩)]),(44,[],.int .i64 B.obs.length),(45,[],.int .i64 i)]/\L'=[.arr w 3 1 (H++((List.range i).filter fun i=>(RO i).any (badR lq.flatten)).map fun i:Nat=>(i:Int)).length ((H++((List.range i).filter fun i=>(RO i).any (badR lq.flatten)).map fun i:Nat=>(i:Int)).map encI).flatten]/\μ=B.obs.length-i) (h_6 2 6 9 10 44 45) ⟨0,w,Nat.zero_le _,rfl,rfl,rfl⟩ (fun fr C0' L0' m hle0 hI=>?_)
    obtain ⟨i,w,hi,rfl,rfl,rfl⟩:=hI
    refine G.z7 1 2 6 9 10 44 45 46 ?_
    refine G.cd (fun h46=>?_) fun h46=>?_
    ·have hil:i<B.obs.length:=by
      have:=of_decide_eq_true h46
      omega
     have hcl:(H++((List.range i).filter fun i=>(RO i).any (badR lq.flatten)).map fun i:Nat=>(i:Int)).length<=200:=by
      rw [List.length_append,List.length_map]
      have:=List.length_filter_le (fun i=>(RO i).any (badR lq.flatten)) (List.range i)
      rw [List.length_range] at this
      omega
     refine G.z7 2 2 6 9 10 11 44 45 ?_
     refine G.rg fun R hR=>?_
     refine D.aa (bkT hb6 2) ?_
     refine D.aa (bkT hb2 5) ?_
     refine D.ae ?_
     refine D.aU (rowsX _ (hT.mono mup) _ B fs RO i (hB0.mono mup) hRr hil) (fun v52 C52 hle52 hq52=>?_)
     obtain ⟨rv,rfl,hrv⟩:=hq52
     refine D.q9 5 2 6 9 10 11 12 13 44 45 hR ?_;clear hR R
     refine G.z10 2 2 6 9 10 11 12 13 44 45 56 ?_
     refine G.cd (fun h56=>?_) fun h56=>?_
     ·exact absurd h56 (by decide)
     ·refine G.rp 2 fun R hR=>?_
      refine D.ah (containsFuncR_fn _ _ (RO i) 64 [.pointer (some ⟨b8,0,none⟩)] (badR lq.flatten) (hrv.mono mup) rfl (fun x hx D fv hD hf=>hclo x (hdO i hil x hx) D fv (Mem.le.trans mup hD) hf)) ?_
      refine D.e8 2 6 9 10 11 44 45 60 hR ?_;clear hR R
      refine G.cd (fun h60=>?_) fun h60=>?_
      ·have hb:(RO i).any (badR lq.flatten)=true:=h60
       have hstep:((List.range (i+1)).filter fun i=>(RO i).any (badR lq.flatten))=((List.range i).filter fun i=>(RO i).any (badR lq.flatten))++[i]:=by rw [List.range_succ,List.filter_append,List.filter_cons,if_pos hb];rfl
       refine G.rp 2 fun R hR=>?_
       refine D.ai [encI (i:Nat)] (fun p63 C63 hle63 hs63=>?_)
       refine D.append (j:=0) rfl rfl rfl rfl rfl rfl rfl rfl rfl rfl rfl hs63 rfl (by simp only [List.length_singleton,maxLen];omega) (by simp only [List.length_singleton];omega) (fun _=>rfl) (fun v64=>?_)
       refine D.q6 1 2 6 9 10 44 45 hR ?_;clear hR R
       refine G.rg fun R hR=>?_
       refine D.am _ ?_
       refine D.q6 1 2 6 9 10 44 45 hR ?_;clear hR R
       refine G.ba (L':=[.arr v64 3 1 (H++((List.range (i+1)).filter fun i=>(RO i).any (badR lq.flatten)).map fun i:Nat=>(i:Int)).length ((H++((List.range (i+1)).filter fun i=>(RO i).any (badR lq.flatten)).map fun i:Nat=>(i:Int)).map encI).flatten]) (by rw [hstep];simp [encI];omega) ?_
       refine G.au (m':=B.obs.length-(i+1)) (by omega) mup (h_6 2 6 9 10 44 45) ⟨i+1,v64,(by omega),rfl,rfl,rfl⟩
      ·have hb:¬ (RO i).any (badR lq.flatten)=true:=by rw [show (RO i).any (badR lq.flatten)=false from h60];decide
       have hstep:((List.range (i+1)).filter fun i=>(RO i).any (badR lq.flatten))=((List.range i).filter fun i=>(RO i).any (badR lq.flatten)):=by rw [List.range_succ,List.filter_append,List.filter_cons,if_neg hb];simp
       refine G.rg fun R hR=>?_
       refine D.am _ ?_
       refine D.q6 1 2 6 9 10 44 45 hR ?_;clear hR R
       refine G.ba (L':=[.arr w 3 1 (H++((List.range (i+1)).filter fun i=>(RO i).any (badR lq.flatten)).map fun i:Nat=>(i:Int)).length ((H++((List.range (i+1)).filter fun i=>(RO i).any (badR lq.flatten)).map fun i:Nat=>(i:Int)).map encI).flatten]) (by rw [hstep]) ?_
       refine G.au (m':=B.obs.length-(i+1)) (by omega) mup (h_6 2 6 9 10 44 45) ⟨i+1,w,(by omega),rfl,rfl,rfl⟩
    ·have hil:i=B.obs.length:=by
      have:=of_decide_eq_false h46
      omega
     subst hil
     rw [<- hfin]
     refine G.z2 3 4 5 ?_
     refine G.freezeArr 0 ((failsL B RO lq.flatten).map encI) rfl rfl (by intro r hr;obtain ⟨y,_,rfl⟩:=List.mem_map.1 hr;rfl) (by rw [List.length_map]) (fun Cg hg hsl3=>?_)
     refine G.aA (G.dropAll (G.aP rfl rfl rfl ?_))
     exact ⟨rfl,_,by rw [he],hsl3⟩

def sqP:List (Int × Int):=[(0,0),(4,0),(4,4),(0,4)]
def shP:Nat->List (Int × Int)
 | 0=>sqP
 | 1=>sqP
 | 2=>sqP++[(2,1)]
 | 3=>[(0,0),(6,0),(0,4)]
 | 4=>[(0,0),(2,0),(4,0),(0,2),(2,2),(4,2)]
 | 5=>[(1,4),(5,3),(4,0),(0,0)]
 | 6=>sqP++[(2,0)]
 | _=>[(0,0),(6,0),(0,6),(2,2)]
def shT:Nat->List Tri
 | 0=>[(0,1,2),(0,2,3)]
 | 1=>[(0,1,3),(1,2,3)]
 | 2=>[(0,1,4),(1,2,4),(2,3,4),(3,0,4)]
 | 3=>[(2,0,1)]
 | 4=>[(0,1,4),(0,4,3),(1,2,5),(1,5,4)]
 | 5=>[(3,2,1),(3,1,0)]
 | 6=>[(0,4,3),(4,2,3),(4,1,2)]
 | _=>[(0,1,3),(1,2,3),(2,0,3)]
def encII (p:Int × Int):List Value:=[.int .i64 p.1,.int .i64 p.2]
def ShIn (u:Value)(D:Mem)(m:Nat):Prop:=∃ pv tv,u=.tuple #[pv,tv]/\Sl D 2 pv ((shP m).map encII)/\Sl D 3 tv ((shT m).map encT)
theorem shape12_fn (C:Mem)(kd:Nat)(_hk:kd<256):Pur cx.P 78 [.int .u8 kd] C fun u D=>ShIn u D (kd % 8):=by
 have hm8:kd % 8<8:=Nat.mod_lt _ (by decide)
 obtain ⟨m,hm⟩:∃ m,kd % 8=m:=⟨_,rfl⟩
 refine Fn.it (by kernel_rfl) Tryz.func78 86 fun w0=>?_
 refine G.z1 2 0 ?_
 refine G.rg fun R hR=>?_
 refine D.ak ([.int .i64 0,.int .i64 0]) ?_
 refine D.ak ([.int .i64 4,.int .i64 0]) ?_
 refine D.ak ([.int .i64 4,.int .i64 4]) ?_
 refine D.ak ([.int .i64 0,.int .i64 4]) ?_
 refine D.aV [[.int .i64 0,.int .i64 0],[.int .i64 4,.int .i64 0],[.int .i64 4,.int .i64 4],[.int .i64 0,.int .i64 4]] rfl rfl rfl rfl rfl rfl rfl rfl rfl rfl rfl rfl (fun _=>rfl) (fun b9 C9 hle9 hs9=>?_)
 refine D.q2 1 0 4 hR ?_
 refine G.rp 1 fun R hR=>?_
 refine D.eu (kd) (8) rfl rfl rfl rfl rfl rfl (by omega) rfl rfl ?_
 refine D.e2 4 11 hR ?_
 refine G.z3 2 4 11 12 ?_
 refine G.cd (fun h12=>?_) fun h12=>?_
 ·have hX:kd % 8=0:=by
   have:=ci h12
   omega
  refine G.rp 1 fun R hR=>?_
  refine D.ak ([.int .i64 0,.int .i64 1,.int .i64 2]) ?_
  refine D.ak ([.int .i64 0,.int .i64 2,.int .i64 3]) ?_
  refine D.ai [[.int .i64 0,.int .i64 1,.int .i64 2],[.int .i64 0,.int .i64 2,.int .i64 3]] (fun p17 C17 hle17 hs17=>?_)
  refine D.q2 2 2 3 hR ?_
  refine G.aA (G.dropAll (G.aP rfl rfl rfl ?_))
  exact ⟨rfl,by rw [hX];exact ⟨_,_,rfl,hs9.mono mup,hs17.mono mup⟩⟩
 ·have hX0:kd % 8≠0:=by
   intro e
   rw [e] at h12
   exact absurd h12 (by decide)
  refine G.z3 2 4 11 18 ?_
  refine G.cd (fun h18=>?_) fun h18=>?_
  ·have hX:kd % 8=1:=by
    have:=ci h18
    omega
   refine G.rp 1 fun R hR=>?_
   refine D.ak ([.int .i64 0,.int .i64 1,.int .i64 3]) ?_
   refine D.ak ([.int .i64 1,.int .i64 2,.int .i64 3]) ?_
   refine D.ai [[.int .i64 0,.int .i64 1,.int .i64 3],[.int .i64 1,.int .i64 2,.int .i64 3]] (fun p23 C23 hle23 hs23=>?_)
   refine D.q2 2 2 3 hR ?_
   refine G.aA (G.dropAll (G.aP rfl rfl rfl ?_))
   exact ⟨rfl,by rw [hX];exact ⟨_,_,rfl,hs9.mono mup,hs23.mono mup⟩⟩
  ·have hX1:kd % 8≠1:=by
    intro e
    rw [e] at h18
    exact absurd h18 (by decide)
   refine G.z3 2 4 11 24 ?_
   refine G.cd (fun h24=>?_) fun h24=>?_
   ·have hX:kd % 8=2:=by
     have:=ci h24
     omega
    refine G.rp 1 fun R hR=>?_
    refine D.ak ([.int .i64 2,.int .i64 1]) ?_
    refine D.ai [[.int .i64 2,.int .i64 1]] (fun p28 C28 hle28 hs28=>?_)
    refine D.appendC rfl rfl rfl rfl rfl rfl rfl rfl rfl rfl (hs9.mono mup) (hs28.mono mup) (.inr (by decide)) (by simp only [List.length_cons,List.length_nil,maxLen];omega) (by decide) (fun _=>rfl) (fun v29 C29 hle29 hs29=>?_)
    refine D.ak ([.int .i64 0,.int .i64 1,.int .i64 4]) ?_
    refine D.ak ([.int .i64 1,.int .i64 2,.int .i64 4]) ?_
    refine D.ak ([.int .i64 2,.int .i64 3,.int .i64 4]) ?_
    refine D.ak ([.int .i64 3,.int .i64 0,.int .i64 4]) ?_
    refine D.ai [[.int .i64 0,.int .i64 1,.int .i64 4],[.int .i64 1,.int .i64 2,.int .i64 4],[.int .i64 2,.int .i64 3,.int .i64 4],[.int .i64 3,.int .i64 0,.int .i64 4]] (fun p34 C34 hle34 hs34=>?_)
    refine D.q2 2 2 3 hR ?_
    refine G.aA (G.dropAll (G.aP rfl rfl rfl ?_))
    exact ⟨rfl,by rw [hX];exact ⟨_,_,rfl,hs29.mono mup,hs34.mono mup⟩⟩
   ·have hX2:kd % 8≠2:=by
     intro e
     rw [e] at h24
     exact absurd h24 (by decide)
    refine G.z3 2 4 11 35 ?_
    refine G.cd (fun h35=>?_) fun h35=>?_
    ·have hX:kd % 8=3:=by
      have:=ci h35
      omega
     refine G.rg fun R hR=>?_
     refine D.ak ([.int .i64 0,.int .i64 0]) ?_
     refine D.ak ([.int .i64 6,.int .i64 0]) ?_
     refine D.ak ([.int .i64 0,.int .i64 4]) ?_
     refine D.ai [[.int .i64 0,.int .i64 0],[.int .i64 6,.int .i64 0],[.int .i64 0,.int .i64 4]] (fun p40 C40 hle40 hs40=>?_)
     refine D.ak ([.int .i64 2,.int .i64 0,.int .i64 1]) ?_
     refine D.ai [[.int .i64 2,.int .i64 0,.int .i64 1]] (fun p42 C42 hle42 hs42=>?_)
     refine D.q2 2 2 3 hR ?_
     refine G.aA (G.dropAll (G.aP rfl rfl rfl ?_))
     exact ⟨rfl,by rw [hX];exact ⟨_,_,rfl,hs40.mono mup,hs42.mono mup⟩⟩
    ·have hX3:kd % 8≠3:=by
      intro e
      rw [e] at h35
      exact absurd h35 (by decide)
     refine G.z3 2 4 11 43 ?_
     refine G.cd (fun h43=>?_) fun h43=>?_
     ·have hX:kd % 8=4:=by
       have:=ci h43
       omega
      refine G.rg fun R hR=>?_
      refine D.ak ([.int .i64 0,.int .i64 0]) ?_
      refine D.ak ([.int .i64 2,.int .i64 0]) ?_
      refine D.ak ([.int .i64 4,.int .i64 0]) ?_
      refine D.ak ([.int .i64 0,.int .i64 2]) ?_
      refine D.ak ([.int .i64 2,.int .i64 2]) ?_
      refine D.ak ([.int .i64 4,.int .i64 2]) ?_
      refine D.ai [[.int .i64 0,.int .i64 0],[.int .i64 2,.int .i64 0],[.int .i64 4,.int .i64 0],[.int .i64 0,.int .i64 2],[.int .i64 2,.int .i64 2],[.int .i64 4,.int .i64 2]] (fun p51 C51 hle51 hs51=>?_)
      refine D.ak ([.int .i64 0,.int .i64 1,.int .i64 4]) ?_
      refine D.ak ([.int .i64 0,.int .i64 4,.int .i64 3]) ?_
      refine D.ak ([.int .i64 1,.int .i64 2,.int .i64 5]) ?_
      refine D.ak ([.int .i64 1,.int .i64 5,.int .i64 4]) ?_
      refine D.ai [[.int .i64 0,.int .i64 1,.int .i64 4],[.int .i64 0,.int .i64 4,.int .i64 3],[.int .i64 1,.int .i64 2,.int .i64 5],[.int .i64 1,.int .i64 5,.int .i64 4]] (fun p56 C56 hle56 hs56=>?_)
      refine D.q2 2 2 3 hR ?_
      refine G.aA (G.dropAll (G.aP rfl rfl rfl ?_))
      exact ⟨rfl,by rw [hX];exact ⟨_,_,rfl,hs51.mono mup,hs56.mono mup⟩⟩
     ·have hX4:kd % 8≠4:=by
       intro e
       rw [e] at h43
       exact absurd h43 (by decide)
      refine G.z3 2 4 11 57 ?_
      refine G.cd (fun h57=>?_) fun h57=>?_
      ·have hX:kd % 8=5:=by
        have:=ci h57
        omega
       refine G.rg fun R hR=>?_
       refine D.ak ([.int .i64 1,.int .i64 4]) ?_
       refine D.ak ([.int .i64 5,.int .i64 3]) ?_
       refine D.ak ([.int .i64 4,.int .i64 0]) ?_
       refine D.ak ([.int .i64 0,.int .i64 0]) ?_
       refine D.ai [[.int .i64 1,.int .i64 4],[.int .i64 5,.int .i64 3],[.int .i64 4,.int .i64 0],[.int .i64 0,.int .i64 0]] (fun p63 C63 hle63 hs63=>?_)
       refine D.ak ([.int .i64 3,.int .i64 2,.int .i64 1]) ?_
       refine D.ak ([.int .i64 3,.int .i64 1,.int .i64 0]) ?_
       refine D.ai [[.int .i64 3,.int .i64 2,.int .i64 1],[.int .i64 3,.int .i64 1,.int .i64 0]] (fun p66 C66 hle66 hs66=>?_)
       refine D.q2 2 2 3 hR ?_
       refine G.aA (G.dropAll (G.aP rfl rfl rfl ?_))
       exact ⟨rfl,by rw [hX];exact ⟨_,_,rfl,hs63.mono mup,hs66.mono mup⟩⟩
      ·have hX5:kd % 8≠5:=by
        intro e
        rw [e] at h57
        exact absurd h57 (by decide)
       refine G.z2 2 4 67 ?_
       refine G.cd (fun h67=>?_) fun h67=>?_
       ·have hX:kd % 8=6:=by
         have:=ci h67
         omega
        refine G.rp 1 fun R hR=>?_
        refine D.ak ([.int .i64 2,.int .i64 0]) ?_
        refine D.ai [[.int .i64 2,.int .i64 0]] (fun p71 C71 hle71 hs71=>?_)
        refine D.appendC rfl rfl rfl rfl rfl rfl rfl rfl rfl rfl (hs9.mono mup) (hs71.mono mup) (.inr (by decide)) (by simp only [List.length_cons,List.length_nil,maxLen];omega) (by decide) (fun _=>rfl) (fun v72 C72 hle72 hs72=>?_)
        refine D.ak ([.int .i64 0,.int .i64 4,.int .i64 3]) ?_
        refine D.ak ([.int .i64 4,.int .i64 2,.int .i64 3]) ?_
        refine D.ak ([.int .i64 4,.int .i64 1,.int .i64 2]) ?_
        refine D.ai [[.int .i64 0,.int .i64 4,.int .i64 3],[.int .i64 4,.int .i64 2,.int .i64 3],[.int .i64 4,.int .i64 1,.int .i64 2]] (fun p76 C76 hle76 hs76=>?_)
        refine D.q2 2 2 3 hR ?_
        refine G.aA (G.dropAll (G.aP rfl rfl rfl ?_))
        exact ⟨rfl,by rw [hX];exact ⟨_,_,rfl,hs72.mono mup,hs76.mono mup⟩⟩
       ·have hX6:kd % 8≠6:=by
         intro e
         rw [e] at h67
         exact absurd h67 (by decide)
        refine G.rg fun R hR=>?_
        refine D.ak ([.int .i64 0,.int .i64 0]) ?_
        refine D.ak ([.int .i64 6,.int .i64 0]) ?_
        refine D.ak ([.int .i64 0,.int .i64 6]) ?_
        refine D.ak ([.int .i64 2,.int .i64 2]) ?_
        refine D.ai [[.int .i64 0,.int .i64 0],[.int .i64 6,.int .i64 0],[.int .i64 0,.int .i64 6],[.int .i64 2,.int .i64 2]] (fun p81 C81 hle81 hs81=>?_)
        refine D.ak ([.int .i64 0,.int .i64 1,.int .i64 3]) ?_
        refine D.ak ([.int .i64 1,.int .i64 2,.int .i64 3]) ?_
        refine D.ak ([.int .i64 2,.int .i64 0,.int .i64 3]) ?_
        refine D.ai [[.int .i64 0,.int .i64 1,.int .i64 3],[.int .i64 1,.int .i64 2,.int .i64 3],[.int .i64 2,.int .i64 0,.int .i64 3]] (fun p85 C85 hle85 hs85=>?_)
        refine D.q2 2 2 3 hR ?_
        refine G.aA (G.dropAll (G.aP rfl rfl rfl ?_))
        exact ⟨rfl,by rw [show kd % 8=7 by omega];exact ⟨_,_,rfl,hs81.mono mup,hs85.mono mup⟩⟩

theorem wrap_i8 {n:Int}(h1:-128<=n)(h2:n<128):IntKind.i8.wrap n=n:=by
 simp [IntKind.wrap,IntKind.bits,IntKind.signed]
 omega
theorem shP_bd:∀ m:Nat,∀ p∈shP m,0<=p.1/\p.1<=6/\0<=p.2/\p.2<=6
 | 0=>by decide
 | 1=>by decide
 | 2=>by decide
 | 3=>by decide
 | 4=>by decide
 | 5=>by decide
 | 6=>by decide
 | _+7=>by
  show ∀ p∈([(0,0),(6,0),(0,6),(2,2)]:List (Int × Int)),0<=p.1/\p.1<=6/\0<=p.2/\p.2<=6
  decide
theorem shP_len:∀ m:Nat,(shP m).length<=6
 | 0=>by decide
 | 1=>by decide
 | 2=>by decide
 | 3=>by decide
 | 4=>by decide
 | 5=>by decide
 | 6=>by decide
 | _+7=>by
  show ([(0,0),(6,0),(0,6),(2,2)]:List (Int × Int)).length<=6
  decide
def ptsK (m:Nat)(a b:Int)(h:Bool):List Pt:=(shP m).map fun p=>cB a b h p.1 p.2 1
theorem ptsK_len (m:Nat)(a b:Int)(h:Bool):(ptsK m a b h).length<=6:=by rw [ptsK,List.length_map];exact shP_len m
theorem divS_qb {z w:Int}(hw:w≠0)(hz:z.natAbs<1000000000)(hwl:w.natAbs<1000000000):QB 1 (divS z w):=by
 unfold divS
 refine mk_bound (by omega) ?_ ?_
 ·show _<B9 ^ 1
  split
  ·rw [Int.natAbs_neg];exact hz
  ·exact hz
 ·exact hwl
theorem place_qp {a b:Int}{h:Bool}{x y n:Int}(hn:0<n)(hn4:n<=4)(hx:-128<=x/\x<=127)(hy:-128<=y/\y<=127):QP 1 (cB a b h x y n):=by
 have ha:=tmod8 a
 have hb:=tmod8 b
 have hh:cM h=1∨cM h=2:=by cases h <;> simp [cM]
 have hprod:∀ z:Int, -8<z->z<8->-32<z*n/\z*n<32:=fun z h1 h2=>by
  rcases (by omega:n=1∨n=2∨n=3∨n=4) with e | e | e | e <;> subst e <;> omega
 have hpa:=hprod _ ha.1 ha.2
 have hpb:=hprod _ hb.1 hb.2
 have hd:0<cM h*n/\cM h*n<=8:=by rcases hh with e | e <;> rw [e] <;> omega
 exact ⟨divS_qb (by omega) (by omega) (by omega),divS_qb (by omega) (by omega) (by omega)⟩
theorem make12_fn (C:Mem)(hT:Tabs C)(kd:Nat)(a b:Int)(h:Bool)(hk:kd<256):Pur cx.P 37 [sheetV kd a b h] C fun u D=>MeshIn D u (ptsK (kd % 8) a b h) (shT (kd % 8)):=by
 have hbd:=shP_bd (kd % 8)
 have hlen:=shP_len (kd % 8)
 refine Fn.it (by kernel_rfl) Tryz.func37 42 fun w0=>?_
 refine G.rg fun R hR=>?_
 refine D.aE (fun b1=>?_)
 refine D.aq (fun b2=>?_)
 refine D.e2 1 2 hR ?_
 refine G.freeze 1 rfl (fun C1 hle1 hb1=>?_)
 refine G.rp 1 fun R hR=>?_
 refine D.aa (bkT hb1 1) ?_
 refine D.aU (shape12_fn _ kd hk) (fun v10 C10 hle10 hq10=>?_)
 obtain ⟨pv,tv,rfl,hpv,htv⟩:=hq10
 obtain ⟨Ap,cp,rfl,hcp1,hcp2,_⟩:=id hpv
 obtain ⟨At,ct,rfl,hct1,hct2,_⟩:=id htv
 simp only [List.length_map] at hpv htv hcp1 ⊢
 refine D.q4 5 1 2 3 4 hR ?_
 refine G.rp 1 fun R hR=>?_
 refine D.ak [.slice none 0 0,.slice At (shT (kd % 8)).length ct] ?_
 refine D.aq (fun b5=>?_)
 refine D.aj (j:=0) ?_
 refine D.e4 1 2 3 5 hR ?_
 refine G.z5 1 1 2 3 5 6 ?_
 refine G.nilArr 91 2 ?_
 refine G.perm (L':=[.obj b5 (.cells ⟨[.slice none 0 0,.slice At (shT (kd % 8)).length ct]⟩ 37 (0,0)),.arr (.slice none 0 0) 91 2 0 [],.obj b2 (.cells ⟨[.slice none 0 0,.slice none 0 0]⟩ 37 (0,0))]) (List.Perm.swap _ _ _) ?_
 refine G.loop (fun fr C' L' μ=>∃ (i:Nat)(w:Value),(i<=(shP (kd % 8)).length)/\fr=[(1,[],.pointer (some ⟨b1,0,none⟩)),(2,[],.pointer (some ⟨b2,0,none⟩)),(3,[],.slice Ap (shP (kd % 8)).length cp),(5,[],.pointer (some ⟨b5,0,none⟩)),(6,[],.int .i64 i)]/\L'=[.obj b5 (.cells ⟨[w,.slice At (shT (kd % 8)).length ct]⟩ 37 (0,0)),.arr w 91 2 ((ptsK (kd % 8) a b h).take i).length (((ptsK (kd % 8) a b h).take i).map encP).flatten,.obj b2 (.cells ⟨[.slice none 0 0,.slice none 0 0]⟩ 37 (0,0))]/\μ=(shP (kd % 8)).length-i) (h_5 1 2 3 5 6) ⟨0,.slice none 0 0,Nat.zero_le _,rfl,rfl,rfl⟩ (fun fr C0' L0' m hle0 hI=>?_)
 obtain ⟨i,w,hi,rfl,rfl,rfl⟩:=hI
 refine G.z6 4 1 2 3 5 6 18 ?_
 refine G.cd (fun h18=>?_) fun h18=>?_
 ·have hil:i<(shP (kd % 8)).length:=by
   have:=of_decide_eq_true h18
   omega
  obtain ⟨p,hp⟩:∃ p,(shP (kd % 8))[i]?=some p:=⟨(shP (kd % 8))[i],List.getElem?_eq_getElem hil⟩
  obtain ⟨hx1,hx2,hy1,hy2⟩:=hbd p (List.mem_of_getElem? hp)
  have hpk:(ptsK (kd % 8) a b h)[i]?=some (cB a b h p.1 p.2 1):=by unfold ptsK;rw [List.getElem?_map,hp];rfl
  have htk:(ptsK (kd % 8) a b h).take (i+1)=(ptsK (kd % 8) a b h).take i++[cB a b h p.1 p.2 1]:=by rw [List.take_add_one,hpk];rfl
  have htl:((ptsK (kd % 8) a b h).take i).length<=6:=by rw [List.length_take];have:=ptsK_len (kd % 8) a b h;omega
  refine G.aI [0,1,2,3,4,5,6,7,8,9,10,11,12,13,14,15,16,17,18,19,20] [(16,1),(8,0),(14,0)] rfl (by kernel_rfl) (fun R hB hR=>?_)
  refine D.ae ?_
  refine D.ag (.head _) ?_
  refine D.aa (bkT hb1 4) ?_
  refine D.ps 2 ?_
  refine D.ap (hpv.mono mup) rfl rfl rfl rfl rfl rfl rfl rfl rfl rfl (by omega) (bl hp) (fun _=>rfl) (fun p26 hp26=>?_)
  refine D.indexA rfl rfl rfl rfl rfl rfl rfl rfl rfl (fun _=>hp26) (fun _=>⟨by omega,(by omega)⟩) (fun _=>rfl) rfl (fun p27 hp270=>?_)
  have hp27:=hp270 trivial
  refine D.aa hp27 ?_
  refine D.fx (c:=p.1) rfl rfl rfl rfl rfl rfl rfl rfl (wrap_i8 (by omega) (by omega)) rfl rfl ?_
  refine D.ps 2 ?_
  refine D.ap (hpv.mono mup) rfl rfl rfl rfl rfl rfl rfl rfl rfl rfl (by omega) (bl hp) (fun _=>rfl) (fun p32 hp32=>?_)
  refine D.indexA rfl rfl rfl rfl rfl rfl rfl rfl rfl (fun _=>hp32) (fun _=>⟨by omega,(by omega)⟩) (fun _=>rfl) rfl (fun p33 hp330=>?_)
  have hp33:=hp330 trivial
  refine D.aa hp33 ?_
  refine D.fx (c:=p.2) rfl rfl rfl rfl rfl rfl rfl rfl (wrap_i8 (by omega) (by omega)) rfl rfl ?_
  refine D.ak [.int .i8 p.1,.int .i8 p.2] ?_
  refine D.aD (fun _=>(place_fn _ (hT.mono mup) kd a b h p.1 p.2 1 (by decide) (by decide) ⟨by omega,by omega⟩ ⟨by omega,by omega⟩)) rfl rfl rfl rfl rfl rfl rfl rfl rfl ?_
  refine D.ai [encP (cB a b h p.1 p.2 1)] (fun p38 C38 hle38 hs38=>?_)
  refine D.dj (j:=1) rfl rfl rfl rfl rfl rfl rfl rfl rfl rfl rfl (hs38.mono mup) rfl (by simp only [List.length_singleton,maxLen];omega) (by simp only [List.length_singleton];omega) (fun _=>rfl) (fun A39 n39 c39=>?_)
  refine D.ae ?_
  refine D.aj (j:=1) ?_
  refine D.e5 1 2 3 5 6 hR ?_
  refine G.rp 1 fun R hR=>?_
  refine D.am _ ?_
  refine D.q5 1 1 2 3 5 6 hR ?_
  refine G.ba (L':=[.obj b5 (.cells ⟨[.slice A39 n39 c39,.slice At (shT (kd % 8)).length ct]⟩ 37 (0,0)),.arr (.slice A39 n39 c39) 91 2 ((ptsK (kd % 8) a b h).take (i+1)).length (((ptsK (kd % 8) a b h).take (i+1)).map encP).flatten,.obj b2 (.cells ⟨[.slice none 0 0,.slice none 0 0]⟩ 37 (0,0))]) (by rw [htk,List.map_append,List.flatten_append,List.length_append];rfl) ?_
  refine G.au (m':=(shP (kd % 8)).length-(i+1)) (by omega) mup (h_5 1 2 3 5 6) ⟨i+1,_,(by omega),rfl,rfl,rfl⟩
 ·have hil:i=(shP (kd % 8)).length:=by
   have:=of_decide_eq_false h18
   omega
  have hfull:(ptsK (kd % 8) a b h).take i=ptsK (kd % 8) a b h:=List.take_of_length_le (by rw [hil,ptsK,List.length_map];exact Nat.le_refl _)
  rw [hfull]
  refine G.freezeArr 1 ((ptsK (kd % 8) a b h).map encP) rfl rfl (by intro r hr;obtain ⟨y,_,rfl⟩:=List.mem_map.1 hr;rfl) (by rw [List.length_map]) (fun Cg hg hsl3=>?_)
  obtain ⟨Aw,cw,rfl,_⟩:=id hsl3
  refine G.rg fun R hR=>?_
  refine D.ag (.head _) ?_
  refine D.aj (j:=1) ?_
  refine D.e1 2 hR ?_
  refine G.aA (G.ee (.head _) rfl rfl rfl rfl ?_)
  exact ⟨rfl,_,_,rfl,hsl3,htv.mono mup⟩

structure Hts where
 h0:Int
 h1:Int
 h2:Int
 h3:Int
 h4:Int
 h5:Int
 half:Bool
def htsL (H:Hts):List Int:=[H.h0,H.h1,H.h2,H.h3,H.h4,H.h5]
def htsC (H:Hts):List Value:=[.int .i8 H.h0,.int .i8 H.h1,.int .i8 H.h2,.int .i8 H.h3,.int .i8 H.h4,.int .i8 H.h5,.bool H.half]
def HtsR (H:Hts):Prop:=∀ z∈htsL H, -128<=z/\z<=127
def fsK (n:Nat)(H:Hts):List Rat:=(List.range n).map fun i=>divS (((htsL H).getD (i % 6) 0).tmod 20) (cM H.half)
theorem tmod20 (a:Int):-20<a.tmod 20/\a.tmod 20<20:=by
 have h:(a.tmod 20).natAbs=a.natAbs % 20:=Int.natAbs_tmod a 20
 omega
theorem halfZ_or (h:Bool):cM h=1∨cM h=2:=by cases h <;> simp [cM]
theorem fsK_len (n:Nat)(H:Hts):(fsK n H).length=n:=by simp [fsK]
theorem fsK_qb (n:Nat)(H:Hts):∀ q∈fsK n H,QB 1 q:=by
 intro q hq
 unfold fsK at hq
 obtain ⟨i,_,rfl⟩:=List.mem_map.1 hq
 have h1:=tmod20 ((htsL H).getD (i % 6) 0)
 have h2:=halfZ_or H.half
 exact divS_qb (by omega) (by omega) (by omega)
theorem htsC_at (H:Hts)(j:Nat)(hj:j<6):((htsC H).drop j).take 1=[.int .i8 ((htsL H).getD j 0)]:=by
 rcases (by omega:j=0∨j=1∨j=2∨j=3∨j=4∨j=5) with rfl | rfl | rfl | rfl | rfl | rfl <;> rfl
theorem d8 (C:Mem)(hT:Tabs C)(v1 v2:Value)(n:Nat)(A1:Option Addr)(c1:Nat)(H:Hts)(hv:v1=.slice A1 n c1)(hn:n<=400)(hH:HtsR H):Pur cx.P 30 [.agg ⟨[v1,v2]⟩,.agg ⟨htsC H⟩] C fun u D=>Sl D 1 u ((fsK n H).map encQ):=by
 subst hv
 obtain ⟨h0,h1,h2,h3,h4,h5,hf⟩:=H
 have hmx:maxLen<=9223372036854775807:=by simp [maxLen]
 refine Fn.it (by kernel_rfl) Tryz.func30 31 fun w0=>?_
 refine G.rg fun R hR=>?_
 refine D.aE (fun b2=>?_)
 refine D.aE (fun b3=>?_)
 refine D.q2 1 2 3 hR ?_;clear hR R
 refine G.freeze 1 rfl (fun C2 hle2 hb2=>?_)
 refine G.freeze 0 rfl (fun C3 hle3 hb3=>?_)
 refine G.rg fun R hR=>?_
 refine D.eV [] rfl rfl rfl rfl rfl rfl rfl rfl rfl rfl rfl rfl (fun _=>rfl) (fun b8=>?_)
 refine D.q3 1 2 3 5 hR ?_;clear hR R
 refine G.z4 1 2 3 5 6 ?_
 refine G.rp 1 fun R hR=>?_
 refine D.aa (bkT hb3 1) ?_
 refine D.e5 2 3 5 6 10 hR ?_;clear hR R
 refine G.cut (fun fr C' L' μ=>(True)/\fr=[(2,[],.pointer (some ⟨b2,0,none⟩)),(3,[],.pointer (some ⟨b3,0,none⟩)),(5,[],.slice (some ⟨b8,0,none⟩) 0 0),(6,[],.int .i64 (cM hf))]/\L'=[.arr (.slice (some ⟨b8,0,none⟩) 0 0) 54 1 0 []]) ?_ (fun fr C10 L10 μ hle10 hI=>?_)
 ·refine G.cd (fun h10=>?_) fun h10=>?_
  ·have h1:hf=true:=h10
   subst h1
   refine G.z4 1 2 3 5 6 ?_
   refine G.ax 0 (Mem.le.refl _) (h_4 2 3 5 6) ⟨trivial,rfl,rfl⟩
  ·have h1:hf=false:=h10
   subst h1
   refine G.ax 0 (Mem.le.refl _) (h_4 2 3 5 6) ⟨trivial,rfl,rfl⟩
 ·obtain ⟨_,rfl,rfl⟩:=hI
  refine G.z5 1 2 3 5 6 7 ?_
  refine G.loop (fun fr C' L' μ=>∃ (i:Nat)(w:Value),(i<=n)/\fr=[(2,[],.pointer (some ⟨b2,0,none⟩)),(3,[],.pointer (some ⟨b3,0,none⟩)),(5,[],w),(6,[],.int .i64 (cM hf)),(7,[],.int .i64 i)]/\L'=[.arr w 54 1 ((fsK n ⟨h0,h1,h2,h3,h4,h5,hf⟩).take i).length (((fsK n ⟨h0,h1,h2,h3,h4,h5,hf⟩).take i).map encQ).flatten]/\μ=n-i) (h_5 2 3 5 6 7) ⟨0,_,Nat.zero_le _,rfl,rfl,rfl⟩ (fun fr C0' L0' m hle0 hI=>?_)
  obtain ⟨i,w,hi,rfl,rfl,rfl⟩:=hI
  refine G.rp 2 fun R hR=>?_
  refine D.aa (bkT hb2 1) ?_
  refine D.q6 2 2 3 5 6 7 15 hR ?_;clear hR R
  refine G.cd (fun h15=>?_) fun h15=>?_
  ·have hil:i<n:=by
    have:=of_decide_eq_true h15
    omega
   have hi6:i % 6<6:=Nat.mod_lt _ (by decide)
   obtain ⟨z,hz⟩:∃ z,(htsL ⟨h0,h1,h2,h3,h4,h5,hf⟩).getD (i % 6) 0=z:=⟨_,rfl⟩
   have hat:=htsC_at ⟨h0,h1,h2,h3,h4,h5,hf⟩ (i % 6) hi6
   rw [hz] at hat
   have hzm:z∈htsL ⟨h0,h1,h2,h3,h4,h5,hf⟩:=by
    rw [<- hz,List.getD_eq_getElem?_getD,List.getElem?_eq_getElem (show i % 6<(htsL ⟨h0,h1,h2,h3,h4,h5,hf⟩).length from hi6),Option.getD_some]
    exact List.getElem_mem _
   have hzb:=hH z hzm
   have h20:=tmod20 z
   have hhf:=halfZ_or hf
   have htk:(fsK n ⟨h0,h1,h2,h3,h4,h5,hf⟩).take (i+1)=(fsK n ⟨h0,h1,h2,h3,h4,h5,hf⟩).take i++[divS (z.tmod 20) (cM hf)]:=by
    rw [List.take_add_one,show (fsK n ⟨h0,h1,h2,h3,h4,h5,hf⟩)[i]?=some (divS (z.tmod 20) (cM hf)) by unfold fsK;rw [List.getElem?_map,List.getElem?_range hil,<- hz];rfl]
    rfl
   have htl:((fsK n ⟨h0,h1,h2,h3,h4,h5,hf⟩).take i).length<=400:=by rw [List.length_take,fsK_len];omega
   refine G.rp 2 fun R hR=>?_
   refine D.eu (i) (6) rfl rfl rfl rfl rfl rfl (by omega) rfl rfl ?_
   refine D.ae ?_
   refine D.aw ((i % 6)) rfl rfl rfl rfl rfl rfl rfl rfl rfl (fun _=>⟨by omega,by omega,(by show i % 6=0+(i % 6)*1;omega)⟩) rfl rfl ?_
   refine D.fD (PtrTo.blockT (Mem.get hb3 mup) (i % 6) 1) rfl rfl rfl rfl rfl rfl (show cC _ (((htsC ⟨h0,h1,h2,h3,h4,h5,hf⟩).drop (i % 6)).take 1)=some (.int .i8 z) from by rw [hat];rfl) rfl ?_
   refine D.cY (c:=z) rfl rfl rfl rfl rfl rfl rfl rfl (wrap_i64 (by omega) (by omega)) (fun _=>rfl) ?_
   refine D.fA (z.tmod 20) rfl rfl rfl rfl rfl rfl (by decide) rfl rfl rfl ?_
   refine D.ae ?_
   refine D.af (of2_fn _ (hT.mono mup) (z.tmod 20) (cM hf) (by omega) (by omega) (by omega)) rfl rfl rfl rfl rfl rfl rfl (fun _=>rfl) ?_
   refine D.ai [encQ (divS (z.tmod 20) (cM hf))] (fun p28 C28 hle28 hs28=>?_)
   refine D.append (j:=0) rfl rfl rfl rfl rfl rfl rfl rfl rfl rfl rfl hs28 rfl (by simp only [List.length_singleton,maxLen];omega) (by simp only [List.length_singleton];omega) (fun _=>rfl) (fun v29=>?_)
   refine D.q5 1 2 3 5 6 7 hR ?_;clear hR R
   refine G.rp 1 fun R hR=>?_
   refine D.am _ ?_
   refine D.q5 1 2 3 5 6 7 hR ?_;clear hR R
   refine G.ba (L':=[.arr v29 54 1 ((fsK n ⟨h0,h1,h2,h3,h4,h5,hf⟩).take (i+1)).length (((fsK n ⟨h0,h1,h2,h3,h4,h5,hf⟩).take (i+1)).map encQ).flatten]) (by rw [htk,List.map_append,List.flatten_append,List.length_append];rfl) ?_
   refine G.au (m':=n-(i+1)) (by omega) mup (h_5 2 3 5 6 7) ⟨i+1,v29,(by omega),rfl,rfl,rfl⟩
  ·have hil:i=n:=by
    have:=of_decide_eq_false h15
    omega
   rw [show (fsK n ⟨h0,h1,h2,h3,h4,h5,hf⟩).take i=fsK n ⟨h0,h1,h2,h3,h4,h5,hf⟩ from List.take_of_length_le (by rw [hil,fsK_len];exact Nat.le_refl _)]
   refine G.z1 2 4 ?_
   refine G.freezeArr 0 ((fsK n ⟨h0,h1,h2,h3,h4,h5,hf⟩).map encQ) rfl rfl (by intro r hr;obtain ⟨y,_,rfl⟩:=List.mem_map.1 hr;rfl) (by rw [List.length_map]) (fun Cg hg hsl3=>?_)
   refine G.rf ?_
   exact ⟨rfl,hsl3⟩

structure Sgt where
 kind:Nat
 px:Int
 py:Int
 u0:Nat
 u1:Nat
 depth:Nat
 n0:Int
 n1:Int
 n2:Int
def sgtC (s:Sgt):List Value:=[.int .u8 s.kind,.int .i8 s.px,.int .i8 s.py,.int .u8 s.u0,.int .u8 s.u1,.int .u8 s.depth,.int .i8 s.n0,.int .i8 s.n1,.int .i8 s.n2]
structure SgtR (s:Sgt):Prop where
 kind:s.kind<256
 px:-128<=s.px/\s.px<=127
 py:-128<=s.py/\s.py<=127
 u0:s.u0<256
 u1:s.u1<256
 depth:s.depth<256
 n0:-128<=s.n0/\s.n0<=127
 n1:-128<=s.n1/\s.n1<=127
 n2:-128<=s.n2/\s.n2<=127
structure Sht where
 kd:Nat
 a:Int
 b:Int
 h:Bool
def planC (S:Sht)(H:Hts)(sv:Value):List Value:=[.int .u8 S.kd,.int .i8 S.a,.int .i8 S.b,.bool S.h,.int .i8 H.h0,.int .i8 H.h1,.int .i8 H.h2,.int .i8 H.h3,.int .i8 H.h4,.int .i8 H.h5,.bool H.half,sv]
def labU (i:Nat):Str:=[UInt8.ofNat (65+i)]
def ptAt (S:Sht)(s:Sgt):Pt :=
 if locL (ptsK (S.kd % 8) S.a S.b S.h) (shT (S.kd % 8)) (cB S.a S.b S.h s.px s.py 2)≠[] then cB S.a S.b S.h s.px s.py 2
 else (ptsK (S.kd % 8) S.a S.b S.h).getD (s.depth % (ptsK (S.kd % 8) S.a S.b S.h).length) (0,0)
def lastN (z:Int):Int:=if z.tmod 5=0 then 1 else z.tmod 5
def loU (s:Sgt):Nat:=if s.u0 % 3=s.u1 % 3 then 0 else s.u0 % 3
def upU (s:Sgt):Nat:=if s.u0 % 3=s.u1 % 3 then 1+s.u1 % 3 % 2 else s.u1 % 3
def obsK (S:Sht)(s:Sgt)(i:Nat):Obs :=
 if s.kind % 3=0 then ⟨1,[111,UInt8.ofNat (49+i)],qtx (ptAt S s).1,qtx (ptAt S s).2,[],labU (s.u1 % 3),[],[],[],[]⟩
 else if s.kind % 3=1 then ⟨2,[111,UInt8.ofNat (49+i)],qtx (ptAt S s).1,qtx (ptAt S s).2,qtx (divS (s.depth % 12:Nat) 2),labU (max (loU s) (upU s)),labU (min (loU s) (upU s)),[],[],[]⟩
 else ⟨3,[111,UInt8.ofNat (49+i)],qtx (ptAt S s).1,qtx (ptAt S s).2,[],labU (max (loU s) (upU s)),labU (min (loU s) (upU s)),qtx ((s.n0.tmod 5:Int):Rat),qtx ((s.n1.tmod 5:Int):Rat),qtx ((lastN s.n2:Int):Rat)⟩
theorem wrap_u8 {n:Int}(h1:0<=n)(h2:n<256):IntKind.u8.wrap n=n:=by
 simp only [IntKind.wrap,IntKind.bits,IntKind.signed]
 simp
 omega
theorem name_bytes (i:Nat)(hi:i<6):([[.int .u8 111],[.int .u8 (49+(i:Int))]]:List (List Value))=(([111,UInt8.ofNat (49+i)]:Str).map fun b=>[.int .u8 b.toNat]):=by
 rcases (by omega:i=0∨i=1∨i=2∨i=3∨i=4∨i=5) with rfl | rfl | rfl | rfl | rfl | rfl <;> rfl
theorem lab_at (j:Nat)(hj:j<3):(([strV [65],strV [66],strV [67]]:List Value).drop j).take 1=[strV (labU j)]:=by
 rcases (by omega:j=0∨j=1∨j=2) with rfl | rfl | rfl <;> rfl
theorem shP_pos:∀ m:Nat,0<(shP m).length
 | 0=>by decide
 | 1=>by decide
 | 2=>by decide
 | 3=>by decide
 | 4=>by decide
 | 5=>by decide
 | 6=>by decide
 | _+7=>by
  show 0<([(0,0),(6,0),(0,6),(2,2)]:List (Int × Int)).length
  decide
theorem tmod5 (a:Int):-5<a.tmod 5/\a.tmod 5<5:=by
 have h:(a.tmod 5).natAbs=a.natAbs % 5:=Int.natAbs_tmod a 5
 omega
theorem lo_le (s:Sgt):loU s<=2:=by unfold loU;split <;> omega
theorem up_le (s:Sgt):upU s<=2:=by unfold upU;split <;> omega
theorem qp1_ok {p:Pt}(h:QP 1 p):QP 23 p/\PtR p:=⟨⟨h.1.le (by decide),h.2.le (by decide)⟩,bf (h.1.le (by decide)),bf (h.2.le (by decide))⟩
theorem observation_fn (C:Mem)(hT:Tabs C)(S:Sht)(s:Sgt)(H:Hts)(sv:Value)(i:Nat)(hi:i<6)(hk:S.kd<256)(hs:SgtR s)(hG:Good (ptsK (S.kd % 8) S.a S.b S.h) (shT (S.kd % 8))) :
  Pur cx.P 38 [.agg ⟨planC S H sv⟩,.agg ⟨sgtC s⟩,.int .i64 i] C fun u _D=>u=.agg ⟨encO (obsK S s i)⟩:=by
 have hr1:=hs.kind
 have hr2:=hs.u0
 have hr3:=hs.u1
 have hr4:=hs.depth
 have hn0:=tmod5 s.n0
 have hn1:=tmod5 s.n1
 have hn2:=tmod5 s.n2
 have hlo:=lo_le s
 have hup:=up_le s
 have hq1:QP 1 (cB S.a S.b S.h s.px s.py 2):=place_qp (by decide) (by decide) hs.px hs.py
 obtain ⟨hq23,hqr⟩:=qp1_ok hq1
 obtain ⟨lo,hloe⟩:∃ n,loU s=n:=⟨_,rfl⟩
 obtain ⟨up,hupe⟩:∃ n,upU s=n:=⟨_,rfl⟩
 obtain ⟨p,hpe⟩:∃ p,ptAt S s=p:=⟨_,rfl⟩
 obtain ⟨lz,hlz⟩:∃ z,lastN s.n2=z:=⟨_,rfl⟩
 have hlzb:-5<lz/\lz<5:=by rw [<- hlz];unfold lastN;split <;> omega
 rw [hloe] at hlo
 rw [hupe] at hup
 have hpos:0<(ptsK (S.kd % 8) S.a S.b S.h).length:=by rw [ptsK,List.length_map];exact shP_pos _
 have hle6:=ptsK_len (S.kd % 8) S.a S.b S.h
 refine Fn.it (by kernel_rfl) Tryz.func38 129 fun w0=>?_
 refine G.rg fun R hR=>?_
 refine D.aE (fun b3=>?_)
 refine D.aE (fun b4=>?_)
 refine D.aq (fun b6=>?_)
 refine D.e4 2 3 4 6 hR ?_
 refine G.freeze 2 rfl (fun C1 hle1 hb1=>?_)
 refine G.freeze 1 rfl (fun C2 hle2 hb2=>?_)
 refine G.rp 1 fun R hR=>?_
 refine D.aa (bkT hb1 4) ?_
 refine D.aU (make12_fn _ (hT.mono mup) S.kd S.a S.b S.h hk) (fun v17 C17 hle17 hq17=>?_)
 obtain ⟨v1,v2,rfl,hm1,hm2⟩:=id hq17.ex
 obtain ⟨A1,c1,rfl,hc1,hc2,_⟩:=id hm1
 obtain ⟨A2,c2,rfl,_,_,_⟩:=id hm2
 simp only [List.length_map] at hm1 hc1 hq17 ⊢
 refine D.aq (fun b7=>?_)
 refine D.aj (j:=0) ?_
 refine D.e5 2 3 4 6 7 hR ?_
 refine G.freeze 0 rfl (fun C3 hle3 hb3=>?_)
 refine G.cut (fun fr C' L' μ=>∃ (b8:Nat),(True)/\fr=[(4,[],.pointer (some ⟨b4,0,none⟩)),(6,[],.pointer (some ⟨b6,0,none⟩)),(7,[],.pointer (some ⟨b7,0,none⟩)),(8,[],.pointer (some ⟨b8,0,none⟩))]/\L'=[.obj b8 (.cells ⟨[.int .i64 (1+((s.kind % 3:Nat):Int)),strV [111,UInt8.ofNat (49+i)],strV (qtx (cB S.a S.b S.h s.px s.py 2).1),strV (qtx (cB S.a S.b S.h s.px s.py 2).2),strV [],strV [],strV [],strV [],strV [],strV []]⟩ 95 (0,0)),.obj b6 (.cells ⟨[.int .i64 0,strV [],strV [],strV [],strV [],strV [],strV [],strV [],strV [],strV []]⟩ 95 (0,0))]) ?_ (fun fr Cr2 Lr2 μ hler2 hI=>?_)
 ·refine G.dr (.cut [0,1,2,3,4,5,6,7,10,11,12,13,14] (.alt 8 (.cut [] (.alt 9 (.fin [15,16,17]) (.alt 16 (.fin [9,15,17]) .stop))) (.alt 16 (.fin [8,9,15,17]) .stop))) [(14,1),(3,0),(6,0)] rfl rfl (by kernel_rfl) (fun R hB hR hH=>?_)
  refine D.ae ?_
  refine D.aa (bkT hb2 1) ?_
  refine D.eu (s.kind) (3) rfl rfl rfl rfl rfl rfl (by omega) rfl rfl ?_
  refine D.fx (c:=((s.kind % 3:Nat):Int)) rfl rfl rfl rfl rfl rfl rfl rfl (wrap_i64 (by omega) (by omega)) rfl rfl ?_
  refine D.am _ ?_
  refine D.ae ?_
  refine D.fx (c:=(i:Int)) rfl rfl rfl rfl rfl rfl rfl rfl (wrap_u8 (by omega) (by omega)) rfl rfl ?_
  refine D.int ((49+(i:Int))) rfl rfl rfl rfl (wrap_u8 (by omega) (by omega)) rfl rfl ?_
  refine D.ae ?_
  refine D.aa (bkT hb1 4) ?_
  refine D.ae ?_
  refine D.aa (bkT hb2 2) ?_
  refine D.aD (fun _=>(place_fn _ (hT.mono mup) S.kd S.a S.b S.h s.px s.py 2 (by decide) (by decide) hs.px hs.py)) rfl rfl rfl rfl rfl rfl rfl rfl rfl ?_
  refine D.cX hH rfl ⟨?_, ?_,trivial⟩
  ·refine D.ai [[.int .u8 111],[.int .u8 (49+(i:Int))]] (fun p26 C26 hle26 hs26=>?_)
   refine D.cX hH rfl ⟨?_, ?_,trivial⟩
   ·refine D.strOf (show Sl _ 1 _ (([111,UInt8.ofNat (49+i)]:Str).map fun b=>[.int .u8 b.toNat]) from by rw [<- name_bytes i hi];exact hs26.mono mup) rfl rfl rfl rfl rfl rfl rfl rfl rfl rfl rfl (fun _=>rfl) ?_
    refine D.ak [.int .i64 (1+((s.kind % 3:Nat):Int)),strV [111,UInt8.ofNat (49+i)],strV (qtx (cB S.a S.b S.h s.px s.py 2).1),strV (qtx (cB S.a S.b S.h s.px s.py 2).2),strV [],strV [],strV [],strV [],strV [],strV []] ?_
    refine D.aq (fun b8=>?_)
    refine D.aj (j:=0) ?_
    refine D.e4 4 6 7 8 hR ?_
    exact G.ax 0 mup (h_4 4 6 7 8) ⟨b8,trivial,rfl,rfl⟩
   ·refine D.aq (fun b8=>?_)
    refine D.strOf (show Sl _ 1 _ (([111,UInt8.ofNat (49+i)]:Str).map fun b=>[.int .u8 b.toNat]) from by rw [<- name_bytes i hi];exact hs26.mono mup) rfl rfl rfl rfl rfl rfl rfl rfl rfl rfl rfl (fun _=>rfl) ?_
    refine D.ak [.int .i64 (1+((s.kind % 3:Nat):Int)),strV [111,UInt8.ofNat (49+i)],strV (qtx (cB S.a S.b S.h s.px s.py 2).1),strV (qtx (cB S.a S.b S.h s.px s.py 2).2),strV [],strV [],strV [],strV [],strV [],strV []] ?_
    refine D.aj (j:=0) ?_
    refine D.e4 4 6 7 8 hR ?_
    exact G.ax 0 mup (h_4 4 6 7 8) ⟨b8,trivial,rfl,rfl⟩
  ·refine D.aq (fun b8=>?_)
   refine D.ai [[.int .u8 111],[.int .u8 (49+(i:Int))]] (fun p26 C26 hle26 hs26=>?_)
   refine D.strOf (show Sl _ 1 _ (([111,UInt8.ofNat (49+i)]:Str).map fun b=>[.int .u8 b.toNat]) from by rw [<- name_bytes i hi];exact hs26.mono mup) rfl rfl rfl rfl rfl rfl rfl rfl rfl rfl rfl (fun _=>rfl) ?_
   refine D.ak [.int .i64 (1+((s.kind % 3:Nat):Int)),strV [111,UInt8.ofNat (49+i)],strV (qtx (cB S.a S.b S.h s.px s.py 2).1),strV (qtx (cB S.a S.b S.h s.px s.py 2).2),strV [],strV [],strV [],strV [],strV [],strV []] ?_
   refine D.aj (j:=0) ?_
   refine D.e4 4 6 7 8 hR ?_
   exact G.ax 0 mup (h_4 4 6 7 8) ⟨b8,trivial,rfl,rfl⟩
 obtain ⟨b8,_,rfl,rfl⟩:=hI
 refine G.rg fun R hR=>?_
 refine D.aa (bkT hb3 2) ?_
 refine D.ae ?_
 refine D.ag (.head _) ?_
 refine D.ah (contains_fn _ (hT.mono mup) _ _ _ (cB S.a S.b S.h s.px s.py 2) (hq17.mono mup) hG hq23 hqr) ?_
 refine D.q5 5 4 6 7 8 9 hR ?_
 refine G.z5 2 4 6 7 8 42 ?_
 refine G.cut (fun fr C' L' μ=>(True)/\fr=[(4,[],.pointer (some ⟨b4,0,none⟩)),(6,[],.pointer (some ⟨b6,0,none⟩)),(8,[],.pointer (some ⟨b8,0,none⟩))]/\L'=[.obj b8 (.cells ⟨[.int .i64 (1+((s.kind % 3:Nat):Int)),strV [111,UInt8.ofNat (49+i)],strV (qtx p.1),strV (qtx p.2),strV [],strV [],strV [],strV [],strV [],strV []]⟩ 95 (0,0)),.obj b6 (.cells ⟨[.int .i64 0,strV [],strV [],strV [],strV [],strV [],strV [],strV [],strV [],strV []]⟩ 95 (0,0))]) ?_ (fun fr C42 L42 μ hle42 hI=>?_)
 ·refine G.cd (fun h42=>?_) fun h42=>?_
  ·have hno:locL (ptsK (S.kd % 8) S.a S.b S.h) (shT (S.kd % 8)) (cB S.a S.b S.h s.px s.py 2)=[]:=by simpa using h42
   have hil:s.depth % (ptsK (S.kd % 8) S.a S.b S.h).length<(ptsK (S.kd % 8) S.a S.b S.h).length:=Nat.mod_lt _ hpos
   have hpp:p=(ptsK (S.kd % 8) S.a S.b S.h)[s.depth % (ptsK (S.kd % 8) S.a S.b S.h).length]:=by
    rw [<- hpe,ptAt,if_neg (by rw [hno];simp),List.getD_eq_getElem?_getD,List.getElem?_eq_getElem hil,Option.getD_some]
   have hp:(ptsK (S.kd % 8) S.a S.b S.h)[s.depth % (ptsK (S.kd % 8) S.a S.b S.h).length]?=some p:=by rw [hpp];exact List.getElem?_eq_getElem hil
   refine G.aI [0,1,2,3,4,5,6,7,8,9,10,11,12] [(4,0)] rfl (by kernel_rfl) (fun R hB hR=>?_)
   refine D.ae ?_
   refine D.aa (bkT hb3 1) ?_
   refine D.ae ?_
   refine D.aa (bkT hb2 1) ?_
   refine D.fx (c:=(s.depth:Int)) rfl rfl rfl rfl rfl rfl rfl rfl (wrap_i64 (by omega) (by omega)) rfl rfl ?_
   refine D.ae ?_
   refine D.aa (bkT hb3 1) ?_
   refine D.ae ?_
   refine D.eu (s.depth) ((ptsK (S.kd % 8) S.a S.b S.h).length) rfl rfl rfl rfl rfl rfl hpos rfl rfl ?_
   refine D.ap (hm1.mono mup) rfl rfl rfl rfl rfl rfl rfl rfl rfl rfl (by omega) (bl hp) (fun _=>rfl) (fun p52 hp52=>?_)
   refine D.aa hp52 ?_
   refine D.ae ?_
   refine D.aj (j:=0) ?_
   refine D.e3 4 6 8 hR ?_
   refine G.ax 0 (Mem.le.refl _) (h_3 4 6 8) ⟨trivial,rfl,rfl⟩
  ·have hyes:locL (ptsK (S.kd % 8) S.a S.b S.h) (shT (S.kd % 8)) (cB S.a S.b S.h s.px s.py 2)≠[]:=by simpa using h42
   have hpp:p=cB S.a S.b S.h s.px s.py 2:=by rw [<- hpe,ptAt,if_pos hyes]
   subst hpp
   refine G.ax 0 (Mem.le.refl _) (h_3 4 6 8) ⟨trivial,rfl,rfl⟩
 ·obtain ⟨_,rfl,rfl⟩:=hI
  refine G.rg fun R hR=>?_
  refine D.ak ([strV [65],strV [66],strV [67]]) ?_
  refine D.aq (fun b11=>?_)
  refine D.aj (j:=0) ?_
  refine D.e4 4 6 8 11 hR ?_
  refine G.freeze 0 rfl (fun C5 hle5 hb5=>?_)
  refine G.aI [0,1,2,3,4,5,6,7,8,9,10,11] [(4,0),(9,0)] rfl (by kernel_rfl) (fun R hB hR=>?_)
  refine D.ae ?_
  refine D.aw (3) rfl rfl rfl rfl rfl rfl rfl rfl rfl (fun _=>⟨by decide,by decide,rfl⟩) rfl rfl ?_
  refine D.aa (bkT hb2 1) ?_
  refine D.eu (s.u0) (3) rfl rfl rfl rfl rfl rfl (by omega) rfl rfl ?_
  refine D.fx (c:=((s.u0 % 3:Nat):Int)) rfl rfl rfl rfl rfl rfl rfl rfl (wrap_i64 (by omega) (by omega)) rfl rfl ?_
  refine D.ae ?_
  refine D.aw (4) rfl rfl rfl rfl rfl rfl rfl rfl rfl (fun _=>⟨by decide,by decide,rfl⟩) rfl rfl ?_
  refine D.aa (bkT hb2 1) ?_
  refine D.eu (s.u1) (3) rfl rfl rfl rfl rfl rfl (by omega) rfl rfl ?_
  refine D.fx (c:=((s.u1 % 3:Nat):Int)) rfl rfl rfl rfl rfl rfl rfl rfl (wrap_i64 (by omega) (by omega)) rfl rfl ?_
  refine D.q6 2 4 6 8 11 12 13 hR ?_
  refine G.rp 1 fun R hR=>?_
  refine D.ag (.head _) ?_
  refine D.q7 1 4 6 8 11 12 13 68 hR ?_
  refine G.cd (fun h68=>?_) fun h68=>?_
  ·have hk0:s.kind % 3=0:=by
    have:=ci h68
    omega
   refine G.rp 1 fun R hR=>?_
   refine D.aw ((s.u1 % 3)) rfl rfl rfl rfl rfl rfl rfl rfl rfl (fun _=>⟨by omega,by omega,(by show s.u1 % 3=0+(s.u1 % 3)*1;omega)⟩) rfl rfl ?_
   refine D.fD (PtrTo.blockT (Mem.get hb5 mup) (s.u1 % 3) 1) rfl rfl rfl rfl rfl rfl (show cC _ ((([strV [65],strV [66],strV [67]]:List Value).drop (s.u1 % 3)).take 1)=some (strV (labU (s.u1 % 3))) from by rw [lab_at _ (by omega)];rfl) rfl ?_
   refine D.ae ?_
   refine D.aj (j:=0) ?_
   refine D.e2 6 8 hR ?_
   refine G.rg fun R hR=>?_
   refine D.ag (.head _) ?_
   refine D.aj (j:=1) ?_
   refine D.e1 6 hR ?_
   refine G.aA (G.ee (.head _) rfl rfl rfl rfl ?_)
   exact ⟨rfl,by unfold obsK;rw [if_pos hk0,hpe,hk0];rfl⟩
  ·have hk0:¬ s.kind % 3=0:=by
    intro e
    rw [e] at h68
    exact absurd h68 (by decide)
   refine G.z7 3 4 6 8 11 12 13 76 ?_
   refine G.cut (fun fr C' L' μ=>(True)/\fr=[(4,[],.pointer (some ⟨b4,0,none⟩)),(6,[],.pointer (some ⟨b6,0,none⟩)),(8,[],.pointer (some ⟨b8,0,none⟩)),(11,[],.pointer (some ⟨b11,0,none⟩)),(12,[],.int .i64 (lo:Nat)),(13,[],.int .i64 (up:Nat))]/\L'=[.obj b8 (.cells ⟨[.int .i64 (1+((s.kind % 3:Nat):Int)),strV [111,UInt8.ofNat (49+i)],strV (qtx p.1),strV (qtx p.2),strV [],strV [],strV [],strV [],strV [],strV []]⟩ 95 (0,0)),.obj b6 (.cells ⟨[.int .i64 0,strV [],strV [],strV [],strV [],strV [],strV [],strV [],strV [],strV []]⟩ 95 (0,0))]) ?_ (fun fr C76 L76 μ hle76 hI=>?_)
   ·refine G.cd (fun h76=>?_) fun h76=>?_
    ·have hee:s.u0 % 3=s.u1 % 3:=by
      have:=ci h76
      omega
     have hlo':lo=0:=by rw [<- hloe,loU,if_pos hee]
     have hup':up=1+s.u1 % 3 % 2:=by rw [<- hupe,upU,if_pos hee]
     subst hlo'
     subst hup'
     refine G.rp 1 fun R hR=>?_
     refine D.eu ((s.u1 % 3)) (2) rfl rfl rfl rfl rfl rfl (by omega) rfl rfl ?_
     refine D.am _ ?_
     refine D.q6 2 4 6 8 11 12 13 hR ?_
     refine G.ax 0 (Mem.le.refl _) (h_6 4 6 8 11 12 13) ⟨trivial,rfl,rfl⟩
    ·have hee:¬ s.u0 % 3=s.u1 % 3:=by
      intro e
      rw [e,beq_self_eq_true] at h76
      exact absurd h76 (by decide)
     have hlo':lo=s.u0 % 3:=by rw [<- hloe,loU,if_neg hee]
     have hup':up=s.u1 % 3:=by rw [<- hupe,upU,if_neg hee]
     subst hlo'
     subst hup'
     refine G.ax 0 (Mem.le.refl _) (h_6 4 6 8 11 12 13) ⟨trivial,rfl,rfl⟩
   ·obtain ⟨_,rfl,rfl⟩:=hI
    refine G.cut (fun fr C' L' μ=>(True)/\fr=[(4,[],.pointer (some ⟨b4,0,none⟩)),(6,[],.pointer (some ⟨b6,0,none⟩)),(8,[],.pointer (some ⟨b8,0,none⟩))]/\L'=[.obj b8 (.cells ⟨[.int .i64 (1+((s.kind % 3:Nat):Int)),strV [111,UInt8.ofNat (49+i)],strV (qtx p.1),strV (qtx p.2),strV [],strV (labU (max lo up)),strV (labU (min lo up)),strV [],strV [],strV []]⟩ 95 (0,0)),.obj b6 (.cells ⟨[.int .i64 0,strV [],strV [],strV [],strV [],strV [],strV [],strV [],strV [],strV []]⟩ 95 (0,0))]) ?_ (fun fr Cr13 Lr13 μ hler13 hI=>?_)
    ·refine G.dr (.cut [0,1,2,3,4,5,6,7,8,10] (.alt 9 (.fin [11,12,13]) (.alt 11 (.fin [9,12,13]) .stop))) [] rfl rfl (by kernel_rfl) (fun R hB hR hH=>?_)
     refine D.ps 2 ?_
     refine D.max (((max lo up:Nat):Int)) rfl rfl rfl rfl rfl rfl (by omega) rfl rfl ?_
     refine D.aw ((max lo up)) rfl rfl rfl rfl rfl rfl rfl rfl rfl (fun _=>⟨by omega,by omega,(by show max lo up=0+(max lo up)*1;omega)⟩) rfl rfl ?_
     refine D.fD (PtrTo.blockT (Mem.get hb5 mup) (max lo up) 1) rfl rfl rfl rfl rfl rfl (show cC _ ((([strV [65],strV [66],strV [67]]:List Value).drop (max lo up)).take 1)=some (strV (labU (max lo up))) from by rw [lab_at _ (by omega)];rfl) rfl ?_
     refine D.ps 2 ?_
     refine D.min (((min lo up:Nat):Int)) rfl rfl rfl rfl rfl rfl (by omega) rfl rfl ?_
     refine D.aw ((min lo up)) rfl rfl rfl rfl rfl rfl rfl rfl rfl (fun _=>⟨by omega,by omega,(by show min lo up=0+(min lo up)*1;omega)⟩) rfl rfl ?_
     refine D.ae ?_
     refine D.cX hH rfl ⟨?_, ?_,trivial⟩
     ·refine D.fD (PtrTo.blockT (Mem.get hb5 mup) (min lo up) 1) rfl rfl rfl rfl rfl rfl (show cC _ ((([strV [65],strV [66],strV [67]]:List Value).drop (min lo up)).take 1)=some (strV (labU (min lo up))) from by rw [lab_at _ (by omega)];rfl) rfl ?_
      refine D.aj (j:=0) ?_
      refine D.ae ?_
      refine D.aj (j:=0) ?_
      refine D.e3 4 6 8 hR ?_
      exact G.ax 0 mup (h_3 4 6 8) ⟨trivial,rfl,rfl⟩
     ·refine D.aj (j:=0) ?_
      refine D.fD (PtrTo.blockT (Mem.get hb5 mup) (min lo up) 1) rfl rfl rfl rfl rfl rfl (show cC _ ((([strV [65],strV [66],strV [67]]:List Value).drop (min lo up)).take 1)=some (strV (labU (min lo up))) from by rw [lab_at _ (by omega)];rfl) rfl ?_
      refine D.ae ?_
      refine D.aj (j:=0) ?_
      refine D.e3 4 6 8 hR ?_
      exact G.ax 0 mup (h_3 4 6 8) ⟨trivial,rfl,rfl⟩
    obtain ⟨_,rfl,rfl⟩:=hI
    refine G.rp 1 fun R hR=>?_
    refine D.ag (.head _) ?_
    refine D.q4 1 4 6 8 94 hR ?_
    refine G.cd (fun h94=>?_) fun h94=>?_
    ·have hk1:s.kind % 3=1:=by
      have:=ci h94
      omega
     refine G.rp 1 fun R hR=>?_
     refine D.aa (bkT hb2 1) ?_
     refine D.eu (s.depth) (12) rfl rfl rfl rfl rfl rfl (by omega) rfl rfl ?_
     refine D.cY (c:=((s.depth % 12:Nat):Int)) rfl rfl rfl rfl rfl rfl rfl rfl (wrap_i64 (by omega) (by omega)) (fun _=>rfl) ?_
     refine D.af (rof_fn _ (hT.mono mup) ((s.depth % 12:Nat):Int) 2 (by omega) (by omega) (by omega)) rfl rfl rfl rfl rfl rfl rfl (fun _=>rfl) ?_
     refine D.ps 4 ?_
     refine D.aj (j:=0) ?_
     refine D.e2 6 8 hR ?_
     refine G.rg fun R hR=>?_
     refine D.ag (.head _) ?_
     refine D.aj (j:=1) ?_
     refine D.e1 6 hR ?_
     refine G.aA (G.ee (.head _) rfl rfl rfl rfl ?_)
     exact ⟨rfl,by unfold obsK;rw [if_neg hk0,if_pos hk1,hpe,hloe,hupe,hk1];rfl⟩
    ·have hk1:¬ s.kind % 3=1:=by
      intro e
      rw [e] at h94
      exact absurd h94 (by decide)
     have hk2:s.kind % 3=2:=by omega
     refine G.rp 1 fun R hR=>?_
     refine D.aw (8) rfl rfl rfl rfl rfl rfl rfl rfl rfl (fun _=>⟨by decide,by decide,rfl⟩) rfl rfl ?_
     refine D.aa (bkT hb2 1) ?_
     refine D.fA (s.n2.tmod 5) rfl rfl rfl rfl rfl rfl (by decide) rfl rfl rfl ?_
     refine D.cY (c:=(s.n2.tmod 5)) rfl rfl rfl rfl rfl rfl rfl rfl (wrap_i64 (by omega) (by omega)) (fun _=>rfl) ?_
     refine D.q4 1 4 6 8 14 hR ?_
     refine G.z5 2 4 6 8 14 111 ?_
     refine G.cut (fun fr C' L' μ=>(True)/\fr=[(4,[],.pointer (some ⟨b4,0,none⟩)),(6,[],.pointer (some ⟨b6,0,none⟩)),(8,[],.pointer (some ⟨b8,0,none⟩)),(14,[],.int .i64 lz)]/\L'=[.obj b8 (.cells ⟨[.int .i64 (1+((s.kind % 3:Nat):Int)),strV [111,UInt8.ofNat (49+i)],strV (qtx p.1),strV (qtx p.2),strV [],strV (labU (max lo up)),strV (labU (min lo up)),strV [],strV [],strV []]⟩ 95 (0,0)),.obj b6 (.cells ⟨[.int .i64 0,strV [],strV [],strV [],strV [],strV [],strV [],strV [],strV [],strV []]⟩ 95 (0,0))]) ?_ (fun fr C111 L111 μ hle111 hI=>?_)
     ·refine G.cd (fun h111=>?_) fun h111=>?_
      ·have hz0:s.n2.tmod 5=0:=ci h111
       have hlz':lz=1:=by rw [<- hlz,lastN,if_pos hz0]
       subst hlz'
       refine G.z4 1 4 6 8 14 ?_
       refine G.ax 0 (Mem.le.refl _) (h_4 4 6 8 14) ⟨trivial,rfl,rfl⟩
      ·have hz0:¬ s.n2.tmod 5=0:=by
        intro e
        rw [e] at h111
        exact absurd h111 (by decide)
       have hlz':lz=s.n2.tmod 5:=by rw [<- hlz,lastN,if_neg hz0]
       subst hlz'
       refine G.ax 0 (Mem.le.refl _) (h_4 4 6 8 14) ⟨trivial,rfl,rfl⟩
     ·obtain ⟨_,rfl,rfl⟩:=hI
      refine G.aI [0,1,2,3,4,5,6,7,8,9,10,11,12,13,14,15,16] [(5,1),(11,1),(13,1),(4,0),(10,0)] rfl (by kernel_rfl) (fun R hB hR=>?_)
      refine D.ae ?_
      refine D.aw (6) rfl rfl rfl rfl rfl rfl rfl rfl rfl (fun _=>⟨by decide,by decide,rfl⟩) rfl rfl ?_
      refine D.aa (bkT hb2 1) ?_
      refine D.fA (s.n0.tmod 5) rfl rfl rfl rfl rfl rfl (by decide) rfl rfl rfl ?_
      refine D.fx (c:=(s.n0.tmod 5)) rfl rfl rfl rfl rfl rfl rfl rfl (wrap_i64 (by omega) (by omega)) rfl rfl ?_
      refine D.aD (fun _=>(whole_fn _ (hT.mono mup) (s.n0.tmod 5) (by omega))) rfl rfl rfl rfl rfl rfl rfl rfl rfl ?_
      refine D.ae ?_
      refine D.aw (7) rfl rfl rfl rfl rfl rfl rfl rfl rfl (fun _=>⟨by decide,by decide,rfl⟩) rfl rfl ?_
      refine D.aa (bkT hb2 1) ?_
      refine D.fA (s.n1.tmod 5) rfl rfl rfl rfl rfl rfl (by decide) rfl rfl rfl ?_
      refine D.fx (c:=(s.n1.tmod 5)) rfl rfl rfl rfl rfl rfl rfl rfl (wrap_i64 (by omega) (by omega)) rfl rfl ?_
      refine D.aD (fun _=>(whole_fn _ (hT.mono mup) (s.n1.tmod 5) (by omega))) rfl rfl rfl rfl rfl rfl rfl rfl rfl ?_
      refine D.ae ?_
      refine D.aD (fun _=>(whole_fn _ (hT.mono mup) lz (by omega))) rfl rfl rfl rfl rfl rfl rfl rfl rfl ?_
      refine D.ak [strV (qtx ((s.n0.tmod 5:Int):Rat)),strV (qtx ((s.n1.tmod 5:Int):Rat)),strV (qtx ((lz:Int):Rat))] ?_
      refine D.ae ?_
      refine D.aj (j:=0) ?_
      refine D.e2 6 8 hR ?_
      refine G.rg fun R hR=>?_
      refine D.ag (.head _) ?_
      refine D.aj (j:=1) ?_
      refine D.e1 6 hR ?_
      refine G.aA (G.ee (.head _) rfl rfl rfl rfl ?_)
      exact ⟨rfl,by unfold obsK;rw [if_neg hk0,if_neg hk1,hpe,hloe,hupe,hlz,hk2];rfl⟩

def noSgt:Sgt:=⟨0,0,0,0,0,0,0,0,0⟩
def colK:List Lay:=[⟨[65],0,none⟩,⟨[66],0,some 5⟩,⟨[67],1,none⟩]
theorem qtx_five:qtx 5=[53]:=by
 show qtx ((5:Int):Rat)=_
 rw [qtx_int]
 decide +kernel
theorem colK_enc:colK.map encL=[[strV [65],strV [48],strV []],[strV [66],strV [48],strV [53]],[strV [67],strV [49],strV []]]:=by
 simp only [colK,List.map,encL,optS,qtx_zero,cq,qtx_five]
def obsL (S:Sht)(l:List Sgt):List Obs:=(List.range (min l.length 6)).map fun i=>obsK S (l.getD i noSgt) i
def bh (S:Sht)(H:Hts)(l:List Sgt):Bk:=⟨ptsK (S.kd % 8) S.a S.b S.h,shT (S.kd % 8),(fsK (ptsK (S.kd % 8) S.a S.b S.h).length H).map qtx,colK,obsL S l⟩
theorem obsL_len (S:Sht)(l:List Sgt):(obsL S l).length=min l.length 6:=by simp [obsL]
theorem obsL_at (S:Sht){l:List Sgt}{i:Nat}{s:Sgt}(h:l[i]?=some s)(hi:i<6):(obsL S l)[i]?=some (obsK S s i):=by
 have h1:=(List.getElem?_eq_some_iff.1 h).1
 rw [obsL,List.getElem?_map,List.getElem?_range (by omega)]
 show some (obsK S (l.getD i noSgt) i)=_
 rw [List.getD_eq_getElem?_getD,h]
 rfl
theorem make24_fn (C:Mem)(hT:Tabs C)(S:Sht)(H:Hts)(sv:Value)(l:List Sgt)(hk:S.kd<256)(hHr:HtsR H)(hsv:Sl C 9 sv (l.map sgtC))(hs:∀ s∈l,SgtR s)(hG:Good (ptsK (S.kd % 8) S.a S.b S.h) (shT (S.kd % 8))) :
  Pur cx.P 12 [.agg ⟨planC S H sv⟩] C fun u D=>BookIn D u (bh S H l):=by
 obtain ⟨As,cs,rfl,hs1,hs2,_⟩:=id hsv
 have hmx:maxLen<=9223372036854775807:=by simp [maxLen]
 simp only [List.length_map] at hsv hs1 ⊢
 have hle6:=ptsK_len (S.kd % 8) S.a S.b S.h
 refine Fn.it (by kernel_rfl) Tryz.func12 44 fun w0=>?_
 refine G.rg fun R hR=>?_
 refine D.aE (fun b1=>?_)
 refine D.aq (fun b2=>?_)
 refine D.e2 1 2 hR ?_
 refine G.freeze 1 rfl (fun C1 hle1 hb1=>?_)
 refine G.rp 1 fun R hR=>?_
 refine D.aa (bkT hb1 4) ?_
 refine D.aU (make12_fn _ (hT.mono mup) S.kd S.a S.b S.h hk) (fun v8 C8 hle8 hq8=>?_)
 obtain ⟨v1,v2,rfl,hm1,hm2⟩:=id hq8.ex
 obtain ⟨A1,c1,rfl,hc1,hc2,_⟩:=id hm1
 obtain ⟨A2,c2,rfl,_,_,_⟩:=id hm2
 simp only [List.length_map] at hm1 hm2 hc1 hq8 ⊢
 refine D.aq (fun b3=>?_)
 refine D.aj (j:=0) ?_
 refine D.e3 1 2 3 hR ?_
 refine G.freeze 0 rfl (fun C3 hle3 hb3=>?_)
 refine G.cut (fun fr C' L' μ=>∃ (A3:Option Addr)(c3:Nat)(p17:Value)(b4:Nat),(Sl C' 1 (.slice A3 (fsK (ptsK (S.kd % 8) S.a S.b S.h).length H).length c3) ((fsK (ptsK (S.kd % 8) S.a S.b S.h).length H).map encQ)/\Sl C' 3 p17 [[strV [65],strV [48],strV []],[strV [66],strV [48],strV [53]],[strV [67],strV [49],strV []]])/\fr=[(1,[],.pointer (some ⟨b1,0,none⟩)),(2,[],.pointer (some ⟨b2,0,none⟩)),(4,[],.pointer (some ⟨b4,0,none⟩))]/\L'=[.obj b4 (.cells ⟨[.slice A1 (ptsK (S.kd % 8) S.a S.b S.h).length c1,.slice A2 (shT (S.kd % 8)).length c2,.slice A3 (fsK (ptsK (S.kd % 8) S.a S.b S.h).length H).length c3,p17,.slice none 0 0]⟩ 43 (0,0)),.obj b2 (.cells ⟨[.slice none 0 0,.slice none 0 0,.slice none 0 0,.slice none 0 0,.slice none 0 0]⟩ 43 (0,0))]) ?_ (fun fr Cr2 Lr2 μ hler2 hI=>?_)
 ·refine G.dr (.cut [0,1,2,3,5,6,7] (.alt 4 (.cut [] (.alt 8 (.fin [9,10,11]) (.alt 10 (.fin [8,9,11]) .stop))) (.alt 8 (.cut [] (.alt 4 (.fin [9,10,11]) (.alt 10 (.fin [4,9,11]) .stop))) (.alt 10 (.cut [] (.alt 4 (.fin [8,9,11]) (.alt 8 (.fin [4,9,11]) .stop))) .stop)))) [] rfl rfl (by kernel_rfl) (fun R hB hR hH=>?_)
  refine D.aa (bkT hb3 2) ?_
  refine D.aa (bkT hb3 2) ?_
  refine D.ae ?_
  refine D.aa (bkT hb1 7) ?_
  refine D.ak ([strV [65],strV [48],strV []]) ?_
  refine D.ak ([strV [66],strV [48],strV [53]]) ?_
  refine D.ak ([strV [67],strV [49],strV []]) ?_
  refine D.cX hH rfl ⟨?_, ?_, ?_,trivial⟩
  ·refine D.aM (d8 _ (hT.mono mup) _ _ (ptsK (S.kd % 8) S.a S.b S.h).length A1 c1 H rfl (by omega) hHr) rfl rfl rfl rfl rfl rfl rfl (fun _=>rfl) (fun v13 C13 hle13 hq13=>?_)
   refine D.cX hH rfl ⟨?_, ?_,trivial⟩
   ·refine D.aV [[strV [65],strV [48],strV []],[strV [66],strV [48],strV [53]],[strV [67],strV [49],strV []]] rfl rfl rfl rfl rfl rfl rfl rfl rfl rfl rfl rfl (fun _=>rfl) (fun b17 C17 hle17 hs17=>?_)
    obtain ⟨A3,c3,rfl,_,_,_⟩:=id hq13
    simp only [List.length_map] at hq13 ⊢
    refine D.ak [.slice A1 (ptsK (S.kd % 8) S.a S.b S.h).length c1,.slice A2 (shT (S.kd % 8)).length c2,.slice A3 (fsK (ptsK (S.kd % 8) S.a S.b S.h).length H).length c3,.slice (some ⟨b17,0,none⟩) 3 3,.slice none 0 0] ?_
    refine D.aq (fun b4=>?_)
    refine D.aj (j:=0) ?_
    refine D.e3 1 2 4 hR ?_
    exact G.ax 0 mup (h_3 1 2 4) ⟨A3,c3,_,b4,⟨hq13.mono mup,hs17.mono mup⟩,rfl,rfl⟩
   ·refine D.aq (fun b4=>?_)
    refine D.aV [[strV [65],strV [48],strV []],[strV [66],strV [48],strV [53]],[strV [67],strV [49],strV []]] rfl rfl rfl rfl rfl rfl rfl rfl rfl rfl rfl rfl (fun _=>rfl) (fun b17 C17 hle17 hs17=>?_)
    obtain ⟨A3,c3,rfl,_,_,_⟩:=id hq13
    simp only [List.length_map] at hq13 ⊢
    refine D.ak [.slice A1 (ptsK (S.kd % 8) S.a S.b S.h).length c1,.slice A2 (shT (S.kd % 8)).length c2,.slice A3 (fsK (ptsK (S.kd % 8) S.a S.b S.h).length H).length c3,.slice (some ⟨b17,0,none⟩) 3 3,.slice none 0 0] ?_
    refine D.aj (j:=0) ?_
    refine D.e3 1 2 4 hR ?_
    exact G.ax 0 mup (h_3 1 2 4) ⟨A3,c3,_,b4,⟨hq13.mono mup,hs17.mono mup⟩,rfl,rfl⟩
  ·refine D.aV [[strV [65],strV [48],strV []],[strV [66],strV [48],strV [53]],[strV [67],strV [49],strV []]] rfl rfl rfl rfl rfl rfl rfl rfl rfl rfl rfl rfl (fun _=>rfl) (fun b17 C17 hle17 hs17=>?_)
   refine D.cX hH rfl ⟨?_, ?_,trivial⟩
   ·refine D.aM (d8 _ (hT.mono mup) _ _ (ptsK (S.kd % 8) S.a S.b S.h).length A1 c1 H rfl (by omega) hHr) rfl rfl rfl rfl rfl rfl rfl (fun _=>rfl) (fun v13 C13 hle13 hq13=>?_)
    obtain ⟨A3,c3,rfl,_,_,_⟩:=id hq13
    simp only [List.length_map] at hq13 ⊢
    refine D.ak [.slice A1 (ptsK (S.kd % 8) S.a S.b S.h).length c1,.slice A2 (shT (S.kd % 8)).length c2,.slice A3 (fsK (ptsK (S.kd % 8) S.a S.b S.h).length H).length c3,.slice (some ⟨b17,0,none⟩) 3 3,.slice none 0 0] ?_
    refine D.aq (fun b4=>?_)
    refine D.aj (j:=0) ?_
    refine D.e3 1 2 4 hR ?_
    exact G.ax 0 mup (h_3 1 2 4) ⟨A3,c3,_,b4,⟨hq13.mono mup,hs17.mono mup⟩,rfl,rfl⟩
   ·refine D.aq (fun b4=>?_)
    refine D.aM (d8 _ (hT.mono mup) _ _ (ptsK (S.kd % 8) S.a S.b S.h).length A1 c1 H rfl (by omega) hHr) rfl rfl rfl rfl rfl rfl rfl (fun _=>rfl) (fun v13 C13 hle13 hq13=>?_)
    obtain ⟨A3,c3,rfl,_,_,_⟩:=id hq13
    simp only [List.length_map] at hq13 ⊢
    refine D.ak [.slice A1 (ptsK (S.kd % 8) S.a S.b S.h).length c1,.slice A2 (shT (S.kd % 8)).length c2,.slice A3 (fsK (ptsK (S.kd % 8) S.a S.b S.h).length H).length c3,.slice (some ⟨b17,0,none⟩) 3 3,.slice none 0 0] ?_
    refine D.aj (j:=0) ?_
    refine D.e3 1 2 4 hR ?_
    exact G.ax 0 mup (h_3 1 2 4) ⟨A3,c3,_,b4,⟨hq13.mono mup,hs17.mono mup⟩,rfl,rfl⟩
  ·refine D.aq (fun b4=>?_)
   refine D.cX hH rfl ⟨?_, ?_,trivial⟩
   ·refine D.aM (d8 _ (hT.mono mup) _ _ (ptsK (S.kd % 8) S.a S.b S.h).length A1 c1 H rfl (by omega) hHr) rfl rfl rfl rfl rfl rfl rfl (fun _=>rfl) (fun v13 C13 hle13 hq13=>?_)
    refine D.aV [[strV [65],strV [48],strV []],[strV [66],strV [48],strV [53]],[strV [67],strV [49],strV []]] rfl rfl rfl rfl rfl rfl rfl rfl rfl rfl rfl rfl (fun _=>rfl) (fun b17 C17 hle17 hs17=>?_)
    obtain ⟨A3,c3,rfl,_,_,_⟩:=id hq13
    simp only [List.length_map] at hq13 ⊢
    refine D.ak [.slice A1 (ptsK (S.kd % 8) S.a S.b S.h).length c1,.slice A2 (shT (S.kd % 8)).length c2,.slice A3 (fsK (ptsK (S.kd % 8) S.a S.b S.h).length H).length c3,.slice (some ⟨b17,0,none⟩) 3 3,.slice none 0 0] ?_
    refine D.aj (j:=0) ?_
    refine D.e3 1 2 4 hR ?_
    exact G.ax 0 mup (h_3 1 2 4) ⟨A3,c3,_,b4,⟨hq13.mono mup,hs17.mono mup⟩,rfl,rfl⟩
   ·refine D.aV [[strV [65],strV [48],strV []],[strV [66],strV [48],strV [53]],[strV [67],strV [49],strV []]] rfl rfl rfl rfl rfl rfl rfl rfl rfl rfl rfl rfl (fun _=>rfl) (fun b17 C17 hle17 hs17=>?_)
    refine D.aM (d8 _ (hT.mono mup) _ _ (ptsK (S.kd % 8) S.a S.b S.h).length A1 c1 H rfl (by omega) hHr) rfl rfl rfl rfl rfl rfl rfl (fun _=>rfl) (fun v13 C13 hle13 hq13=>?_)
    obtain ⟨A3,c3,rfl,_,_,_⟩:=id hq13
    simp only [List.length_map] at hq13 ⊢
    refine D.ak [.slice A1 (ptsK (S.kd % 8) S.a S.b S.h).length c1,.slice A2 (shT (S.kd % 8)).length c2,.slice A3 (fsK (ptsK (S.kd % 8) S.a S.b S.h).length H).length c3,.slice (some ⟨b17,0,none⟩) 3 3,.slice none 0 0] ?_
    refine D.aj (j:=0) ?_
    refine D.e3 1 2 4 hR ?_
    exact G.ax 0 mup (h_3 1 2 4) ⟨A3,c3,_,b4,⟨hq13.mono mup,hs17.mono mup⟩,rfl,rfl⟩
 obtain ⟨A3,c3,p17,b4,⟨hf3,hc17⟩,rfl,rfl⟩:=hI
 refine G.z4 1 1 2 4 5 ?_
 refine G.nilArr 95 10 ?_
 refine G.perm (L':=[.obj b4 (.cells ⟨[.slice A1 (ptsK (S.kd % 8) S.a S.b S.h).length c1,.slice A2 (shT (S.kd % 8)).length c2,.slice A3 (fsK (ptsK (S.kd % 8) S.a S.b S.h).length H).length c3,p17,.slice none 0 0]⟩ 43 (0,0)),.arr (.slice none 0 0) 95 10 0 [],.obj b2 (.cells ⟨[.slice none 0 0,.slice none 0 0,.slice none 0 0,.slice none 0 0,.slice none 0 0]⟩ 43 (0,0))]) (List.Perm.swap _ _ _) ?_
 refine G.loop (fun fr C' L' μ=>∃ (i:Nat)(w:Value),(i<=l.length/\i<=6)/\fr=[(1,[],.pointer (some ⟨b1,0,none⟩)),(2,[],.pointer (some ⟨b2,0,none⟩)),(4,[],.pointer (some ⟨b4,0,none⟩)),(5,[],.int .i64 i)]/\L'=[.obj b4 (.cells ⟨[.slice A1 (ptsK (S.kd % 8) S.a S.b S.h).length c1,.slice A2 (shT (S.kd % 8)).length c2,.slice A3 (fsK (ptsK (S.kd % 8) S.a S.b S.h).length H).length c3,p17,w]⟩ 43 (0,0)),.arr w 95 10 ((obsL S l).take i).length (((obsL S l).take i).map encO).flatten,.obj b2 (.cells ⟨[.slice none 0 0,.slice none 0 0,.slice none 0 0,.slice none 0 0,.slice none 0 0]⟩ 43 (0,0))]/\μ=6-i) (h_4 1 2 4 5) ⟨0,.slice none 0 0,⟨Nat.zero_le _,Nat.zero_le _⟩,rfl,rfl,rfl⟩ (fun fr C0' L0' m hle0 hI=>?_)
 obtain ⟨i,w,⟨hi,hi6⟩,rfl,rfl,rfl⟩:=hI
 refine G.rp 2 fun R hR=>?_
 refine D.aa (bkT hb1 1) ?_
 refine D.ps 5 ?_
 refine D.ay ?_
 refine D.e5 1 2 4 5 27 hR ?_
 refine G.cd (fun h27=>?_) fun h27=>?_
 ·have hil:i<l.length/\i<6:=by
   by_cases h1:((i:Nat):Int)<(l.length:Nat)
   ·rw [decide_eq_true h1] at h27
    have h2:=of_decide_eq_true h27
    omega
   ·rw [decide_eq_false h1] at h27
    exact absurd h27 (by simp)
  obtain ⟨s,hsi⟩:∃ s,l[i]?=some s:=⟨l[i]'hil.1,List.getElem?_eq_getElem hil.1⟩
  have htk:(obsL S l).take (i+1)=(obsL S l).take i++[obsK S s i]:=by rw [List.take_add_one,obsL_at S hsi hil.2];rfl
  have htl:((obsL S l).take i).length<=6:=by rw [List.length_take,obsL_len];omega
  refine G.aI [0,1,2,3,4,5,6,7,8,9,10,11,12,13] [] rfl (by kernel_rfl) (fun R hB hR=>?_)
  refine D.ae ?_
  refine D.ag (.head _) ?_
  refine D.aa (bkT hb1 12) ?_
  refine D.ae ?_
  refine D.aa (bkT hb1 1) ?_
  refine D.ae ?_
  refine D.ap (hsv.mono mup) rfl rfl rfl rfl rfl rfl rfl rfl rfl rfl (by omega) (bl hsi) (fun _=>rfl) (fun p36 hp36=>?_)
  refine D.aa hp36 ?_
  refine D.ae ?_
  refine D.aU (observation_fn _ (hT.mono mup) S s H _ i hil.2 hk (hs s (List.mem_of_getElem? hsi)) hG) (fun v39 C39 hle39 hq39=>?_)
  subst hq39
  refine D.ai [encO (obsK S s i)] (fun p40 C40 hle40 hs40=>?_)
  refine D.dj (j:=1) rfl rfl rfl rfl rfl rfl rfl rfl rfl rfl rfl (hs40.mono mup) rfl (by simp only [List.length_singleton,maxLen];omega) (by simp only [List.length_singleton];omega) (fun _=>rfl) (fun A41 n41 c41=>?_)
  refine D.ae ?_
  refine D.aj (j:=1) ?_
  refine D.e4 1 2 4 5 hR ?_
  refine G.rp 1 fun R hR=>?_
  refine D.am _ ?_
  refine D.q4 1 1 2 4 5 hR ?_
  refine G.ba (L':=[.obj b4 (.cells ⟨[.slice A1 (ptsK (S.kd % 8) S.a S.b S.h).length c1,.slice A2 (shT (S.kd % 8)).length c2,.slice A3 (fsK (ptsK (S.kd % 8) S.a S.b S.h).length H).length c3,p17,.slice A41 n41 c41]⟩ 43 (0,0)),.arr (.slice A41 n41 c41) 95 10 ((obsL S l).take (i+1)).length (((obsL S l).take (i+1)).map encO).flatten,.obj b2 (.cells ⟨[.slice none 0 0,.slice none 0 0,.slice none 0 0,.slice none 0 0,.slice none 0 0]⟩ 43 (0,0))]) (by rw [htk,List.map_append,List.flatten_append,List.length_append];rfl) ?_
  refine G.au (m':=6-(i+1)) (by omega) mup (h_4 1 2 4 5) ⟨i+1,_,⟨by omega,by omega⟩,rfl,rfl,rfl⟩
 ·have hil:i=min l.length 6:=by
   by_cases h1:((i:Nat):Int)<(l.length:Nat)
   ·rw [decide_eq_true h1] at h27
    have h2:=of_decide_eq_false h27
    omega
   ·omega
  have hfull:(obsL S l).take i=obsL S l:=List.take_of_length_le (by rw [hil,obsL_len];exact Nat.le_refl _)
  rw [hfull]
  refine G.freezeArr 1 ((obsL S l).map encO) rfl rfl (by intro r hr;obtain ⟨y,_,rfl⟩:=List.mem_map.1 hr;rfl) (by rw [List.length_map]) (fun Cg hg hsl3=>?_)
  obtain ⟨Aw,cw,rfl,_⟩:=id hsl3
  obtain ⟨Ap,cp,rfl,_⟩:=id hc17
  refine G.rg fun R hR=>?_
  refine D.ag (.head _) ?_
  refine D.aj (j:=1) ?_
  refine D.e1 2 hR ?_
  refine G.aA (G.ee (.head _) rfl rfl rfl rfl ?_)
  exact ⟨rfl,_,_,_,_,_,rfl,hm1.mono mup,hm2.mono mup,(by rw [bh,<- encQ_S1];exact hf3.mono mup),(by rw [bh,colK_enc];exact hc17.mono mup),hsl3⟩

def exO1:Obs:=⟨2,[99],qtx 3,qtx 0,[52],[66],[65],[],[],[]⟩
def exO2:Obs:=⟨3,[100],qtx 3,qtx 0,[],[66],[65],qtx (-1),qtx 0,qtx 2⟩
def exB:Bk:=⟨[(0,0),(6,0),(0,4)],[(0,1,2)],[[49,48],[49,48],[49,48]],[⟨[65],0,none⟩,⟨[66],0,none⟩],[exO1,exO2]⟩
theorem ex_col:exB.col.map encL=[[strV [65],strV [48],strV []],[strV [66],strV [48],strV []]]:=by
 simp only [exB,List.map,encL,optS,qtx_zero]
theorem example_fn (C:Mem)(hT:Tabs C):Pur cx.P 35 [] C fun u D=>BookIn D u exB:=by
 refine Fn.it (by kernel_rfl) Tryz.func35 19 fun w0=>?_
 refine G.rg fun R hR=>?_
 refine D.aq (fun b0=>?_)
 refine D.e1 0 hR ?_
 refine G.rg fun R hR=>?_
 refine D.af (at_fn _ (hT.mono mup) 0 0 (by decide) (by decide)) rfl rfl rfl rfl rfl rfl rfl (fun _=>rfl) ?_
 refine D.af (at_fn _ (hT.mono mup) 6 0 (by decide) (by decide)) rfl rfl rfl rfl rfl rfl rfl (fun _=>rfl) ?_
 refine D.af (at_fn _ (hT.mono mup) 0 4 (by decide) (by decide)) rfl rfl rfl rfl rfl rfl rfl (fun _=>rfl) ?_
 refine D.aV [encP (((0:Int):Rat),((0:Int):Rat)),encP (((6:Int):Rat),((0:Int):Rat)),encP (((0:Int):Rat),((4:Int):Rat))] rfl rfl rfl rfl rfl rfl rfl rfl rfl rfl rfl rfl (fun _=>rfl) (fun b4 C4 hle4 hs4=>?_)
 refine D.ak ([.int .i64 0,.int .i64 1,.int .i64 2]) ?_
 refine D.aV [[.int .i64 0,.int .i64 1,.int .i64 2]] rfl rfl rfl rfl rfl rfl rfl rfl rfl rfl rfl rfl (fun _=>rfl) (fun b6 C6 hle6 hs6=>?_)
 refine D.ak [.slice (some ⟨b4,0,none⟩) 3 3,.slice (some ⟨b6,0,none⟩) 1 1] ?_
 refine D.aV [[strV [49,48]],[strV [49,48]],[strV [49,48]]] rfl rfl rfl rfl rfl rfl rfl rfl rfl rfl rfl rfl (fun _=>rfl) (fun b8 C8 hle8 hs8=>?_)
 refine D.ak ([strV [65],strV [48],strV []]) ?_
 refine D.ak ([strV [66],strV [48],strV []]) ?_
 refine D.aV [[strV [65],strV [48],strV []],[strV [66],strV [48],strV []]] rfl rfl rfl rfl rfl rfl rfl rfl rfl rfl rfl rfl (fun _=>rfl) (fun b11 C11 hle11 hs11=>?_)
 refine D.af (at_fn _ (hT.mono mup) 3 0 (by decide) (by decide)) rfl rfl rfl rfl rfl rfl rfl (fun _=>rfl) ?_
 refine D.ak [.int .i64 2,strV [99],strV (qtx ((3:Int):Rat)),strV (qtx ((0:Int):Rat)),strV [52],strV [66],strV [65],strV [],strV [],strV []] ?_
 refine D.af (at_fn _ (hT.mono mup) 3 0 (by decide) (by decide)) rfl rfl rfl rfl rfl rfl rfl (fun _=>rfl) ?_
 refine D.af (vec_fn _ (hT.mono mup) (-1) 0 2 (by decide) (by decide) (by decide)) rfl rfl rfl rfl rfl rfl rfl (fun _=>rfl) ?_
 refine D.ak [.int .i64 3,strV [100],strV (qtx ((3:Int):Rat)),strV (qtx ((0:Int):Rat)),strV [],strV [66],strV [65],strV (qtx ((-1:Int):Rat)),strV (qtx ((0:Int):Rat)),strV (qtx ((2:Int):Rat))] ?_
 refine D.aV [[.int .i64 2,strV [99],strV (qtx ((3:Int):Rat)),strV (qtx ((0:Int):Rat)),strV [52],strV [66],strV [65],strV [],strV [],strV []],[.int .i64 3,strV [100],strV (qtx ((3:Int):Rat)),strV (qtx ((0:Int):Rat)),strV [],strV [66],strV [65],strV (qtx ((-1:Int):Rat)),strV (qtx ((0:Int):Rat)),strV (qtx ((2:Int):Rat))]] rfl rfl rfl rfl rfl rfl rfl rfl rfl rfl rfl rfl (fun _=>rfl) (fun b17 C17 hle17 hs17=>?_)
 refine D.ak [.slice (some ⟨b4,0,none⟩) 3 3,.slice (some ⟨b6,0,none⟩) 1 1,.slice (some ⟨b8,0,none⟩) 3 3,.slice (some ⟨b11,0,none⟩) 2 2,.slice (some ⟨b17,0,none⟩) 2 2] ?_
 refine D.aj (j:=0) ?_
 refine D.e1 0 hR ?_
 refine G.aA (G.ee (.head _) rfl rfl rfl rfl ?_)
 exact ⟨rfl,_,_,_,_,_,rfl,hs4.mono mup,hs6.mono mup,hs8.mono mup,(by rw [ex_col];exact hs11.mono mup),hs17.mono mup⟩
theorem map_qtx_inj:∀ {l m:List Rat},l.map qtx=m.map qtx->l=m
 | [],[],_=>rfl
 | [],_::_,h=>by simp at h
 | _::_,[],h=>by simp at h
 | a::l,b::m,h=>by
  simp only [List.map_cons,List.cons.injEq] at h
  rw [qtx_eq h.1,map_qtx_inj h.2]
theorem map_qtx_dec (l m:List Rat):decide (l.map qtx=m.map qtx)=decide (l=m):=by
 rw [decide_eq_decide]
 exact ⟨map_qtx_inj,fun h=>by rw [h]⟩
theorem sameRow_fn (C:Mem)(f1 f2:Value)(l1 l2:List Rat)(b1 b2:Rat)(h1:Sl C 1 f1 (l1.map encQ))(h2:Sl C 1 f2 (l2.map encQ)) :
  Gives cx.P 36 [.agg ⟨[f1,strV (qtx b1)]⟩,.agg ⟨[f2,strV (qtx b2)]⟩] C (.bool (decide (l1=l2) && decide (b1=b2))):=by
 refine Fn.it (by kernel_rfl) Tryz.func36 17 fun w0=>?_
 refine G.rg fun R hR=>?_
 refine D.aE (fun b2=>?_)
 refine D.aE (fun b3=>?_)
 refine D.q2 1 2 3 hR ?_
 refine G.freeze 1 rfl (fun C1 hle1 hb1=>?_)
 refine G.freeze 0 rfl (fun C2 hle2 hb2=>?_)
 refine G.rp 1 fun R hR=>?_
 refine D.aa (bkT hb1 1) ?_
 refine D.ae ?_
 refine D.aa (bkT hb2 1) ?_
 refine D.af (same13_fn _ _ _ (l1.map qtx) (l2.map qtx) (by rw [<- encQ_S1];exact h1.mono mup) (by rw [<- encQ_S1];exact h2.mono mup)) rfl rfl rfl rfl rfl rfl rfl (fun _=>rfl) ?_
 refine D.ps 2 ?_
 refine D.aY rfl rfl rfl rfl rfl rfl (fun _=>PtrTo.blockT (Mem.get hb1 mup) _ 1) rfl rfl rfl ?_
 refine D.ae ?_
 refine D.aY rfl rfl rfl rfl rfl rfl (fun _=>PtrTo.blockT (Mem.get hb2 mup) _ 1) rfl rfl rfl ?_
 refine D.ae ?_
 refine D.ay ?_
 refine D.q1 1 4 hR ?_
 refine G.rf ?_
 exact ⟨by rw [qtxEq,map_qtx_dec],rfl⟩
end Go.Proofs.YtmgkekjbbodicaaGreatDoor
