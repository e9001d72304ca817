/- Laws that the proofs of this seat share, part 2. -/
import Derived.Test.YtgfiffppookakaaGreatDoorG1
import Derived.Test.YtgfiffppookakaaGreatDoorShelf
import Derived.OpenShut
import Derived.ChangeSame
import Derived.ChangeVars
import Derived.Deep.Slices
import Derived.Deep.DeepHandedRow
import Derived.LaidLaws
import Derived.WalkKit
import Derived.ProofKit
import Derived.Shelf.Vars
import Derived.ChangeKeysEq
import Derived.MapKept
import Derived.Sort.Walk0
import Derived.Shelf.SlSortCmp.Insertion
import Derived.Test.YtgfiffppookakaaGreatDoorProg
import Derived.Laws.Bits64b
namespace Go.Jog
open Go

section
variable {cx:Cx} {n:Nat} {ds:List (Option Nat)} {R:Rg n ds} {its:List It} {fr:Fr} {C:Mem} {L:List Ent} {i k d:Nat} {o:Oper} {g:GL} {v:Value}

theorem Sl.flat {C:Mem}{s:Nat}{A:Option Addr}{len c:Nat}{rows:List (List Value)}(hs:Sl C s (.slice A len c) rows)(hpos:0<s)(hne:rows≠[]) :
  len=rows.length/\∃ a,A=some a/\a.spot=none/\∀ (q:Nat)(u:Value),rows.flatten[q]?=some u->CCell C (a.add q) u:=by
 obtain ⟨A',c',h1,h2,h3,h4,h5⟩:=hs;cases h1
 refine ⟨Z, ?_⟩;cases rows with
 | nil=>exact absurd rfl hne
 | cons r rs =>
  obtain ⟨ad,hA,hsp,_⟩:=h5 0 r (by simp);subst hA;refine ⟨ad,Z,hsp,fun q u hq=>?_⟩;have hqlt:q<(r::rs).length*s:=by rw [<- aU h4];exact (aJ.1 hq).1
  have hdiv:q / s<(r::rs).length:=OA (by rw [K8];exact hqlt);have hgi:(r::rs)[q / s]?=some (r::rs)[q / s]:=aq hdiv;have hmod:q % s<((r::rs)[q / s]).length:=by rw [h4 _ (Mv hdiv)];exact K9 _ hpos
  have hgj:=aq hmod;have heq:=getElem?_flatten_rows h4 hgi hgj;have hq':q / s*s+q % s=q:=by rw [K8];exact MT q s
  rw [hq',hq] at heq;obtain ⟨ad',e3,e4,e5⟩:=h5 _ _ hgi;cases e3
  have:=e5 _ _ hgj;rw [hq'] at this;rw [LJ heq];exact this

theorem nT {P:Program}{a:Act}{o:Oper}{t:Nat}{x y:Operand}(hop:o.op=.call ⟨.builtin .append,#[x,y],#[t,t]⟩){r:Value}{w w':World}(h:(Builtin.append_ #[t,t] o.type #[a.eval x,a.eval y]).run P w=.ok r w') :
  (execOp a.eval o).run P w=.ok (.value r) w':=by
 have e1:execOp a.eval o=(do let dd <- resolve a.eval ⟨.builtin .append,#[x,y],#[t,t]⟩ o.type;invoke dd.target dd.args:Sem Next):=by unfold execOp;rw [hop]
 rw [e1];simp only [resolve,invoke,builtin,Sem.run_bind,Sem.run_pure,Result.andThen_ok,MZ,Li,M3,h]

theorem D.tT {t e n0 c0:Nat}{x y:Operand}{ti te:TI}{p:Value}{A:Option Addr}{rows0 rows:List (List Value)}(hk:k=3)(hd:o.dst=some d)(hg:gOn ds fr o.guard=true)
  (hop:o.op=.call ⟨.builtin .append,#[x,y],#[t,t]⟩) (ht:cx.T.get t=some ti) (hte:ti.k=.slice e) (he:cx.T.get e=some te) (hs0:Nat.beq te.size 0=false)
  (hx:ev fr [] x=some (.slice A n0 c0)) (hy:ev fr [] y=some p) (hs:Sl C te.size (.slice A n0 c0) rows0) (hsl:Sl C te.size p rows) (hgrow:rows=[]∨c0<rows0.length+rows.length)
  (h63:rows0.length+rows.length<=maxLen) (hbytes:(rows0.length+rows.length)*te.bytes<=140737488355328) (hp:∀ v,aO n ds ((d,[],v)::fr) d=true)
  (h:∀ v' C',C.le C'->Sl C' te.size v' (rows0++rows)->D cx R its ((d,[],v')::fr) C' L):D cx R ((i,k,o)::its) fr C L:=by
 have hu:cx.P.underlying t=some (.slice e):=by
  obtain ⟨kk,s1,b1,z1,g1⟩:=ti;simp only at hte;subst hte;exact ck cx.hT ht
 obtain ⟨inf,hi,hsize,hby,hz,hzc⟩:=(dW cx.hT he).info;have hpos:0<te.size:=MG (fun e=>by rw [e] at hs0;cases hs0);have hs00:=hs;obtain ⟨A1,c1,h1v,h2v,h3v,h4v,h5v⟩:=hs00;cases h1v
 have hsl0:=hsl;obtain ⟨B,c,hpv,hlc,hcm,hrl,hcells⟩:=hsl0;have hk1:Nat.ble k 1=false:=by subst hk;rfl
 by_cases hr0:rows=[]
 ·subst hr0;refine D.gF (S:=fun v' C' L'=>v'=.slice A rows0.length c0/\C'=C/\L'=L) hk1 hd hg hp (fun a hss w _ hw=>?_) (fun v' C' L' hle ⟨e1,e2,e3⟩=>?_)
  ·have hr:(Builtin.append_ #[t,t] o.type #[a.eval x,a.eval y]).run cx.P w=.ok (.slice A rows0.length c0) w:=by
    rw [hss _ _ hx,hss _ _ hy,hpv];have hfc:(Builtin.firstCells te.size 0 (.slice B 0 c)).run cx.P w=.ok #[] w:=by
     cases B <;> simp [Builtin.firstCells,loadCells,loadCellsFrom]
    simp only [J8];cases A with
    | none=>simp [Builtin.append_,run_underlying hu,sizeOf,typeInfo,hi,hsize,Builtin.lenOf,hfc,h2v]
    | some a0=>simp [Builtin.append_,run_underlying hu,sizeOf,typeInfo,hi,hsize,Builtin.lenOf,hfc,h2v,storeCells]
   unfold Oper.wp;rw [nT hop hr];exact ⟨_,C,L,Z,Mem.le.refl _,fun h2=>by omega,hw,Z,Z,Z⟩
  ·subst e1;subst e2;subst e3;exact h _ C' hle (by simpa using hs)
 ·have hgrow':c0<rows0.length+rows.length:=hgrow.resolve_left hr0;obtain ⟨-,b0,hB, -,hbc⟩:=Sl.flat (hpv ▸ hsl) hpos hr0;subst hB;have hm0:0<rows.length:=K6.2 hr0;have hfl:=aU hrl;have hfl0:=aU h4v;refine D.xN (S:=fun v' b ob=>∃ (cc:Nat)(rest:Array Value),v'=.slice (some ⟨b,0,none⟩) (rows0.length+rows.length) cc/\ob=.cells (rows0.flatten.toArray++rows.flatten.toArray++rest) e (0,0)/\rows0.length+rows.length<=cc/\cc<=maxLen) hk1 hd hg hp
   (fun a hss w _ L1 w1 hw=>?_) (fun v' b ob C' hle hb ⟨cc,rest,e1,e2,e3,e4⟩=>?_)
  ·have hnews:∀ (j:Nat)(u:Value),rows.flatten[j]?=some u->w.cell? (b0.add j)=some u:=fun j u hj=>(hbc j u hj).cell hw.sep;have hsz1:rows.flatten.length=rows.length*inf.size:=by rw [hfl,hsize]
   have hsz0:rows0.flatten.length=rows0.length*inf.size:=by rw [hfl0,hsize]
   refine ⟨.slice (some ⟨w.heap.size,0,none⟩) (rows0.length+rows.length) (grownCap w (rows0.length+rows.length) c0 e),_,w.drew.alloc (.cells (rows0.flatten.toArray++rows.flatten.toArray++Builtin.zeroCells te.zv.cells (grownCap w (rows0.length+rows.length) c0 e-(rows0.length+rows.length))) e), ?_, ?_,grownCap w (rows0.length+rows.length) c0 e,Builtin.zeroCells te.zv.cells (grownCap w (rows0.length+rows.length) c0 e-(rows0.length+rows.length)),Z,Z,grownCap_ge w _ _ e,grownCap_le_maxLen w _ _ e h63⟩
   ·refine nT hop ?_;rw [hss _ _ hx,hss _ _ hy,hpv];cases hA:A with
    | none =>
     subst hA;have hr00:rows0=[]:=by
      cases rows0 with
      | nil=>rfl
      | cons r rs=>obtain ⟨ad,hA,_⟩:=h5v 0 r (by simp);cases hA
     subst hr00;have hc0:c0<rows.length:=by simpa using hgrow'
     have hf:=run_firstCells_some (P:=cx.P) w.drew inf.size rows.length b0 rows.length c rows.flatten hsz1 (by simpa using hnews);have hn:rows.length≠0:=by omega
     have h63':¬ (9223372036854775807<(rows.length:Int)):=by simp only [maxLen,J8] at h63;omega
     have hfits:¬ (281474976710656<Builtin.nextslicecap rows.length c0*inf.bytes):=by
      have hb:=hbytes;simp only [J8,LO,<- hby] at hb;have:=growslice_fits (need:=rows.length) (bytes:=inf.bytes) (old:=c0) hc0 hb;omega
     have hroom:¬ (rows.length<=c0):=by omega
     simp [Builtin.append_,run_underlying hu,sizeOf,typeInfo,zeroValue,hi,hz,Builtin.lenOf,hroom,h63',hfits,Question.forced,run_firstCells_none,hf,newRow,grownCap]
    | some a0 =>
     subst hA;have hold:∀ (j:Nat)(u:Value),rows0.flatten[j]?=some u->w.cell? (a0.add j)=some u:=fun j u hj=>by
      cases hr:rows0 with
      | nil=>subst hr;simp at hj
      | cons r rs =>
       obtain ⟨-,a1,hA1, -,hac⟩:=Sl.flat hs hpos (by rw [hr];simp);cases hA1
       exact (hac j u hj).cell hw.sep
     exact run_append_grow (P:=cx.P) w t o.type e inf te.zv hu hi hz a0 rows0.length c0 rows0.flatten hsz0 hold b0 rows.length c rows.flatten hsz1 hnews om_ (by simp only [maxLen] at h63;omega) (by rw [hby];exact growslice_fits om_ hbytes)
   ·exact ⟨Z,Z,Z,by simp,fun q hq=>heap_alloc_old w.drew _ hq,heap_alloc_new w.drew _,Ol _⟩
  ·subst e1;subst e2;have:=Sl.ofBlock (rows:=rows0++rows) (s:=te.size) (c:=cc) hb (fun r hr=>(Lh.1 hr).elim (h4v r) (hrl r)) (fun j u hj=>by
    have hlt:=(aJ.1 hj).1;rw [LK] at hj hlt;have e5:(rows0.flatten.toArray++rows.flatten.toArray:Array Value)=(rows0.flatten++rows.flatten).toArray:=by simp
    rw [e5];rw [Array.getElem?_append_left (by simpa using hlt)];simpa using hj) (by simpa using e3) e4
   simp only [eh] at this;exact h _ C' hle this

/-! ### Rows of the function's own that are made -/
theorem St.objArr {w0:World}{C0:Mem}{L0:List Ent}{C:Mem}{L:List Ent}{w:World}{b e s m cap:Nat}{cs xs:List Value}(h:St w0 C0 L0 C (.obj b (.cells ⟨cs⟩ e (0,0))::L) w)(hx:cs.take (m*s)=xs)(hcs:cs.length=cap*s)(hm:m<=cap)(hc:cap<=maxLen) :
  St w0 C0 L0 C (.arr (.slice (some ⟨b,0,none⟩) m cap) e s m xs::L) w:=by
 have hb:w.heap[b]?=some (.cells ⟨cs⟩ e (0,0)):=h.sep.e _ (br ..);have hd:=Ls.1 h.sep.d;have hown:∀ k,(Ent.arr (.slice (some ⟨b,0,none⟩) m cap) e s m xs).own k->k=b:=fun k hk=>by simp only [Ent.own,Value.ownBlock,zl] at hk;exact hk.symm
 have hle:m*s<=cap*s:=Lm _ hm;refine ⟨⟨h.sep.c,fun x hx'=>?_,Ls.2 ⟨fun y hy k hk=>hd.1 y hy k (hown k hk),hd.2⟩,fun k ⟨x,hx',hk⟩=>?_⟩,h.ev,h.c0,h.cn,fun k ⟨x,hx',hk⟩=>?_⟩
 ·rcases cI.1 hx' with rfl | hx'
  ·exact ⟨by rw [<- hx,eB];omega,.inr ⟨b,cap,⟨cs⟩,Z,ch _,hb,hm,hc,by simpa using hcs,by simpa using hx⟩⟩
  ·exact h.sep.e x (by simp [hx'])
 ·rcases cI.1 hx' with rfl | hx'
  ·exact h.sep.n k ⟨_,br ..,hown k hk⟩
  ·exact h.sep.n k ⟨x,by simp [hx'],hk⟩
 ·rcases cI.1 hx' with rfl | hx'
  ·exact h.ln k ⟨_,br ..,hown k hk⟩
  ·exact h.ln k ⟨x,by simp [hx'],hk⟩

theorem D.xL {e s m cap:Nat}{cs xs:List Value}(hk:Nat.ble k 1=false)(hd:o.dst=some d)(hg:gOn ds fr o.guard=true)(hp:∀ v,aO n ds ((d,[],v)::fr) d=true)
  (hrun:∀ a,D1 (ev fr []) a->∀ w,(execOp a.eval o).run cx.P w=.ok (.value (.slice (some ⟨w.heap.size,0,none⟩) m cap)) (w.alloc (.cells ⟨cs⟩ e))) (hx:cs.take (m*s)=xs) (hcs:cs.length=cap*s) (hm:m<=cap) (hc:cap<=maxLen)
  (h:∀ b,D cx R its ((d,[],.slice (some ⟨b,0,none⟩) m cap)::fr) C (.arr (.slice (some ⟨b,0,none⟩) m cap) e s m xs::L)):D cx R ((i,k,o)::its) fr C L :=
 D.gF (S:=fun v C' L'=>C'=C/\∃ b,v=.slice (some ⟨b,0,none⟩) m cap/\L'=.arr (.slice (some ⟨b,0,none⟩) m cap) e s m xs::L) hk hd hg hp (fun a hs w _ hw=>by
  unfold Oper.wp;rw [hrun a hs w];exact ⟨_,C,.arr (.slice (some ⟨w.heap.size,0,none⟩) m cap) e s m xs::L,Z,Mem.le.refl _,fun _ x hx=>by simp [hx],St.objArr (St.alloc hw _) hx hcs hm hc,Z,_,Z,Z⟩)
  (fun v C' L' _ ⟨e1,b,e2,e3⟩=>by subst e1;subst e2;subst e3;exact h b)

theorem D.ec {t e len:Nat}{parts:Array (Nat × Operand)}{ti te:TI}(rows:List (List Value))(e_0:Z12 (Nat.ble k 1) false o.dst (some d) (gOn ds fr o.guard) true o.op (.buildSlice t len parts) (cx.T.get t) (some ti) ti.k (.slice e) (cx.T.get e) (some te) (oh (ev fr []) parts.toList 0) (some rows) (rows.all fun r=>Nat.beq r.length te.size) true (Nat.beq parts.toList.length len) true (Nat.ble (len*te.size) 16777216) true (Nat.beq te.size 0) false)(hp:∀ v,aO n ds ((d,[],v)::fr) d=true)(h:∀ b,D cx R its ((d,[],.slice (some ⟨b,0,none⟩) rows.length rows.length)::fr) C (.arr (.slice (some ⟨b,0,none⟩) rows.length rows.length) e te.size rows.length rows.flatten::L)):D cx R ((i,k,o)::its) fr C L:=by
 have ⟨hk,hd,hg,hop,ht,hte,he,hrows,hl,hlen,hbig,hs0⟩:=e_0;have hl':∀ r∈rows,r.length=te.size:=fun r hr=>fB (ep.1 hl r hr);have hlen':=fB hlen;rw [Mg] at hbig;have hpl:=(cO hrows hl').2;have hfl:=aU hl';have h0:0<te.size:=MG (fun e=>by rw [e] at hs0;cases hs0);refine D.xL (cs:=rows.flatten) hk hd hg hp (fun a hs w=>?_) (gG om_) hfl (aP _) ?_ h
 ·have e1:execOp a.eval o=(do Pure.pure (.value (<- Instr.buildSlice t len (parts.map fun (i,x)=>(i,a.eval x)))):Sem Next):=by unfold execOp;rw [hop]
  rw [e1];have e2:(parts.map fun (i,x)=>(i,a.eval x))=(parts.toList.map fun (i,x)=>(i,a.eval x)).toArray:=by apply Ml;simp
  rw [e2];simp only [Sem.run_bind,ee cx.hT ht hte he (fun x v hx=>hs x v hx) hrows hl' hlen' hbig w,Result.andThen_ok,Sem.run_pure]
 ·rw [hpl,hlen'];have:len<=len*te.size:=MO _ h0;simp only [maxLen];omega

def nY (z:List Value):Nat->List Value
 | 0=>[]
 | m+1=>z++nY z m
theorem eP (z:List Value):∀ m,(nY z m).length=m*z.length
 | 0=>by simp [nY]
 | m+1=>by simp [nY,eP z m,L9];omega
theorem dM (z:List Value):∀ m,nY z m=(List.replicate m z).flatten
 | 0=>rfl
 | m+1=>by simp [nY,dM z m,NH]
theorem vA (z:List Value):∀ (m q:Nat),q<m*z.length->(nY z m)[q]?=z[q % z.length]?
 | 0,q,h=>by simp at h
 | m+1,q,h=>by
  simp only [nY];by_cases hq:q<z.length
  ·rw [LS hq,Mw hq]
  ·rw [LD om_,vA z m _ (by rw [L9] at h;omega)];congr 1;rw [Nat.mod_eq_sub_mod (by omega:z.length<=q)]

theorem Hu (z:List Value)(m:Nat):madeCells ⟨z⟩ (m*z.length)=⟨nY z m⟩:=by
 apply Ml;apply List.ext_getElem?;intro q;simp only [madeCells,Array.toList_map,Array.toList_range,bX,MQ];by_cases hq:q<m*z.length
 ·rw [vA z m q hq,MW hq];have hz:0<z.length:=by
   rcases LV z.length with h | h
   ·rw [h] at hq;simp at hq
   ·exact h
  have hlt:q % z.length<z.length:=K9 _ hz;simp only [MR];rw [aq hlt];simp [hlt]
 ·rw [LF (by simp;omega),LF (by rw [eP];omega)];rfl

theorem D.bK {t e:Nat}{x y:Operand}{kx ky:IntKind}{l c:Nat}{ti te:TI}(e_0:Z9 (Nat.ble k 1) false o.dst (some d) (gOn ds fr o.guard) true o.op (.makeSlice t x y) (cx.T.get t) (some ti) ti.k (.slice e) (cx.T.get e) (some te) (ev fr [] x) (some (.int kx l)) (ev fr [] y) (some (.int ky c)))(hlc:l<=c)(hb:te.bytes*c<=281474976710656)(hc:c<=maxLen)(hp:∀ v,aO n ds ((d,[],v)::fr) d=true)(h:∀ b,D cx R its ((d,[],.slice (some ⟨b,0,none⟩) l c)::fr) C (.arr (.slice (some ⟨b,0,none⟩) l c) e te.size l (nY (te.zero.map Zv.val) l)::L)):D cx R ((i,k,o)::its) fr C L:=by
 have ⟨hk,hd,hg,hop,ht,hte,he,hx,hy⟩:=e_0;have hu:cx.P.underlying t=some (.slice e):=by
  obtain ⟨kk,s1,b1,z1,g1⟩:=ti;simp only at hte;subst hte;exact ck cx.hT ht
 obtain ⟨inf,hi,hsize,hby,hz,hzc⟩:=(dW cx.hT he).info;have hzl:(te.zero.map Zv.val).length=te.size:=by
  have:=(dW cx.hT he).zsize;rw [hzc] at this;simpa using this
 have hsplit:∀ m q,nY (te.zero.map Zv.val) (m+q)=nY (te.zero.map Zv.val) m++nY (te.zero.map Zv.val) q:=by
  intro m q;induction m with
  | zero=>simp [nY]
  | succ m ih=>rw [show m+1+q=(m+q)+1 by omega];simp [nY,ih]
 refine D.xL (cs:=nY (te.zero.map Zv.val) c) hk hd hg hp (fun a hs w=>?_) ?_ (by rw [eP,hzl]) hlc hc h
 ·have e1:execOp a.eval o=(do Pure.pure (.value (<- Instr.makeSlice t (a.eval x) (a.eval y))):Sem Next):=by unfold execOp;rw [hop]
  rw [e1,hs _ _ hx,hs _ _ hy];have hr:=run_make (P:=cx.P) w t e inf te.zv hu hi hz kx ky (l:Int) (c:Int) om_ om_ (by rw [hby,<- La];omega) (by simp only [maxLen] at hc;omega);simp only [L5] at hr;rw [hsize,<- hzl,hzc,Hu] at hr;simp only [Sem.run_bind,hr,Result.andThen_ok,Sem.run_pure]
 ·obtain ⟨q,rfl⟩:∃ q,c=l+q:=⟨c-l,by omega⟩;rw [hsplit];exact List.take_left' (by rw [eP,hzl])

/-! ### Arrays behind pointers -/
theorem oK {P:Program}{t e len size:Nat}(hu:P.underlying t=some (.array len e)){ki:IntKind}{m:Int}(h0:0<=m)(h1:m<len)(a:Addr){w:World}(hsz:(sizeOf e).run P w=.ok size w) :
  (Instr.indexAt t (.pointer (some a)) (.int ki m)).run P w=.ok (.pointer (some (a.add (m.toNat*size)))) w:=by
 simp [Instr.indexAt,asIntOf,run_underlying hu,Instr.sureAddr,hsz,h0,h1]

theorem D.aE (off:Nat){t e len b off0:Nat}{x y:Operand}{ki:IntKind}{m:Int}{ti te:TI}(e_0:Z9 (Nat.ble k 1) true o.dst (some d) o.op (.indexAddr t x y) (gOf ds fr o.guard) (some g) (ev fr g x) (some (.pointer (some ⟨b,off0,none⟩))) (ev fr g y) (some (.int ki m)) (cx.T.get t) (some ti) ti.k (.arr len e) (cx.T.get e) (some te))(h0:GT ds fr g->0<=m/\m<len/\off=off0+m.toNat*te.size)(e_1:Z2 (aO n ds ((d,g,.pointer (some ⟨b,off,none⟩))::fr) d) true (wfG ds fr g) true)(h:D cx R its ((d,g,.pointer (some ⟨b,off,none⟩))::fr) C L):D cx R ((i,k,o)::its) fr C L:=by
 have ⟨hk,hd,hop,hg,hx,hy,ht,hte,he⟩:=e_0;have ⟨hp,hwf⟩:=e_1;have hu:cx.P.underlying t=some (.array len e):=by
  obtain ⟨kk,s1,b1,z1,g1⟩:=ti;simp only at hte;subst hte;exact ko cx.hT ht
 refine D.run _ hk hd hg (fun hGT a hs w=>?_) hp hwf h;obtain ⟨hm0,hml,rfl⟩:=h0 hGT;have e1:execOp a.eval o=(do Pure.pure (.value (<- Instr.indexAt t (a.eval x) (a.eval y))):Sem Next):=by unfold execOp;rw [hop]
 rw [e1,hs _ _ hx,hs _ _ hy];simp only [Sem.run_bind,oK hu hm0 hml _ (dJ cx.hT he w),Result.andThen_ok,Sem.run_pure,Addr.add_lit]

theorem D.xM {t e len:Nat}{x y:Operand}{ki:IntKind}{m:Int}{p:Value}{cs:List Value}{ti te:TI}(hk:Nat.ble k 1=true)(hd:o.dst=some d)(hop:o.op=.indexAddr t x y)
  (hg:gOf ds fr o.guard=some g) (hx:ev fr g x=some p) (hy:ev fr g y=some (.int ki m)) (ht:cx.T.get t=some ti) (hte:ti.k=.arr len e) (he:cx.T.get e=some te)
  (hc:GT ds fr g->PtrTo C p cs) (h0:GT ds fr g->0<=m/\m<len) (hp:∀ v,aO n ds ((d,g,v)::fr) d=true) (hwf:wfG ds fr g=true)
  (h:∀ p',(GT ds fr g->PtrTo C p' ((cs.drop (m.toNat*te.size)).take te.size))->D cx R its ((d,g,p')::fr) C L):D cx R ((i,k,o)::its) fr C L:=by
 have hu:cx.P.underlying t=some (.array len e):=by
  obtain ⟨kk,s1,b1,z1,g1⟩:=ti;simp only at hte;subst hte;exact ko cx.hT ht
 by_cases hG:GT ds fr g
 ·obtain ⟨ad,hpe,hpt⟩:=(hc hG).part (m.toNat*te.size) te.size;refine D.gH hk hd hg (hp (.pointer (some (ad.add (m.toNat*te.size))))) hwf (fun _ a hsee κ' hκ w hw=>?_) (h _ (fun _=>hpt));have e1:execOp a.eval o=(do Pure.pure (.value (<- Instr.indexAt t (a.eval x) (a.eval y))):Sem Next):=by unfold execOp;rw [hop]
  unfold Oper.quietAt;rw [e1,hsee _ _ hx,hsee _ _ hy,hpe];simp only [Sem.run_bind,oK hu (h0 hG).1 (h0 hG).2 _ (dJ cx.hT he w),Result.andThen_ok,Sem.run_pure];exact ⟨Z,Z⟩
 ·exact D.gH hk hd hg (hp undef) hwf (fun hGT=>absurd hGT hG) (h _ (fun hGT=>absurd hGT hG))

/-! ### Bytes to a string -/
theorem yJ (s:List UInt8):∀ acc:ByteArray,(s.map fun b=>(b.toNat:Int)).foldl (fun r n=>r.push (UInt8.ofNat n.toNat)) acc=acc++⟨s.toArray⟩:=by
 induction s with
 | nil =>
  intro acc;apply ByteArray.ext;simp [Oy]
 | cons b s ih =>
  intro acc;simp only [Li,N3];rw [ih];have e:UInt8.ofNat ((b.toNat:Int)).toNat=b:=by simp
  rw [e];apply ByteArray.ext;simp [Oy,ByteArray.data_push]

theorem D.Im {src dst e:Nat}{x:Operand}{p:Value}{s:List UInt8}{ts td te:TI}(hs:Sl C 1 p (s.map fun b=>[.int .u8 b.toNat]))(hk:k=2)(hd:o.dst=some d)(hop:o.op=.convert src dst x)(hg:gOn ds fr o.guard=true)(hx:ev fr [] x=some p)
  (hts:cx.T.get src=some ts) (hks:ts.k=.slice e) (htd:cx.T.get dst=some td) (hkd:td.k=.str) (hte:cx.T.get e=some te) (hke:te.k=.int .u8) (hp:∀ v,aO n ds ((d,[],v)::fr) d=true)
  (h:D cx R its ((d,[],.string ⟨s.toArray⟩)::fr) C L):D cx R ((i,k,o)::its) fr C L :=
 D.gF (S:=fun v C' L'=>v=.string ⟨s.toArray⟩/\C'=C/\L'=L) (by subst hk;rfl) hd hg hp (fun a hss w _ hw=>by
  have hus:cx.P.underlying src=some (.slice e):=by
   obtain ⟨kk,s1,b1,z1,g1⟩:=ts;simp only at hks;subst hks;exact ck cx.hT hts
  have hud:cx.P.underlying dst=some .string:=by
   obtain ⟨kk,s1,b1,z1,g1⟩:=td;simp only at hkd;subst hkd;exact mo cx.hT htd
  have hue:cx.P.underlying e=some (.int .u8):=by
   obtain ⟨kk,s1,b1,z1,g1⟩:=te;simp only at hke;subst hke;exact pX cx.hT hte
  have hsl:=hs;obtain ⟨A,c,rfl,hlc,hcm,hrl,hcells⟩:=hsl;have hex:(execOp a.eval o).run cx.P w=.ok (.value (.string ⟨s.toArray⟩)) w:=by
   have e1:execOp a.eval o=(do Pure.pure (.value (<- convert src dst (a.eval x))):Sem Next):=by unfold execOp;rw [hop]
   rw [e1,hss _ _ hx];simp only [Sem.run_bind,run_convert_bytes_string w src dst e _ _ _ hus hue hud];cases hse:s with
   | nil =>
    subst hse;cases A with
    | none=>simp [Conv.bytesToString];rfl
    | some a0 =>
     have hl0:(loadCells a0 0).run cx.P w=.ok (([]:List Int).map (Value.int .u8)).toArray w:=by simp [loadCells,loadCellsFrom]
     have hb:=run_bytesToString (P:=cx.P) w a0 0 c [] hl0;simp only [M3,J8,hb,Result.andThen_ok];rfl
   | cons b bs =>
    obtain ⟨hlen,a0,rfl, -,hac⟩:=Sl.flat hs om_ (by rw [hse];simp);rw [fw] at hac;have hl0:(loadCells a0 (s.map fun b=>[Value.int .u8 b.toNat]).length).run cx.P w=.ok ((s.map fun b=>(b.toNat:Int)).map (Value.int .u8)).toArray w:=by
     have:=iR (P:=cx.P) (w:=w) (a:=a0) (cs:=s.map fun b=>Value.int .u8 b.toNat) (fun j v hj=>(hac j v hj).cell hw.sep);simpa [Function.comp_def] using this
    have hb:=run_bytesToString (P:=cx.P) w a0 _ c _ hl0;rw [<- hse];simp only [hb,Result.andThen_ok,yJ,Sem.run_pure];congr 3
  unfold Oper.wp;rw [hex];exact ⟨_,C,L,Z,Mem.le.refl _,fun _ _ h=>h,hw,Z,Z,Z⟩)
  (fun v C' L' _ ⟨e1,e2,e3⟩=>by subst e1;subst e2;subst e3;exact h)
end

/-! ### Results that lie in a cell -/
section
variable {F:Fx} {k:List KI} {fr:Fr} {C:Mem} {L:List Ent}
theorem ed {w:World}{b t:Nat}{cs:List Value}{tb:TypeId}{fz:Nat × Nat}{ti:TI}{v:Value}(ht:F.cx.T.get t=some ti)(hb:w.heap[b]?=some (.cells ⟨cs⟩ tb fz))(hv:bR ti (cs.take ti.size)=some v):(loadVar t ⟨b,0,none⟩).run F.cx.P w=.ok v w:=by
 refine eT F.cx.hT ht (cs:=cs.take ti.size) (fun j u hj=>?_) hv;rw [Addr.add_lit,cell_of_row w b (0+j) _ tb fz hb];rw [Ly] at hj;split at hj
 ·simpa using hj
 ·cases hj

theorem G.aR {r b t:Nat}{cs:List Value}{tb:TypeId}{fz:Nat × Nat}{ti:TI}{v:Value}(hm:Ent.obj b (.cells ⟨cs⟩ tb fz)∈L)(e_0:Z4 F.fn.results (#[.cell r t]) (ev fr [] (.tmp r)) (some (.pointer (some ⟨b,0,none⟩))) (F.cx.T.get t) (some ti) (bR ti (cs.take ti.size)) (some v))(h:F.post v C [])(he:F.ends:=by exact ⟨fun _ _ _ h=>h,rfl⟩):G F [] .ret fr C L:=have ⟨hres,hr,ht,hv⟩:=e_0;fun _ a w ha hw=>by
 refine he.kq ?_;have hr':=bd ha (fun p hp=>by cases hp) hr;simp only [Act.eval] at hr';refine bodyPost_ret (v:=v) ?_ (ha.defers.trans he.2) ⟨v,C,[],Z,St.dropAll hw,h⟩;have hl:=ed (F:=F) ht (hw.sep.e _ hm) hv;simp only [Le] at hr';simp [results,hres,hr',asAddr,hl]

theorem G.ik {r s b t:Nat}{cs:List Value}{tb:TypeId}{fz:Nat × Nat}{ti:TI}{u v:Value}(hm:Ent.obj b (.cells ⟨cs⟩ tb fz)∈L)(e_0:Z5 F.fn.results (#[.cell r t,.tmp s]) (ev fr [] (.tmp r)) (some (.pointer (some ⟨b,0,none⟩))) (ev fr [] (.tmp s)) (some u) (F.cx.T.get t) (some ti) (bR ti (cs.take ti.size)) (some v))(h:F.post (.tuple #[v,u]) C [])(he:F.ends:=by exact ⟨fun _ _ _ h=>h,rfl⟩):G F [] .ret fr C L:=have ⟨hres,hr,hs,ht,hv⟩:=e_0;fun _ a w ha hw=>by
 refine he.kq ?_;have hr':=bd ha (fun p hp=>by cases hp) hr;have hs':=bd ha (fun p hp=>by cases hp) hs;simp only [Act.eval] at hr' hs';refine bodyPost_ret (v:=.tuple #[v,u]) ?_ (ha.defers.trans he.2) ⟨_,C,[],Z,St.dropAll hw,h⟩;have hl:=ed (F:=F) ht (hw.sep.e _ hm) hv;simp only [Le] at hr' hs';simp [results,hres,hr',hs',asAddr,hl]
end
end Go.Jog
namespace Go.Jog
open Go
theorem eo {β:Type}(f:β->Value):∀ l:List β,(l.map fun x=>[f x]).flatten=l.map f
 | []=>rfl
 | x::l=>by simp [eo f l]

def aA (s:List UInt8):Value:=.string ⟨s.toArray⟩

end Go.Jog
namespace Go.Jog
open Go

section
variable {α:Type} {enc:α->List Value} {s:Nat}

theorem cX (hk:∀ x,(enc x).length=s)(l:List α):(l.map enc).flatten.length=l.length*s:=by
 have:=aU (s:=s) (rows:=l.map enc) (fun r hr=>by obtain ⟨x,_,rfl⟩:=j5.1 hr;exact hk x);simpa using this

theorem dq (hk:∀ x,(enc x).length=s):∀ (l:List α)(i:Nat),(l.map enc).flatten.take (i*s)=((l.take i).map enc).flatten/\(l.map enc).flatten.drop (i*s)=((l.drop i).map enc).flatten
 | [],i=>by simp
 | x::l,0=>by simp
 | x::l,i+1=>by
  obtain ⟨h1,h2⟩:=dq hk l i;have e:(i+1)*s=s+i*s:=by rw [L9];omega
  have hx:=hk x;constructor
  ·rw [e,Li,MP,List.take_append,hx,gG om_,show s+i*s-s=i*s by omega,h1];simp
  ·rw [e,Li,MP,Ow,hx,Mh om_,show s+i*s-s=i*s by omega,h2];simp

theorem fm (hk:∀ x,(enc x).length=s){l:List α}{i:Nat}{x:α}(h:l[i]?=some x):((l.map enc).flatten.drop (i*s)).take s=enc x:=by
 rw [(dq hk l i).2];obtain ⟨h1,h2⟩:=aJ.1 h;rw [K2 h1,h2,Li,MP];rw [List.take_append,hk,gG (by rw [hk];omega)];simp

theorem bV (hk:∀ x,(enc x).length=s){l:List α}{i:Nat}(x:α)(h:i<l.length):aM (l.map enc).flatten (enc x) (i*s)=((l.set i x).map enc).flatten:=by
 unfold aM;rw [hk,(dq hk l i).1,show i*s+s=(i+1)*s by rw [L9];omega,(dq hk l (i+1)).2];rw [List.set_eq_take_append_cons_drop,bW h];simp

end

section
variable {cx:Cx} {n:Nat} {ds:List (Option Nat)} {R:Rg n ds} {its:List It} {fr:Fr} {C:Mem} {L:List Ent} {i k d:Nat} {o:Oper} {g:GL} {v:Value}

end

/- An element's address in a slice that begins at a known place. -/
section
variable {cx:Cx} {n:Nat} {ds:List (Option Nat)} {R:Rg n ds} {its:List It} {fr:Fr} {C:Mem} {L:List Ent} {i k d:Nat} {o:Oper} {g:GL} {v:Value}
end

/- A whole array, or a part of it, as a slice. -/
section
variable {cx:Cx} {n:Nat} {ds:List (Option Nat)} {R:Rg n ds} {its:List It} {fr:Fr} {C:Mem} {L:List Ent} {i k d:Nat} {o:Oper} {g:GL} {v:Value}
theorem D.j4 (l:Nat)(h:Nat)(m:Nat){t e len size:Nat}{a:Addr}{x:Operand}{lo hi mx:Option Operand}{lv hv mv:Option Value}{ti te:TI}(e_0:Z12 (Nat.ble k 1) true o.dst (some d) o.op (.slice t x lo hi mx) (gOf ds fr o.guard) (some g) (ev fr g x) (some (.pointer (some a))) (Bl (ev fr g) lo) (some lv) (Bl (ev fr g) hi) (some hv) (Bl (ev fr g) mx) (some mv) (cx.T.get t) (some ti) ti.k (.arr len e) (cx.T.get e) (some te) te.size size)(hq:GT ds fr g->SlB len len lv hv mv l h m)(e_1:Z2 (aO n ds ((d,g,.slice (some (if m=l then a else a.add (l*size))) (h-l) (m-l))::fr) d) true (wfG ds fr g) true)(hh:D cx R its ((d,g,.slice (some (if m=l then a else a.add (l*size))) (h-l) (m-l))::fr) C L):D cx R ((i,k,o)::its) fr C L:=by
 have ⟨hk,hd,hop,hg,hx,hlo,hhi,hmx,ht,hte,he,hsz⟩:=e_0;have ⟨hp,hwf⟩:=e_1;have hu:cx.P.underlying t=some (.array len e):=by
  obtain ⟨kk,s1,b1,z1,g1⟩:=ti;simp only at hte;subst hte;exact ko cx.hT ht
 refine D.run _ hk hd hg (fun hG a hs w=>?_) hp hwf hh;have e1:execOp a.eval o=(do Pure.pure (.value (<- Instr.sliceAt t (a.eval x) (lo.map a.eval) (hi.map a.eval) (mx.map a.eval))):Sem Next):=by unfold execOp;rw [hop]
 rw [e1,hs _ _ hx,el (fun x v hx=>hs x v hx) hlo,el (fun x v hx=>hs x v hx) hhi,el (fun x v hx=>hs x v hx) hmx];have h2:=dJ cx.hT he w;rw [hsz] at h2;simp [Instr.sliceAt,Instr.sureAddr,run_underlying hu,eS (hq hG),h2]
end

section
variable {α:Type}
end

section
variable {cx:Cx} {n:Nat} {ds:List (Option Nat)} {R:Rg n ds} {its:List It} {fr:Fr} {C:Mem} {L:List Ent} {i k d:Nat} {o:Oper} {g:GL} {v:Value}
theorem D.dw {t e len:Nat}{parts:Array (Nat × Operand)}{ti te:TI}(rows:List (List Value))(e_0:Z12 (Nat.ble k 1) false o.dst (some d) (gOn ds fr o.guard) true o.op (.buildSlice t len parts) (cx.T.get t) (some ti) ti.k (.slice e) (cx.T.get e) (some te) (oh (ev fr []) parts.toList 0) (some rows) (rows.all fun r=>Nat.beq r.length te.size) true (Nat.beq parts.toList.length len) true (Nat.ble (len*te.size) 16777216) true (Nat.beq te.size 0) false)(hp:∀ v,aO n ds ((d,[],v)::fr) d=true)(h:∀ b C',C.le C'->Sl C' te.size (.slice (some ⟨b,0,none⟩) rows.length rows.length) rows->D cx R its ((d,[],.slice (some ⟨b,0,none⟩) rows.length rows.length)::fr) C' L):D cx R ((i,k,o)::its) fr C L:=by
 have ⟨hk,hd,hg,hop,ht,hte,he,hrows,hl,hlen,hbig,hs0⟩:=e_0;have hl':∀ r∈rows,r.length=te.size:=fun r hr=>fB (ep.1 hl r hr);have hlen':=fB hlen;rw [Mg] at hbig;have hpl:=(cO hrows hl').2;refine D.pL (f:=fun b=>.slice (some ⟨b,0,none⟩) rows.length rows.length) (ob:=.cells ⟨rows.flatten⟩ e) hk hd hg hp (fun a hs w=>?_) (fun b C' hle hb=>?_)
 ·have e1:execOp a.eval o=(do Pure.pure (.value (<- Instr.buildSlice t len (parts.map fun (i,x)=>(i,a.eval x)))):Sem Next):=by unfold execOp;rw [hop]
  rw [e1];have e2:(parts.map fun (i,x)=>(i,a.eval x))=(parts.toList.map fun (i,x)=>(i,a.eval x)).toArray:=by apply Ml;simp
  rw [e2];simp only [Sem.run_bind,ee cx.hT ht hte he (fun x v hx=>hs x v hx) hrows hl' hlen' hbig w,Result.andThen_ok,Sem.run_pure]
 ·refine h b C' hle (Sl.ofBlock hb hl' (fun j v hj=>by simpa using hj) (aP _) ?_);rw [hpl,hlen'];have h0:0<te.size:=MG (fun e=>by rw [e] at hs0;cases hs0);have:len<=len*te.size:=MO _ h0;simp only [maxLen];omega
theorem D.bS {src dst:Nat}{x:Operand}{ki kj:IntKind}{p c:Int}{ts td:TI}(e_0:Z8 (Nat.ble k 1) true o.dst (some d) o.op (.convert src dst x) (gOf ds fr o.guard) (some g) (ev fr g x) (some (.int ki p)) (cx.T.get src) (some ts) (cx.T.get dst) (some td) td.k (.int kj))(hc:kj.wrap p=c)(e_1:Z2 (aO n ds ((d,g,.int kj c)::fr) d) true (wfG ds fr g) true)(h:D cx R its ((d,g,.int kj c)::fr) C L):D cx R ((i,k,o)::its) fr C L :=
 have ⟨hk,hd,hop,hg,hx,hts,htd,hkd⟩:=e_0;have ⟨hp,hwf⟩:=e_1;D.run _ hk hd hg (fun _ a hs w=>by
  have e1:execOp a.eval o=(do Pure.pure (.value (<- convert src dst (a.eval x))):Sem Next):=by unfold execOp;rw [hop]
  rw [e1,hs _ _ hx];obtain ⟨du,h1,h2⟩:=(dW cx.hT hts).und;obtain ⟨kk,s1,b1,z1,g1⟩:=td;simp only at hkd;subst hkd;subst hc;simp [convert,run_underlying h1,run_underlying (pX cx.hT htd),Conv.intToInt]) hp hwf h
end

theorem G.be {F:Fx}{k:List KI}{fr:Fr}{C:Mem}{L L':List Ent}{e:Exit}(hL:L=L')(h:G F k e fr C L'):G F k e fr C L:=hL ▸ h

/-! ### Equal neighbours -/
section
variable {α:Type} [DecidableEq α]
end
end Go.Jog
namespace Go.Jog
open Go Go.RowKit Go.WideShapes Go.ChangeShapes Go.Deep

def ol (W:World):Mem:=fun k=>W.heap[k]?
theorem AF (W:World):Sep (ol W) [] W:=⟨fun _ _ h=>h,fun x hx=>(by cases hx),List.Pairwise.nil,fun k ⟨x,hx,_⟩=>(by cases hx)⟩
theorem w9 {W:World}{a:Addr}{v:Value}(h:W.cell? a=some v):CCell (ol W) a v:=by
 unfold World.cell? at h;split at h
 ·rename_i c t fz hb;split at h
  ·cases h
  ·rename_i hs;exact ⟨by simpa using hs,c,t,fz,hb,h⟩
 ·cases h

theorem uG {P:Program}{f:FuncId}{args:List Value}{W:World}{v:Value}(h:Gives P f args (ol W) v):Calls P f args.toArray W fun e W'=>e=.returned v/\RowKit.Below W.heap.size W W' :=
 (h.2 W (AF W)).mono fun e W' ⟨u,C',L',he,hst,hu,hl⟩=>⟨by rw [he,hu],hst.ev.below (fun k ⟨x,hx,_⟩=>by cases hx)⟩

theorem BE {α:Type}{p:Nat->α->Prop}:∀ {n:Nat},(∀ i,i<n->∃ x,p i x)->∃ l:List α,l.length=n/\∀ i x,l[i]?=some x->p i x
 | 0,_=>⟨[],rfl,fun i x h=>by simp at h⟩
 | n+1,h=>by
  obtain ⟨l,h1,h2⟩:=BE (n:=n) (fun i hi=>h i om_);obtain ⟨x,hx⟩:=h n om_;refine ⟨l++[x],by simp [h1],fun i y hy=>?_⟩;by_cases hi:i<n
  ·rw [LS om_] at hy;exact h2 i y hy
  ·rw [LD om_] at hy;have:i-l.length=0:=by
    rcases LV (i-l.length) with h0 | h0
    ·exact h0
    ·rw [LF (by simp;omega)] at hy;cases hy
   rw [this] at hy;simp only [List.getElem?_cons_zero,zl] at hy;subst hy;have hin:i=n:=by omega
   subst hin;exact hx

section
variable {H:Type} {enc:TypeId × Value->H} {P:Program} {W:World} {spare:Nat->Bool} {held:Bool}
theorem Ak {α:Type}{t e:TypeId}{k:Nat}{fuel:Nat}{v:Value}{x:DataW H × List MemPlace}(en:α->List Value)(ht:P.underlying t=some (.slice e))(hc:P.cellsOf e=k)(hk0:k≠0)
  (hel:∀ (n:Nat)(cs:List Value)(y:DataW H × List MemPlace),cs.length=k->DataW.trod enc P W 0 spare held n e cs=some y->∃ z:α,cs=en z)
  (h:DataW.trod enc P W 0 spare held fuel t [v]=some x):∃ l:List α,Sl (ol W) k v (l.map en):=by
 rcases open_slice ht h with ⟨h1,_⟩ | ⟨a,len,cap,m,n,D,Pl,hcs,_,hl,hm,hmm,_,hx⟩
 ·simp only [MU,N8] at h1;subst h1;exact ⟨[],Sl.nil _ _⟩
 ·simp only [MU,N8] at hcs;subst hcs;have hlm:len<=m:=by rw [hmm];split <;> omega
  rw [hc] at hx;obtain ⟨l,hlen,hl2⟩:=BE (α:=α) (n:=len) (p:=fun i z=>W.cells? 0 (a.add (i*k)) k=some (en z)) (fun i hi=>by
   obtain ⟨cs',h1,h2⟩:=hx i om_;obtain ⟨_,h3,_⟩:=World.cells?_some h1;obtain ⟨z,rfl⟩:=hel n cs' _ h3 h2;exact ⟨z,h1⟩)
  refine ⟨l,some a,cap,by simp [hlen],by simp [hlen];exact hl,hm,fun r hr=>?_,fun i r hi=>?_⟩
  ·obtain ⟨z,hz,rfl⟩:=j5.1 hr;obtain ⟨i,hi⟩:=Ma hz;exact (World.cells?_some (hl2 i z hi)).2.1
  ·rw [bX] at hi;cases hz:l[i]? with
   | none=>rw [hz] at hi;cases hi
   | some z =>
    rw [hz] at hi;simp only [MR,zl] at hi;subst hi;obtain ⟨_,h4,h5⟩:=World.cells?_some (hl2 i z hz);have key:∀ j u,(en z)[j]?=some u->W.cell? ((a.add (i*k)).add j)=some u:=fun j u hj=>by
     have hjk:j<k:=by rw [<- h4];exact (aJ.1 hj).1
     rw [h5 j hjk];exact hj
    have hs:a.spot=none:=by
     have h0:0<l.length:=by have:=(aJ.1 hz).1;omega
     obtain ⟨z0,hz0⟩:∃ z0,l[0]?=some z0:=⟨l[0],aq h0⟩;obtain ⟨_,h6,h7⟩:=World.cells?_some (hl2 0 z0 hz0);have h8:=h7 0 om_;rw [aq om_] at h8;have h9:=(w9 h8).1;simpa [Addr.add] using h9
    exact ⟨a,Z,hs,fun j u hj=>by
     have:=w9 (key j u hj)
     rwa [rC a _ _ hs] at this⟩

theorem qx {f:Func}{s:ChangeSpec}{apart fresh handsOn again:Bool}{W W':World}{args:Array Value}{v:Value}{ds gs:List (DataW H)}{before pa pv:List MemPlace}
  (hW:DataW.Whole enc P f.params.toList s.vars apart W args.toList ds gs before)
  (hres:∀ (b:Nat)(sp:Nat->Bool)(hd:Bool),DataW.TrodAll enc P W' b sp hd f.resultTypes.toList (v.resultList f.resultTypes.size) (s.fn H (ds++gs)).results [])
  (hargs:∀ sp:Nat->Bool,(∀ p∈before,sp p.block=true)->DataW.TrodAll enc P W' 0 sp true f.params.toList args.toList (s.fn H (ds++gs)).args pa)
  (hvars:∀ sp:Nat->Bool,(∀ p∈before,sp p.block=true)->DataW.TrodVars enc P W' sp s.vars (s.fn H (ds++gs)).vars pv)
  (hps:before=pa++pv) (hb:RowKit.Below W.heap.size W W')
  (hok:∀ (j:Nat)(t:TypeId)(r:Value),f.resultTypes[j]?=some t->(v.resultList f.resultTypes.size)[j]?=some r->Value.okWide P W' .any 0 t r) :
  s.post enc P f apart fresh handsOn again W args v W':=by
 have hlt:∀ p∈before,p.block<W.heap.size:=fun p hp=>hW.lt p hp;have hold:∀ p∈before,(fun b=>decide (b<W.heap.size)) p.block=true:=fun p hp=>by simpa using hlt p hp
 refine ⟨ds,gs,before,[],pa,pv,hW,hres _ _ _,hargs _ hold,hvars _ hold,World.keptBut_mono (fun p hp=>⟨hp, ?_⟩) (hb.frame (·∈before)),fun _=>?_⟩
 ·rw [hps,Lh] at hp;exact Or.inr hp
 ·obtain ⟨_,_,_,_,_,hz,hn⟩:=hW;refine ⟨hok,_,_,([]++pa)++pv,⟨[]++pa,pv,trodAll_append (hargs _ (fun _ _=>rfl)) (hres _ _ _),hvars _ (fun _ _=>rfl),Z, ?_, ?_⟩, ?_⟩
  ·intro b off hp;have hin:MemPlace.cell b off∈before:=by rw [hps];simpa using hp
   rw [hb.frozen (hlt _ hin)];exact hz b off hin
  ·intro ha;have:=hn ha;rw [hps] at this;simpa using this
  ·intro p hp _;rw [hps];simpa using hp
end
end Go.Jog
namespace Go.Jog
section
variable {α:Type}
end
end Go.Jog
namespace Go.Jog
open Go
def uL (P:Program)(t:Nat):Bool:=match P.underlying t with
 | some (.array _ e)=>(match P.underlying e with | some d=>oQ d | none=>false) && Nat.beq (P.cellsOf e) 1 && !(P.eqGuardType P.depth t) && (P.info? e).isSome
 | _=>false
def KH (P:Program)(t:Nat)(xs:List Value):Bool:=match P.underlying t with
 | some (.array m e)=>Nat.beq xs.length m && xs.all (fun x=>o9 (P.underlying e) x)
 | _=>false

theorem gy {P:Program}{e:TypeId}{d:TypeDesc}(m:Nat)(w:World)(he:P.underlying e=some d)(hd:oQ d=true):∀ {xs ys X Y:List Value}{i:Nat}{b:Bool},xs.all (fun x=>o9 (P.underlying e) x)=true->ii xs ys=some b->X.drop i=xs->Y.drop i=ys ->
  (Op.eqItems (m+1) e 1 ⟨X⟩ ⟨Y⟩ (List.range' i xs.length)).run P w=.ok b w
 | [],ys,X,Y,i,b,_,hb,_,_=>by
  cases ys with
  | nil=>simp [ii] at hb;subst hb;simp [Op.eqItems]
  | cons=>simp [ii] at hb
 | x::xs,ys,X,Y,i,b,hf,hb,hX,hY=>by
  cases ys with
  | nil=>simp [ii] at hb
  | cons y ys =>
   simp only [List.all_cons,bL] at hf;simp only [ii] at hb;split at hb
   ·rename_i p q hp hq;cases hb
    have hx:X[i]?=some x:=by
     have:=congrArg (·[0]?) hX;simpa using this
    have hy:Y[i]?=some y:=by
     have:=congrArg (·[0]?) hY;simpa using this
    have hX':X.drop (i+1)=xs:=by
     have:=congrArg (List.drop 1) hX;simpa using this
    have hY':Y.drop (i+1)=ys:=by
     have:=congrArg (List.drop 1) hY;simpa using this
    have hr:=vS hp m w hf.1;have ih:=gy m w he hd hf.2 hq hX' hY';simp only [fh,Ox,Op.eqItems,Nl,Sem.run_bind,gX he hd hx w,gX he hd hy w,hr,Result.andThen_ok];cases p
    ·simp
    ·simpa using ih
   ·cases hb

theorem ye {P:Program}{t:Nat}(ht:uL P t=true){xs ys:List Value}(hf:KH P t xs=true){b:Bool}(hb:ii xs ys=some b)(w:World):(Op.equalIn 10000 t (.agg ⟨xs⟩) (.agg ⟨ys⟩)).run P w=.ok b w:=by
 unfold uL at ht;unfold KH at hf;cases hu:P.underlying t with
 | none=>rw [hu] at ht;cases ht
 | some D =>
  rw [hu] at ht hf;cases D <;> try (cases ht)
  rename_i n e;simp only [bL] at ht hf;obtain ⟨⟨⟨h1,h2⟩,h3⟩,h4⟩:=ht;have h2':=fB h2;have hn:=fB hf.1;cases hi:P.info? e with
  | none=>rw [hi] at h4;cases h4
  | some inf =>
   cases he:P.underlying e with
   | none=>rw [he] at h1;cases h1
   | some d =>
    rw [he] at h1;rw [run_equalIn_array w 9999 ⟨xs⟩ ⟨ys⟩ hu hi,h2',<- hn,NW];exact gy 9998 w he h1 hf.2 hb Z Z

section
variable {cx:Cx} {n:Nat} {ds:List (Option Nat)} {R:Rg n ds} {its:List It} {fr:Fr} {C:Mem} {L:List Ent} {i k d:Nat} {o:Oper} {g:GL} {v:Value}
end
end Go.Jog
namespace Go.Jog
open Go

inductive OT where
 | fin (π:List Nat)
 | cut (π:List Nat) (t:OT)
 | alt (i:Nat) (t:OT) (r:OT)
 | stop

section
variable {P:Program} {ops:Array Oper} {ι:Type} {cls:ι->World->Prop} {le:ι->ι->Prop} {md:Region.Mode}

def DT (P:Program)(ops:Array Oper)(cls:ι->World->Prop)(le:ι->ι->Prop)(kd:Nat->Nat)(Post:Act->ι->Prop):OT->Act->ι->Prop
 | .fin π=>DU P ops cls le kd Post π
 | .cut π t=>DU P ops cls le kd (DT P ops cls le kd Post t) π
 | .alt i t r=>fun a κ=>dI P ops cls le (kd i) i (DT P ops cls le kd Post t) a κ/\DT P ops cls le kd Post r a κ
 | .stop=>fun _ _=>True

def ic:OT->List Nat
 | .alt i _ r=>i::ic r
 | _=>[]

def Hk:OT->Bool
 | .fin _ | .cut _ _=>true
 | _=>false

def d6:List Nat->Array Bool->Array Bool
 | [],listed=>listed
 | i::π,listed=>d6 π (listed.setIfInBounds i true)

def G2 (md:Region.Mode)(ops:Array Oper)(kd:Nat->Nat):List Nat->Array Bool->Bool
 | [],_=>true
 | i::π,listed=>(bif Nat.ble (kd i) 1 then (Region.ready md ops listed).contains i && E9 md ops kd listed i else (Region.ready md ops listed == [i])) && G2 md ops kd π (listed.setIfInBounds i true)

def Ei (md:Region.Mode)(ops:Array Oper)(kd:Nat->Nat):OT->Nat->Array Bool->Bool
 | .fin π,f,listed=>Nat.beq π.length f && (G2 md ops kd π listed && (Region.ready md ops (d6 π listed)).isEmpty)
 | .cut π t,f,listed=>Nat.blt π.length f && (G2 md ops kd π listed && ((Region.ready md ops (d6 π listed)).all (fun i=>(ic t).contains i) && (!(Region.ready md ops (d6 π listed)).isEmpty && Ei md ops kd t (f-π.length) (d6 π listed))))
 | .alt i t r,f,listed=>(Nat.blt 0 f && (Hk t && Ei md ops kd t (f-1) (listed.setIfInBounds i true))) && Ei md ops kd r f listed
 | .stop,_,_=>true

theorem dm (htrans:∀ a b c,le a b->le b c->le a c){kd:Nat->Nat}{Post K:Act->ι->Prop}(hsel:Region.noSelect ops=true){f:Nat} :
  ∀ (π:List Nat)(listed:Array Bool)(a:Act)(κ:ι),Closed md ops listed->G2 md ops kd π listed=true->(∀ a κ,Closed md ops (d6 π listed)->K a κ->gw P md ops cls le kd Post f (d6 π listed) a κ) ->
   DU P ops cls le kd K π a κ->gw P md ops cls le kd Post (π.length+f) listed a κ
 | [],listed,a,κ,hcl,_,hK,h=>by
  rw [J8,LO];exact hK a κ hcl h
 | i::π,listed,a,κ,hcl,hB,hK,h=>by
  simp only [G2,bL] at hB;obtain ⟨hB1,hB2⟩:=hB;rw [fh,Nat.add_right_comm];by_cases hk:kd i<=1
  ·have hb:Nat.ble (kd i) 1=true:=by rw [Mg];exact hk
   rw [hb] at hB1;simp only [Mm,bL,Lz] at hB1;obtain ⟨hr,hf⟩:=hB1;simp only [DU] at h;unfold dI at h;cases ho:ops[i]? with
   | none=>simp only [ho] at h
   | some o =>
    simp only [ho,hk,Mb] at h;obtain ⟨v,hy,hK'⟩:=h;refine ld (F:=ops.size) htrans ho hk (fun j o cs b=>Region.noSelect_spec hsel j o cs b) (π.length+f) listed a κ hcl (fun j oj hj hne hun=>?_) hr hy
     (dm htrans hsel π _ _ κ (hcl.set hr) hB2 hK hK')
    simp only [E9,ho,ep,Md] at hf;have:=hf j (My.1 hj).1;simp only [hj,Mp,Lg,hne,false_or,hun,LG,bL,Mg] at this;rcases this with h1 | h1
    ·exact .inr h1
    ·exact .inl h1
  ·have hb:Nat.ble (kd i) 1=false:=by
    cases hx:Nat.ble (kd i) 1 with
    | false=>rfl
    | true=>exact absurd (by rw [Mg] at hx;exact hx) hk
   rw [hb] at hB1;simp only [cond_false,Lg] at hB1;have hmem:i∈Region.ready md ops listed:=by rw [hB1];simp
   refine ⟨fun h0=>(by rw [h0] at hB1;cases hB1),fun j hj=>?_⟩;rw [hB1] at hj;obtain rfl:j=i:=by simpa using hj
   exact dY (fun a' κ' h'=>dm htrans hsel π _ a' κ' (hcl.set hmem) hB2 hK h') h

theorem fj (htrans:∀ a b c,le a b->le b c->le a c){kd:Nat->Nat}{Post:Act->ι->Prop}(hsel:Region.noSelect ops=true) :
  ∀ (t:OT)(f:Nat)(listed:Array Bool)(a:Act)(κ:ι),Closed md ops listed->Ei md ops kd t f listed=true->DT P ops cls le kd Post t a κ ->
   (match t with
    | .fin _ | .cut _ _=>gw P md ops cls le kd Post f listed a κ
    | _=>∀ i∈ic t,i∈Region.ready md ops listed->(∃ f',f=f'+1/\dI P ops cls le (kd i) i (gw P md ops cls le kd Post f' (listed.setIfInBounds i true)) a κ))
 | .fin π,f,listed,a,κ,hcl,hB,h=>by
  simp only [Ei,bL,MH] at hB;obtain ⟨hl,hB1,hB2⟩:=hB;have:=fB hl;have h2:=dm (f:=0) htrans hsel π listed a κ hcl hB1 (fun a κ _ hK=>⟨hB2,hK⟩) h;rw [Mc,this] at h2;exact h2
 | .cut π t,f,listed,a,κ,hcl,hB,h=>by
  simp only [Ei,bL,ep] at hB;obtain ⟨hl,hB1,hB2,hB3,hB4⟩:=hB;rw [NA] at hl;have hne:Region.ready md ops (d6 π listed)≠[]:=fun e=>by rw [e] at hB3;cases hB3
  have h2:=dm (f:=f-π.length) htrans hsel π listed a κ hcl hB1 (fun a κ hcl' hK=>by
   have ih:=fj htrans hsel t (f-π.length) (d6 π listed) a κ hcl' hB4 hK;obtain ⟨f',hf'⟩:∃ f',f-π.length=f'+1:=⟨f-π.length-1,by omega⟩;rw [hf'] at ih ⊢;refine ⟨fun h0=>absurd h0 hne,fun i hi=>?_⟩;have hc:=hB2 i hi;rw [Lz] at hc;cases t with
   | fin π'=>simp [ic] at hc
   | cut π' t'=>simp [ic] at hc
   | stop=>simp [ic] at hc
   | alt j t' r' =>
    obtain ⟨f2,hf2,hs⟩:=ih i hc hi;obtain rfl:f'=f2:=by omega
    exact hs) h
  rw [show π.length+(f-π.length)=f by omega] at h2;exact h2
 | .alt j t r,f,listed,a,κ,hcl,hB,h=>by
  simp only [Ei,bL] at hB;obtain ⟨⟨hf,hnd,hB1⟩,hB2⟩:=hB;rw [NA] at hf;intro i hi hr;simp only [ic,cI] at hi;by_cases hij:i=j
  ·subst hij;refine ⟨f-1,by omega,dY (fun a' κ' h'=>?_) h.1⟩;have ih:=fj htrans hsel t (f-1) _ a' κ' (hcl.set hr) hB1 h';cases t with
   | fin π'=>exact ih
   | cut π' t'=>exact ih
   | stop=>cases hnd
   | alt j' t' r'=>cases hnd
  ·have h2:=hi.resolve_left hij;have ih:=fj htrans hsel r f listed a κ hcl hB2 h.2;cases r with
   | fin π'=>simp [ic] at h2
   | cut π' t'=>simp [ic] at h2
   | stop=>simp [ic] at h2
   | alt j' t' r'=>exact ih i h2 hr
 | .stop,_,_,_,_,_,_,_=>by
  intro i hi;simp [ic] at hi

theorem oc (W:Cw P)(hnd':W.nd ops)(hrefl:∀ κ,le κ κ)(htrans:∀ a b c,le a b->le b c->le a c){kd:Nat->Nat}{Post:Act->ι->Prop}{id:Nat}{Q:Exit->Act->World->Prop}{a:Act}{w:World}{κ:ι}
  (hm:P.follows .mixedOrders=true) (hw:cls κ { w with drawn:=w.drawn+1 }) (t:OT) (hnd:Hk t=true)
  (hB:(Region.noSelect ops && Ei .any ops kd t ops.size (Array.replicate ops.size false))=true) (h:DT P ops cls le kd Post t a κ)
  (hN:∀ a κ w,Post a κ->cls κ w->Q .normal a w):W.wp (Code.region id ops true) Q a w:=by
 simp only [bL] at hB;obtain ⟨hs,hsim⟩:=hB;refine W.any hm hnd' ?_;have h0:Closed .any ops (Array.replicate ops.size false):=fun j oj _ hl=>by
  rcases Ld j ops.size with h | h <;> simp [h] at hl
 have:=fj htrans hs t ops.size _ a κ h0 hsim h;cases t with
 | fin π=>exact fC hrefl hN _ _ _ _ _ hw this
 | cut π t=>exact fC hrefl hN _ _ _ _ _ hw this
 | stop=>cases hnd
 | alt i t r=>cases hnd
end

/-! ### In the logic -/
section
variable {cx:Cx} {n:Nat} {ds:List (Option Nat)} {fr:Fr} {C:Mem} {L:List Ent}
def RgT (P:Program)(R:Rg n ds)(t:OT):Rg n ds:=⟨R.b,R.ops,R.kd,DT P R.ops R.b.cls kle R.kd R.Post t,R.hy,R.dd⟩

def DN (cx:Cx)(R:Rg n ds)(l:List Oper)(ov:List (Nat × Nat)):OT->Fr->Mem->List Ent->Prop
 | .fin π=>D cx R (db l ov π)
 | .cut π t=>D cx (RgT cx.P R t) (db l ov π)
 | _=>fun _ _ _=>True
def DA (cx:Cx)(R:Rg n ds)(l:List Oper)(ov:List (Nat × Nat)):OT->Fr->Mem->List Ent->Prop
 | .alt i (.fin π) r=>fun fr C L=>D cx R (db l ov (i::π)) fr C L/\DA cx R l ov r fr C L
 | .alt i (.cut π t) r=>fun fr C L=>D cx (RgT cx.P R t) (db l ov (i::π)) fr C L/\DA cx R l ov r fr C L
 | .stop=>fun _ _ _=>True
 | _=>fun _ _ _=>False

def EZ (m:Nat):OT->Bool
 | .fin π=>π.all (fun i=>Nat.blt i m)
 | .cut π t=>π.all (fun i=>Nat.blt i m) && EZ m t
 | .alt i t r=>Nat.blt i m && (EZ m t && EZ m r)
 | .stop=>true

theorem jm {R:Rg n ds}{l:List Oper}{ov:List (Nat × Nat)}(hH:∀ i,i<l.length->R.kd i=ovr ov i (dx (dP l i))/\R.ops[i]?=some (dP l i)){π:List Nat}(h:π.all (fun i=>Nat.blt i l.length)=true) :
  ∀ x∈db l ov π,R.kd x.1=x.2.1/\R.ops[x.1]?=some x.2.2:=fun x hx=>by
 obtain ⟨h1,h2,h3⟩:=fO hx;have hlt:=ep.1 h x.1 h1;rw [NA] at hlt;have:=hH x.1 hlt;exact ⟨this.1.trans h2.symm,by rw [this.2,h3]⟩

theorem rH {R:Rg n ds}{l:List Oper}{ov:List (Nat × Nat)}(hH:∀ i,i<l.length->R.kd i=ovr ov i (dx (dP l i))/\R.ops[i]?=some (dP l i))(h0:R.b.C0.le C){a:Act}(ha:FrOk n ds R.dd fr a) :
  ∀ (t:OT),EZ l.length t=true->DA cx R l ov t fr C L->DT cx.P R.ops R.b.cls kle R.kd R.Post t a (C,L)
 | .alt i (.fin π) r,hi,h=>by
  simp only [EZ,bL] at hi;have h1:=h.1 h0 (jm hH (by simp only [List.all_cons,bL];exact ⟨hi.1,hi.2.1⟩)) a ha;rw [cM] at h1;exact ⟨h1,rH hH h0 ha r hi.2.2 h.2⟩
 | .alt i (.cut π t) r,hi,h=>by
  simp only [EZ,bL] at hi;have h1:=h.1 h0 (jm (R:=RgT cx.P R t) hH (by simp only [List.all_cons,bL];exact ⟨hi.1,hi.2.1.1⟩)) a ha;rw [cM] at h1;exact ⟨h1,rH hH h0 ha r hi.2.2 h.2⟩
 | .stop,_,_=>trivial
 | .fin _,_,h=>h.elim
 | .cut _ _,_,h=>h.elim
 | .alt _ (.alt _ _ _) _,_,h=>h.elim
 | .alt _ .stop _,_,h=>h.elim

theorem D.eu {R:Rg n ds}{l:List Oper}{ov:List (Nat × Nat)}{t:OT}(hH:∀ i,i<l.length->R.kd i=ovr ov i (dx (dP l i))/\R.ops[i]?=some (dP l i))(hi:EZ l.length t=true)(h:DA cx R l ov t fr C L):D cx (RgT cx.P R t) [] fr C L :=
 fun h0 _ _ ha=>rH hH h0 ha t hi h
end

section
variable {F:Fx} {k:List KI} {fr:Fr} {C:Mem} {L:List Ent}
theorem G.gt {id:Nat}{l:List Oper}(t:OT)(ov:List (Nat × Nat))(hp:fr.all (fun x=>x.2.1.isEmpty)=true)(hnd:Hk t=true)
  (hB:((Region.noSelect l.toArray && Ei .any l.toArray (fun i=>ovr ov i (dx (dP l i))) t l.toArray.size (Array.replicate l.toArray.size false)) && EZ l.length t)=true)
  (h:∀ R:Rg F.n (l.map (·.dst)),C.le R.b.C0->(∀ fr C L,fr.all (fun x=>x.2.1.isEmpty)=true->G F (eA 64 k) .normal fr C L->D F.cx R [] fr C L) ->
   (∀ i,i<l.length->R.kd i=ovr ov i (dx (dP l i))/\R.ops[i]?=some (dP l i))->DN F.cx R l ov t fr C L) (hnd':F.W.nd l.toArray:=by first | exact trivial | exact rfl) :
  G F (.code (.region id l.toArray true)::k) .normal fr C L:=fun h0 a w ha hw=>by
 simp only [Kq];rw [bL] at hB
 let kd:=fun i=>ovr ov i (dx (dP l i))
 let b:Bs:=⟨F.b.w0,C,F.b.L0⟩
 let Post:Act->Mem × List Ent->Prop:=fun a κ=>∀ w,b.cls κ w->Kq F k .normal a w
 let R:Rg F.n (l.map (·.dst)):=⟨b,l.toArray,kd,Post,fun tmps=>cj l tmps,F.dd⟩
 have un:∀ κ w,b.cls κ w->F.b.cls κ w:=fun κ w hc=>St.unbase h0 hw.cn hc;have hH:∀ i,i<l.length->R.kd i=ovr ov i (dx (dP l i))/\R.ops[i]?=some (dP l i):=fun i hi=>⟨rfl,by
  show (l.toArray)[i]?=_;rw [LB,dR hi]⟩
 have hD:=h R (Mem.le.refl _) (fun fr C' L hp hG h0' _ a ha w hw=>G.bQ 64 hG (h0.trans h0') a w ⟨ha.size,ha.defers,fun s g v hg=>by
  have hm:=ep.1 hp _ (Fr.get_mem hg);simp only [MH] at hm;subst hm;exact ⟨fun _=>(ha.ent s [] v hg).1 (fun p hp=>by cases hp),fun hn=>absurd (fun p hp=>by cases hp) hn⟩⟩ (un _ _ hw)) hH
 have hT:DT F.cx.P l.toArray b.cls kle kd Post t a (C,L):=by
  cases t with
  | fin π =>
   have h1:=hD (Mem.le.refl _) (jm hH hB.2) a (ha.enter _ hp);rw [cM] at h1;exact h1
  | cut π t =>
   have hi:=hB.2;simp only [EZ,bL] at hi;have h1:=hD (Mem.le.refl _) (jm (R:=RgT F.cx.P R t) hH hi.1) a (ha.enter _ hp);rw [cM] at h1;exact h1
  | stop=>cases hnd
  | alt i t r=>cases hnd
 exact oc F.W hnd' (cls:=b.cls) (le:=kle) kle.refl kle.trans F.cx.mixed (St.rebase (St.drew hw)) t hnd hB.1 hT (fun a κ w hP hw=>hP w hw)

theorem G.mb {ds:List (Option Nat)}{R:Rg F.n ds}{l:List Oper}{ov:List (Nat × Nat)}{t:OT}{fr0:Fr}{C0:Mem}{L0:List Ent}(_:∀ fr C L,fr.all (fun x=>x.2.1.isEmpty)=true->G F k .normal fr C L->D F.cx R [] fr C L)(fr:Nat->Nat->Fr)(L:Nat->Nat->List Ent)
  (body:(∀ b1 b2,G F k .normal (fr b1 b2) C0 (L b1 b2))->DN F.cx R l ov t fr0 C0 L0) (h:∀ b1 b2,G F k .normal (fr b1 b2) C0 (L b1 b2)):DN F.cx R l ov t fr0 C0 L0:=body h
end
end Go.Jog
namespace Go.Jog
open Go Go.MapKept

section
variable {κ β:Type} [DecidableEq κ]
def dS:List (κ × β)->κ->Option β
 | [],_=>none
 | (k',v)::m,k=>if k'=k then some v else dS m k
def fo:List (κ × β)->κ->β->List (κ × β)
 | [],k,v=>[(k,v)]
 | (k',v')::m,k,v=>if k'=k then (k,v)::m else (k',v')::fo m k v
theorem wB {γ:Type}(f:β->γ):∀ (m:List (κ × β))(k:κ),dS (m.map fun p=>(p.1,f p.2)) k=(dS m k).map f
 | [],_=>rfl
 | (k',v)::m,k=>by
  simp only [Li,dS];split
  ·rfl
  ·exact wB f m k
def iL:List (κ × β)->κ->Option (Nat × β)
 | [],_=>none
 | (k',v)::m,k=>if k'=k then some (0,v) else (iL m k).map fun p=>(p.1+1,p.2)
theorem mT:∀ (m:List (κ × β))(k:κ),(iL m k).map (·.2)=dS m k
 | [],_=>rfl
 | (k',v)::m,k=>by
  simp only [iL,dS];split
  ·rfl
  ·rw [<- mT m k];cases iL m k <;> rfl
end

structure KeyT (d:TypeDesc)(κ:Type)[DecidableEq κ] where
 enc:κ->Value
 isKey:∀ a,IsKey d (enc a)
 same:∀ a b,Instr.sameNow d (enc a) (enc b)=some (decide (a=b))

def bp {κ:Type}(enc:κ->Value):List (κ × Value)->Nat->List MapEntry
 | [],_=>[]
 | (k,v)::m,i=>⟨enc k,v,i⟩::bp enc m (i+1)
def bf {κ:Type}(enc:κ->Value)(m:List (κ × Value)):Obj:=.map ⟨bp enc m 0⟩ m.length

section
variable {d:TypeDesc} {κ:Type} [DecidableEq κ] (K:KeyT d κ)
theorem eK (k:κ):∀ (m:List (κ × Value))(i j:Nat),Instr.findNow d (K.enc k) (bp K.enc m i) j=some ((iL m k).map fun p=>(j+p.1,p.2))
 | [],i,j=>rfl
 | (k',v)::m,i,j=>by
  simp only [bp,Instr.findNow,K.same];by_cases h:k=k'
  ·subst h;simp [iL]
  ·have h':¬ k'=k:=fun e=>h e.symm;simp only [h,decide_false,eK k m (i+1) (j+1),iL,a7 h'];cases iL m k with
   | none=>rfl
   | some p=>simp;omega
theorem lm {κ:Type}(enc:κ->Value):∀ (m:List (κ × Value))(i:Nat),(bp enc m i).length=m.length
 | [],_=>rfl
 | _::m,i=>by simp [bp,lm enc m]
theorem kJ {k:κ}{v:Value}:∀ {m:List (κ × Value)}{i:Nat},iL m k=none->bp K.enc m i++[⟨K.enc k,v,i+m.length⟩]=bp K.enc (fo m k v) i/\(fo m k v).length=m.length+1
 | [],i,_=>⟨rfl,rfl⟩
 | (k',v')::m,i,h=>by
  simp only [iL] at h;split at h
  ·cases h
  ·rename_i hne;have h':iL m k=none:=by
    cases hx:iL m k with
    | none=>rfl
    | some p=>rw [hx] at h;cases h
   obtain ⟨h1,h2⟩:=kJ (i:=i+1) (v:=v) h';simp only [fo,a7 hne,bp,LM,fh,h2];refine ⟨?_,trivial⟩;rw [<- h1];congr 3;congr 1;omega
theorem kI {k:κ}{v:Value}:∀ {m:List (κ × Value)}{i q:Nat}{u:Value},iL m k=some (q,u)->(bp K.enc m i).modify q (fun e=>{ e with key:=K.enc k,val:=v })=bp K.enc (fo m k v) i/\(fo m k v).length=m.length/\((bp K.enc m i)[q]?).map (·.key)=some (K.enc k)
 | [],_,_,_,h=>by cases h
 | (k',v')::m,i,q,u,h=>by
  simp only [iL] at h;split at h
  ·rename_i e;subst e;cases h
   simp [bp,fo]
  ·rename_i hne;cases hx:iL m k with
   | none=>rw [hx] at h;cases h
   | some p =>
    obtain ⟨q',u'⟩:=p;rw [hx] at h;cases h
    obtain ⟨h1,h2,h3⟩:=kI (i:=i+1) (v:=v) hx;simp only [fo,a7 hne,bp,fh,h2,List.modify_succ_cons,h1];exact ⟨trivial,trivial,by simpa using h3⟩
end

theorem fX {T:Tab}{P:Program}(hT:mr P T=true){t k e:Nat}{ti:TI}(h:T.get t=some ti)(hk:ti.k=.map k e):P.underlying t=some (.map k e):=by
 obtain ⟨kk,s,b,z,g⟩:=ti;simp only at hk;subst hk;obtain ⟨d,h1,h2⟩:=Gl hT h;cases d <;> simp [tkB] at h2
 rw [h1,h2.1,h2.2]

section
variable {cx:Cx} {n:Nat} {ds:List (Option Nat)} {R:Rg n ds} {its:List It} {fr:Fr} {C:Mem} {L:List Ent} {i k d:Nat} {o:Oper} {g:GL} {v:Value}
variable {kd:TypeDesc} {κ:Type} [DecidableEq κ] (K:KeyT kd κ)

theorem D.makeMap {t:Nat}(hk:Nat.ble k 1=false)(hd:o.dst=some d)(hg:gOn ds fr o.guard=true)(hop:o.op=.makeMap t none)(hp:∀ v,aO n ds ((d,[],v)::fr) d=true)
  (h:∀ b,D cx R its ((d,[],.map (some b))::fr) C (.obj b (bf K.enc [])::L)):D cx R ((i,k,o)::its) fr C L :=
 D.me (f:=fun b=>.map (some b)) (ob:=bf K.enc []) hk hd hg hp (fun a _ w=>by
  have e1:execOp a.eval o=(do Pure.pure (.value (<- Instr.makeMap t none)):Sem Next):=by unfold execOp;rw [hop];rfl
  rw [e1];rfl) h

def iM (z:Value)(ok:Bool):Option Value->Value
 | some u=>bif ok then .tuple #[u,.bool true] else u
 | none=>bif ok then .tuple #[z,.bool false] else z

theorem yc {P:Program}{T:Tab}(hT:mr P T=true){t kt et:Nat}{ti te:TI}{ok:Bool}(ht:T.get t=some ti)(htk:ti.k=.map kt et)(hkt:P.underlying kt=some kd)(hte:T.get et=some te){w:World}{b:Nat}{m:List (κ × Value)}(hb:w.heap[b]?=some (bf K.enc m))(y:κ) :
  (Instr.lookup t (.map (some b)) (K.enc y) ok).run P w=.ok (iM te.zv ok (dS m y)) w:=by
 have hu:=fX hT ht htk;have hf:=eK K y m 0 0;have h1:(getObj b).run P w=.ok (.map ⟨bp K.enc m 0⟩ m.length) w:=Go.MapKept.run_getObj_map hb;have h2:=run_findKey (P:=P) (w:=w) hkt hf;rw [<- mT];unfold Instr.lookup;simp only [Sem.run_bind,run_underlying hu,Result.andThen_ok,h1,Sem.run_pure,run_checkKey hkt (K.isKey y)];rw [h2];cases iL m y with
 | none=>cases ok <;> simp [iM,pQ hT hte w]
 | some p=>cases ok <;> simp [iM]

theorem D.fT {b t kt et:Nat}{x y:Operand}{ok:Bool}{m:List (κ × Value)}{key:κ}{ti te:TI}(hm:Ent.obj b (bf K.enc m)∈L)(hk:k=1)(hd:o.dst=some d)(hop:o.op=.lookup t x y ok)(hg:gOf ds fr o.guard=some g)(hx:ev fr g x=some (.map (some b)))(hy:ev fr g y=some (K.enc key))
  (ht:cx.T.get t=some ti) (htk:ti.k=.map kt et) (hkt:cx.P.underlying kt=some kd) (hte:cx.T.get et=some te) (hv:iM te.zv ok (dS m key)=v) (hp:aO n ds ((d,g,v)::fr) d=true) (hwf:wfG ds fr g=true)
  (h:D cx R its ((d,g,v)::fr) C L):D cx R ((i,k,o)::its) fr C L :=
 D.gH (by subst hk;rfl) hd hg hp hwf (fun _ a hs κ' hκ w hw=>by
  have hb:w.heap[b]?=some (bf K.enc m):=hw.sep.e _ ((hκ hk).2 _ hm);have hex:(execOp a.eval o).run cx.P w=.ok (.value v) w:=by
   have e1:execOp a.eval o=(do Pure.pure (.value (<- Instr.lookup t (a.eval x) (a.eval y) ok)):Sem Next):=by unfold execOp;rw [hop]
   rw [e1,hs _ _ hx,hs _ _ hy,<- hv];simp only [Sem.run_bind,yc K cx.hT ht htk hkt hte hb key,Result.andThen_ok,Sem.run_pure]
  unfold Oper.quietAt;rw [hex];exact ⟨Z,Z⟩) h

theorem D.mapUpdate {t kt et j b:Nat}{x y z:Operand}{m:List (κ × Value)}{key:κ}{ti:TI}(hk:k=3)(hg:gOn ds fr o.guard=true)(hd:o.dst=none)(hop:o.op=.mapUpdate t x y z)
  (hx:ev fr [] x=some (.map (some b))) (hy:ev fr [] y=some (K.enc key)) (hz:ev fr [] z=some v) (hm:L[j]?=some (.obj b (bf K.enc m)))
  (ht:cx.T.get t=some ti) (htk:ti.k=.map kt et) (hkt:cx.P.underlying kt=some kd)
  (h:D cx R its fr C (.obj b (bf K.enc (fo m key v))::L.eraseIdx j)):D cx R ((i,k,o)::its) fr C L :=
 D.tS (S:=fun C' L'=>C'=C/\L'=.obj b (bf K.enc (fo m key v))::L.eraseIdx j) (by subst hk;rfl) hg (fun a hs w _ hw=>by
  have hw':=St.perm hw (aC hm);have hb:w.heap[b]?=some (bf K.enc m):=hw'.sep.e _ (br ..);have hu:=fX cx.hT ht htk;have hf:=eK K key m 0 0;have h1:(getObj b).run cx.P w=.ok (.map ⟨bp K.enc m 0⟩ m.length) w:=Go.MapKept.run_getObj_map hb;have h2:=run_findKey (P:=cx.P) (w:=w) hkt hf;have hrun:(Instr.mapUpdate t (.map (some b)) (K.enc key) v).run cx.P w=.ok () { w with heap:=w.heap.setIfInBounds b (bf K.enc (fo m key v)) }:=by
   unfold Instr.mapUpdate;simp only [Sem.run_bind,run_underlying hu,Result.andThen_ok,h1,run_checkKey hkt (K.isKey key)];rw [h2];cases hi:iL m key with
   | none =>
    obtain ⟨h3,h4⟩:=kJ K (v:=v) (i:=0) hi;simp only [Option.map_none,Result.andThen_ok];rw [Go.MapKept.run_setObj_map (P:=cx.P) _ hb];congr 2;simp only [bf,h4,<- h3,LO];congr 2;apply Ml;simp
   | some p =>
    obtain ⟨q,u⟩:=p;obtain ⟨h3,h4,h5⟩:=kI K (v:=v) (i:=0) hi;have hq:(((⟨bp K.enc m 0⟩:Array MapEntry)[0+q]?).map (·.key)).getD (K.enc key)=K.enc key:=by
     rw [LO];show (((bp K.enc m 0).toArray[q]?).map (·.key)).getD (K.enc key)=K.enc key;rw [LB,h5];rfl
    simp only [MR,Result.andThen_ok,Sem.run_bind];rw [hq,run_keyThatStays (d:=kd) (K.isKey key)];simp only [Result.andThen_ok];rw [Go.MapKept.run_setObj_map (P:=cx.P) _ hb];congr 2;simp only [bf,h4,<- h3,LO];congr 2;apply Ml;simp
  have hex:(execOp a.eval o).run cx.P w=.ok .skip { w with heap:=w.heap.setIfInBounds b (bf K.enc (fo m key v)) }:=by
   have e1:execOp a.eval o=(do Instr.mapUpdate t (a.eval x) (a.eval y) (a.eval z);Pure.pure .skip:Sem Next):=by unfold execOp;rw [hop]
   rw [e1,hs _ _ hx,hs _ _ hy,hs _ _ hz];simp only [Sem.run_bind,hrun,Result.andThen_ok,Sem.run_pure]
  unfold Oper.wp;rw [hex];have hset:=heap_set (o':=bf K.enc (fo m key v)) hb;refine ⟨C,.obj b (bf K.enc (fo m key v))::L.eraseIdx j, ?_,Mem.le.refl _,fun h2=>by omega,St.put hw' hset.1 hset.2 (by simp) Z Z Z (aP _),Z,Z⟩;rw [hd];rfl)
  (fun C' L' _ ⟨e1,e2⟩=>by subst e1;subst e2;exact h)
end

theorem Ah (a b:List UInt8):((⟨a.toArray⟩:ByteArray) == ⟨b.toArray⟩)=decide (a=b):=by
 by_cases h:a=b
 ·subst h;simp [(bytes_beq _ _).2 rfl]
 ·have:¬ ((⟨a.toArray⟩:ByteArray) == ⟨b.toArray⟩)=true:=fun e=>h (by
   have:=(bytes_beq _ _).1 e;have h2:=congrArg (fun x:ByteArray=>x.data.toList) this;simpa using h2)
  simp [h,Bool.eq_false_iff.2 this]
def keyS:KeyT .string (List UInt8) where
 enc s:=.string ⟨s.toArray⟩
 isKey _:=trivial
 same a b:=by simp only [Instr.sameNow,Ah]
end Go.Jog
namespace Go.Jog
open Go

section
variable {cx:Cx} {n:Nat} {ds:List (Option Nat)} {R:Rg n ds} {its:List It} {fr:Fr} {C:Mem} {L:List Ent} {i k d:Nat} {o:Oper} {g:GL} {v:Value}

end
end Go.Jog
namespace Go.Jog
open Go

def Mem.unset (C:Mem)(b:Nat):Mem:=fun k=>if k=b then none else C k
theorem Mem.unset_le (C:Mem)(b:Nat):(C.unset b).le C:=fun k o h=>by
 unfold Mem.unset at h;split at h
 ·cases h
 ·exact h
theorem Mem.le_unset {C D:Mem}{b:Nat}(h:C.le D)(hb:C b=none):C.le (D.unset b):=fun k o hk=>by
 unfold Mem.unset;split
 ·rename_i e;subst e;rw [hb] at hk;cases hk
 ·exact h k o hk

theorem St.aside {w0:World}{C0:Mem}{L0:List Ent}{C:Mem}{L:List Ent}{w:World}{b:Nat}{ob:Obj}(h:St w0 C0 L0 C (.obj b ob::L) w):St w (C.set b ob) L (C.set b ob) L w :=
 (St.freeze h).2 |> fun s=>St.start s.sep

theorem St.back {w0:World}{C0:Mem}{L0:List Ent}{C C':Mem}{L L':List Ent}{w w':World}{b:Nat}{ob:Obj}(h:St w0 C0 L0 C (.obj b ob::L) w)(k:St w (C.set b ob) L C' L' w'):St w0 C0 L0 (C'.unset b) (.obj b ob::L') w':=by
 have hb:C b=none:=h.sep.n b ⟨_,br ..,rfl⟩;have hle:C.le C':=(Mem.le_set hb).trans k.c0;have k2:St w C L (C'.unset b) L' w':=⟨⟨fun q o hq=>k.sep.c q o (Mem.unset_le _ _ q o hq),k.sep.e,k.sep.d,fun q hq=>by
   have:=k.sep.n q hq;unfold Mem.unset;split
   ·rfl
   ·exact this⟩,k.ev,Mem.le_unset hle hb,fun q o hq=>by
   have hne:q≠b:=fun e=>by subst e;simp [Mem.unset] at hq
   rcases k.cn q o (Mem.unset_le _ _ q o hq) with h1 | h1
   ·unfold Mem.set at h1;rw [a7 hne] at h1;exact .inl h1
   ·exact .inr h1,k.ln⟩
 have h2:St w0 C0 L0 C (L++[.obj b ob]) w:=St.perm h (Lv (l₁:=[Ent.obj b ob]) (l₂:=L));exact St.perm (St.call h2 k2) (Lv (l₁:=L') (l₂:=[Ent.obj b ob]))

section
variable {F:Fx} {k:List KI} {fr:Fr} {C:Mem} {L:List Ent}
end
end Go.Jog
namespace Go.Jog

structure Arc3 where
 i:Nat
 lo:Nat
 up:Nat
 deriving DecidableEq,Inhabited

def FY:Nat->List Arc3->Nat->Prop
 | u,[],v=>u=v
 | u,a::p,v=>a.lo=u/\FY a.up p v
def In (A p:List Arc3):Prop:=∀ a∈p,a∈A
def KZ (A:List Arc3)(k u v:Nat):Prop:=∃ p,In A p/\p.length=k/\FY u p v

end Go.Jog
namespace Go.Jog

def dAt (d:List Int)(u:Nat):Int:=d.getD u (-1)
/-! ### Relaxing -/
def fin (d:List Int):Nat:=d.countP (fun x=>decide (0<=x))
structure Rel0 (A:List Arc3)(to n:Nat)(d:List Int):Prop where
 len:d.length=n
 neg:∀ u,u<n->-1<=dAt d u
 small:∀ u,u<n->dAt d u<fin d
 walk:∀ u,u<n->0<=dAt d u->KZ A (dAt d u).toNat u to
 zero:dAt d to=0

/-! ### The first smallest cycle -/
def nums (p:List Arc3):List Nat:=p.map (·.i)
def Ka (x y:List Nat):Prop:=∃ c b b' s s',x=c++b::s/\y=c++b'::s'/\b<b'
def above (A:List Arc3)(i:Nat):List Arc3:=A.filter fun a=>decide (i<a.i)
structure Greedy (A:List Arc3)(from_ to m:Nat)(p:List Arc3)(at_:Nat):Prop where
 inA:In A p
 chain:FY from_ p at_
 ahead:∀ r,In A r->FY from_ r to->r.length=m->(∃ s,r=p++s)∨Ka (nums p) (nums r)

end Go.Jog
namespace Go.Jog

def Ord (A:List Arc3)(o:List Nat):Prop:=∀ pre u post,o=pre++u::post->∀ a∈A,a.up=u->a.lo∈pre
def Topo (A:List Arc3)(n:Nat)(o:List Nat):Prop:=o.length=n/\o.Nodup/\(∀ u∈o,u<n)/\Ord A o
/-! ### Taking the BH free place, again and again -/
def cnt (A:List Arc3)(dn:List Nat)(u:Nat):Nat:=A.countP fun a=>decide (a.up=u) && !(dn.contains a.lo)
structure Kahn (A:List Arc3)(n:Nat)(dn av:List Nat):Prop where
 nodup:dn.Nodup
 below:∀ u∈dn,u<n
 ord:Ord A dn
 avnd:av.Nodup
 av:∀ u,u∈av ↔ u<n/\u ∉ dn/\cnt A dn u=0
 BH:∀ o,Topo A n o->(∃ s,o=dn++s)∨Ka dn o

end Go.Jog
namespace Go.Jog

def addW (o:Nat)(self:Bool)(x:Nat):Nat:=max (if self=true then max x 1 else x) (if 0<o then min 8 (o+1) else 0)
def rowT (f:Nat->Nat->Nat)(c v:Nat):List Arc3->Nat->Nat
 | [],x=>x
 | a::l,x=>rowT f c v l (if a.up=v then addW (f c a.lo) (decide (c=a.lo)) x else x)
def tab (A:List Arc3):Nat->Nat->Nat->Nat
 | 0,_,_=>0
 | k+1,c,v=>rowT (tab A k) c v A (tab A k c v)
end Go.Jog
namespace Go.Proofs.YtgfiffppookakaaGreatDoor
open Go Go.Jog
def tab:Tab:=[(2,⟨.int .i64,1,8,[.int .i64],false⟩),
 (3,⟨.int .i64,1,8,[.int .i64],false⟩),
 (4,⟨.bool,1,1,[.bool],false⟩),
 (5,⟨.int .u8,1,1,[.int .u8],false⟩),
 (9,⟨.str,1,16,[.str],false⟩),
 (12,⟨.int .u64,1,8,[.int .u64],false⟩),
 (21,⟨.int .i32,1,4,[.int .i32],false⟩),
 (22,⟨.int .i8,1,1,[.int .i8],false⟩),
 (23,⟨.arr 2 22,2,2,[.int .i8,.int .i8],true⟩),
 (25,⟨.struct [(5,0),(23,1),(4,3)],4,4,[.int .u8,.int .i8,.int .i8,.bool],true⟩),
 (26,⟨.slice 76,1,24,[.slice],false⟩),
 (28,⟨.struct [(25,0),(26,4)],5,32,[.int .u8,.int .i8,.int .i8,.bool,.slice],true⟩),
 (29,⟨.arr 3 22,3,3,[.int .i8,.int .i8,.int .i8],true⟩),
 (31,⟨.struct [(5,0),(5,1),(22,2),(9,3)],4,24,[.int .u8,.int .u8,.int .i8,.str],true⟩),
 (34,⟨.slice 97,1,24,[.slice],false⟩),
 (35,⟨.slice 178,1,24,[.slice],false⟩),
 (37,⟨.struct [(34,0),(35,1)],2,48,[.slice,.slice],true⟩),
 (38,⟨.slice 94,1,24,[.slice],false⟩),
 (40,⟨.struct [(37,0),(9,2),(38,3)],4,88,[.slice,.slice,.str,.slice],true⟩),
 (42,⟨.str,1,16,[.str],false⟩),
 (44,⟨.struct [(42,0),(42,1),(42,2)],3,48,[.str,.str,.str],true⟩),
 (46,⟨.int .i64,1,8,[.int .i64],false⟩),
 (48,⟨.slice 3,1,24,[.slice],false⟩),
 (50,⟨.struct [(9,0),(48,1),(3,2),(44,3)],6,96,[.str,.slice,.int .i64,.str,.str,.str],true⟩),
 (56,⟨.struct [(3,0),(9,1),(9,2)],3,40,[.int .i64,.str,.str],true⟩),
 (57,⟨.slice 56,1,24,[.slice],false⟩),
 (58,⟨.slice 42,1,24,[.slice],false⟩),
 (60,⟨.struct [(58,0),(42,1)],2,40,[.slice,.str],true⟩),
 (61,⟨.slice 60,1,24,[.slice],false⟩),
 (63,⟨.struct [(58,0)],1,24,[.slice],true⟩),
 (67,⟨.slice 9,1,24,[.slice],false⟩),
 (70,⟨.slice 227,1,24,[.slice],false⟩),
 (72,⟨.struct [(34,0),(70,1),(67,2)],3,72,[.slice,.slice,.slice],true⟩),
 (74,⟨.arr 4 5,4,4,[.int .u8,.int .u8,.int .u8,.int .u8],true⟩),
 (76,⟨.struct [(5,0),(29,1),(29,4),(22,7),(74,8)],12,12,[.int .u8,.int .i8,.int .i8,.int .i8,.int .i8,.int .i8,.int .i8,.int .i8,.int .u8,.int .u8,.int .u8,.int .u8],true⟩),
 (77,⟨.slice 42,1,24,[.slice],false⟩),
 (78,⟨.slice 77,1,24,[.slice],false⟩),
 (80,⟨.struct [(77,0),(67,1),(78,2)],3,72,[.slice,.slice,.slice],true⟩),
 (82,⟨.struct [(44,0),(42,3)],4,64,[.str,.str,.str,.str],true⟩),
 (84,⟨.struct [(82,0),(44,4)],7,112,[.str,.str,.str,.str,.str,.str,.str],true⟩),
 (85,⟨.slice 168,1,24,[.slice],false⟩),
 (87,⟨.struct [(44,0),(85,3),(44,4)],7,120,[.str,.str,.str,.slice,.str,.str,.str],true⟩),
 (89,⟨.struct [(82,0),(42,4),(9,5)],6,96,[.str,.str,.str,.str,.str,.str],true⟩),
 (90,⟨.arr 4 3,4,32,[.int .i64,.int .i64,.int .i64,.int .i64],true⟩),
 (92,⟨.struct [(90,0),(44,4)],7,80,[.int .i64,.int .i64,.int .i64,.int .i64,.str,.str,.str],true⟩),
 (94,⟨.struct [(3,0),(9,1),(80,2),(84,5),(87,12),(89,19),(92,25)],32,504,[.int .i64,.str,.slice,.slice,.slice,.str,.str,.str,.str,.str,.str,.str,.str,.str,.str,.slice,.str,.str,.str,.str,.str,.str,.str,.str,.str,.int .i64,.int .i64,.int .i64,.int .i64,.str,.str,.str],true⟩),
 (97,⟨.struct [(42,0),(42,1)],2,32,[.str,.str],true⟩),
 (102,⟨.func,1,8,[.func],false⟩),
 (108,⟨.slice 217,1,24,[.slice],false⟩),
 (109,⟨.slice 217,1,24,[.slice],false⟩),
 (111,⟨.struct [(4,0),(109,1),(109,2)],3,56,[.bool,.slice,.slice],true⟩),
 (112,⟨.arr 3 111,9,168,[.bool,.slice,.slice,.bool,.slice,.slice,.bool,.slice,.slice],true⟩),
 (113,⟨.arr 3 111,9,168,[.bool,.slice,.slice,.bool,.slice,.slice,.bool,.slice,.slice],true⟩),
 (116,⟨.struct [(3,0),(4,1),(9,2),(113,3)],12,200,[.int .i64,.bool,.str,.bool,.slice,.slice,.bool,.slice,.slice,.bool,.slice,.slice],true⟩),
 (121,⟨.map 9 3,1,8,[.map],false⟩),
 (123,⟨.slice 111,1,24,[.slice],false⟩),
 (126,⟨.slice 123,1,24,[.slice],false⟩),
 (128,⟨.struct [(126,0),(123,1),(123,2)],3,72,[.slice,.slice,.slice],true⟩),
 (137,⟨.ptr 156,1,8,[.ptr],false⟩),
 (140,⟨.slice 48,1,24,[.slice],false⟩),
 (143,⟨.func,1,8,[.func],false⟩),
 (145,⟨.struct [(111,0),(111,3)],6,112,[.bool,.slice,.slice,.bool,.slice,.slice],true⟩),
 (149,⟨.map 3 3,1,8,[.map],false⟩),
 (150,⟨.slice 4,1,24,[.slice],false⟩),
 (152,⟨.struct [(3,0),(3,1),(3,2)],3,24,[.int .i64,.int .i64,.int .i64],true⟩),
 (153,⟨.slice 145,1,24,[.slice],false⟩),
 (154,⟨.slice 152,1,24,[.slice],false⟩),
 (156,⟨.struct [(153,0),(154,1),(140,2)],3,72,[.slice,.slice,.slice],true⟩),
 (158,⟨.slice 161,1,24,[.slice],false⟩),
 (161,⟨.arr 2 3,2,16,[.int .i64,.int .i64],true⟩),
 (168,⟨.struct [(42,0),(42,1)],2,32,[.str,.str],true⟩),
 (169,⟨.slice 90,1,24,[.slice],false⟩),
 (173,⟨.str,1,16,[.str],false⟩),
 (175,⟨.map 97 4,1,8,[.map],false⟩),
 (177,⟨.arr 3 3,3,24,[.int .i64,.int .i64,.int .i64],true⟩),
 (178,⟨.arr 3 3,3,24,[.int .i64,.int .i64,.int .i64],true⟩),
 (182,⟨.slice 5,1,24,[.slice],false⟩),
 (184,⟨.func,1,8,[.func],false⟩),
 (185,⟨.func,1,8,[.func],false⟩),
 (186,⟨.func,1,8,[.func],false⟩),
 (187,⟨.func,1,8,[.func],false⟩),
 (189,⟨.struct [(184,0),(102,1),(185,2),(186,3),(187,4)],5,40,[.func,.func,.func,.func,.func],true⟩),
 (191,⟨.ptr 94,1,8,[.ptr],false⟩),
 (196,⟨.func,1,8,[.func],false⟩),
 (217,⟨.int .u32,1,4,[.int .u32],false⟩),
 (225,⟨.map 161 4,1,8,[.map],false⟩),
 (227,⟨.struct [(3,0),(3,1),(3,2),(3,3)],4,32,[.int .i64,.int .i64,.int .i64,.int .i64],true⟩),
 (242,⟨.func,1,8,[.func],false⟩),
 (243,⟨.slice 44,1,24,[.slice],false⟩),
 (253,⟨.map 161 3,1,8,[.map],false⟩),
 (256,⟨.map 3 4,1,8,[.map],false⟩),
 (260,⟨.arr 3 97,6,96,[.str,.str,.str,.str,.str,.str],true⟩),
 (263,⟨.arr 5 189,25,200,[.func,.func,.func,.func,.func,.func,.func,.func,.func,.func,.func,.func,.func,.func,.func,.func,.func,.func,.func,.func,.func,.func,.func,.func,.func],true⟩),
 (265,⟨.func,1,8,[.func],false⟩),
 (269,⟨.func,1,8,[.func],false⟩),
 (279,⟨.func,1,8,[.func],false⟩),
 (280,⟨.func,1,8,[.func],false⟩),
 (281,⟨.arr 3 113,27,504,[.bool,.slice,.slice,.bool,.slice,.slice,.bool,.slice,.slice,.bool,.slice,.slice,.bool,.slice,.slice,.bool,.slice,.slice,.bool,.slice,.slice,.bool,.slice,.slice,.bool,.slice,.slice],true⟩),
 (284,⟨.int .u64,1,8,[.int .u64],false⟩),
 (285,⟨.int .u64,1,8,[.int .u64],false⟩),
 (297,⟨.func,1,8,[.func],false⟩),
 (299,⟨.iface,1,16,[.iface],false⟩),
 (311,⟨.func,1,8,[.func],false⟩),
 (313,⟨.func,1,8,[.func],false⟩),
 (314,⟨.func,1,8,[.func],false⟩),
 (318,⟨.arr 3 42,3,48,[.str,.str,.str],true⟩),
 (321,⟨.func,1,8,[.func],false⟩),
 (326,⟨.arr 3 145,18,336,[.bool,.slice,.slice,.bool,.slice,.slice,.bool,.slice,.slice,.bool,.slice,.slice,.bool,.slice,.slice,.bool,.slice,.slice],true⟩),
 (356,⟨.slice 82,1,24,[.slice],false⟩),
 (367,⟨.slice 284,1,24,[.slice],false⟩),
 (369,⟨.struct [(4,0),(367,1)],2,32,[.bool,.slice],true⟩),
 (379,⟨.ptr 3,1,8,[.ptr],false⟩),
 (381,⟨.int .i64,1,8,[.int .i64],false⟩),
 (384,⟨.ptr 416,1,8,[.ptr],false⟩),
 (387,⟨.arr 24 5,24,24,[.int .u8,.int .u8,.int .u8,.int .u8,.int .u8,.int .u8,.int .u8,.int .u8,.int .u8,.int .u8,.int .u8,.int .u8,.int .u8,.int .u8,.int .u8,.int .u8,.int .u8,.int .u8,.int .u8,.int .u8,.int .u8,.int .u8,.int .u8,.int .u8],true⟩),
 (400,⟨.ptr 402,1,8,[.ptr],false⟩),
 (402,⟨.struct [(400,0),(182,1)],2,32,[.ptr,.slice],true⟩),
 (405,⟨.func,1,8,[.func],false⟩),
 (416,⟨.struct [(9,0),(9,1),(299,2)],3,48,[.str,.str,.iface],true⟩),
 (419,⟨.arr 20 284,20,160,[.int .u64,.int .u64,.int .u64,.int .u64,.int .u64,.int .u64,.int .u64,.int .u64,.int .u64,.int .u64,.int .u64,.int .u64,.int .u64,.int .u64,.int .u64,.int .u64,.int .u64,.int .u64,.int .u64,.int .u64],true⟩),
 (424,⟨.ptr 5,1,8,[.ptr],false⟩),
 (426,⟨.ptr 428,1,8,[.ptr],false⟩),
 (428,⟨.struct [(9,0)],1,16,[.str],true⟩),
 (430,⟨.struct [(97,0),(42,2)],3,48,[.str,.str,.str],true⟩),
 (431,⟨.arr 3 430,9,144,[.str,.str,.str,.str,.str,.str,.str,.str,.str],true⟩),
 (435,⟨.arr 32 5,32,32,[.int .u8,.int .u8,.int .u8,.int .u8,.int .u8,.int .u8,.int .u8,.int .u8,.int .u8,.int .u8,.int .u8,.int .u8,.int .u8,.int .u8,.int .u8,.int .u8,.int .u8,.int .u8,.int .u8,.int .u8,.int .u8,.int .u8,.int .u8,.int .u8,.int .u8,.int .u8,.int .u8,.int .u8,.int .u8,.int .u8,.int .u8,.int .u8],true⟩),
 (439,⟨.arr 0 16,0,0,[],true⟩)]
noncomputable def cx:Cx:={ P:=Tryz.prog,T:=tab,mixed:=by kernel_rfl,hT:=by kernel_rfl }

abbrev Str:=List UInt8

/-! ### The model -/
structure Rel where
 kind:Int
 upper:Str
 lower:Str
 deriving DecidableEq,Inhabited
def Rel.enc (x:Rel):List Value:=[.int .i64 x.kind,aA x.upper,aA x.lower]

def kL (b:UInt8):Bool:=(decide (97<=(b.toNat:Int)) && decide ((b.toNat:Int)<=122)) || (decide (65<=(b.toNat:Int)) && decide ((b.toNat:Int)<=90))
def pk (b:UInt8):Bool:=(decide (48<=(b.toNat:Int)) && decide ((b.toNat:Int)<=57)) || ((b.toNat:Int) == 95)
def eJ (k:Nat)(b:UInt8):Bool:=kL b || (!(k == 0) && pk b)
def f6:Nat->Str->Bool
 | _,[]=>true
 | k,b::s=>eJ k b && f6 (k+1) s
def cA (s:Str):Bool:=!(s == []) && decide (s.length<=32) && f6 0 s

theorem jh:∀ {s:Str}{k i:Nat}{b:UInt8},s[i]?=some b->eJ (k+i) b=false->f6 k s=false
 | [],k,i,b,h,_=>by simp at h
 | c::s,k,0,b,h,hn=>by
  simp at h;subst h;simp only [Mc] at hn;simp [f6,hn]
 | c::s,k,i+1,b,h,hn=>by
  have:=jh (k:=k+1) (by simpa using h) (by rw [show k+1+i=k+(i+1) by omega];exact hn);simp [f6,this]
theorem ll:∀ {s:Str}{k:Nat},(∀ i b,s[i]?=some b->eJ (k+i) b=true)->f6 k s=true
 | [],k,_=>rfl
 | c::s,k,h=>by
  have h0:=h 0 c (by simp);simp only [Mc] at h0;have h1:=ll (s:=s) (k:=k+1) (fun i b hb=>by
   have:=h (i+1) b (by simpa using hb)
   rwa [show k+(i+1)=k+1+i by omega] at this)
  simp [f6,h0,h1]

/-! ### IsName -/
set_option maxRecDepth 100000 in
theorem uD (C:Mem)(s:Str)(hl:s.length<1000000):Gives cx.P 21 [aA s] C (.bool (cA s)):=by
 refine Fn.it kr_ Tryz.func21 57 fun w0=>?_;refine G.z2 1 0 2 ?_;refine G.rp 6 fun R hR=>?_;refine D.aI ?_;refine D.e2 0 13 hR ?_;refine G.cond Z (fun h=>?_) (fun h=>?_)
 ·refine G.z1 1 2 ?_;refine G.rf ?_;refine ⟨?_,Z⟩;congr 1;simp only [Mp,Lg,cH] at h;unfold cA;rcases h with h | h
  ·have:s=[]:=h;simp [this]
  ·have h2:¬ s.length<=32:=by omega
   simp [h2]
 ·simp only [LU,Mt,Lc] at h;have hne:s≠[]:=h.1;have h32:s.length<=32:=by have:=h.2;omega
  refine G.rp 1 fun R hR=>?_;refine D.zo Z Z Z Z Z Z Z Z Z Z (by simp only [maxLen];omega) fl_ (fun p15 _ _ hs1=>?_);have hsl:=hs1;obtain ⟨A,c,rfl,_⟩:=hsl;refine D.q3 2 15 16 17 hR ?_;refine G.loop (fun fr C' L' m=>∃ k:Nat,k<=s.length/\(∀ i b,i<k->s[i]?=some b->eJ (0+i) b=true)/\fr=[(15,[],.slice A (s.map fun b=>[Value.int .u8 b.toNat]).length c),(16,[],.int .i64 (s.map fun b=>[Value.int .u8 b.toNat]).length),(17,[],.int .i64 k)]/\L'=[]/\m=s.length-k) (m:=s.length) (h_3 15 16 17) ⟨0,ch _,fun i b hi=>by omega,Z,Z,Z⟩ (fun fr C' L' m hle hI=>?_);obtain ⟨k,hk,hall,rfl,rfl,rfl⟩:=hI;refine G.z4 1 15 16 17 18 ?_;refine G.cond Z (fun h=>?_) (fun h=>?_)
  ·simp only [aH,cH] at h;have hk1:k<s.length:=by omega
   obtain ⟨b,hb⟩:∃ b,s[k]?=some b:=⟨s[k],aq hk1⟩;have hs2:=hs1.mono hle;refine G.rp 1 fun R hR=>?_;refine D.ak hs2 U10 om_ (row:=[.int .u8 b.toNat]) (by simp [hb]) fl_ (fun p20 hp20=>?_);refine D.aa hp20 ?_;refine D.q5 2 3 4 15 16 17 hR ?_;refine G.rp 5 fun R hR=>?_;refine D.aw ?_;refine D.ps 6 ?_;refine D.aw ?_;refine D.aI ?_;refine D.ac ?_;refine D.dn [E_ 3 _,E_ 4 _,(5,[],.bool (kL b)),E_ 15 _,E_ 16 _,E_ 17 _] hR ?_;refine G.rp 5 fun R hR=>?_;refine D.aw ?_;refine D.ps 3 ?_;refine D.aI ?_;refine D.ac ?_;refine D.dn [E_ 3 _,E_ 5 _,(6,[],.bool (pk b)),E_ 15 _,E_ 16 _,E_ 17 _] hR ?_;refine G.rp 8 fun R hR=>?_;refine D.aI ?_;refine D.aw ?_;refine D.dn [E_ 15 _,E_ 16 _,E_ 17 _,(55,[],.bool (!(kL b) && (((k:Int) == 0) || !(pk b))))] hR ?_;have hbyte:(!(kL b) && (((k:Int) == 0) || !(pk b)))=!(eJ (0+k) b):=by
    have e:((k:Int) == 0)=(0+k == 0):=by
     rw [LO];by_cases hk0:k=0
     ·subst hk0;rfl
     ·have:¬ (k:Int)=0:=by omega
      rw [Mt.2 this,Mt.2 hk0]
    unfold eJ;rw [e];cases kL b <;> cases pk b <;> cases (0+k == 0) <;> rfl
   refine G.cond Z (fun h=>?_) (fun h=>?_)
   ·rw [hbyte] at h;refine G.z1 1 2 ?_;refine G.rf ?_;refine ⟨?_,Z⟩;have:=jh (k:=0) hb (by simpa using h);simp [cA,this]
   ·rw [hbyte] at h;refine G.rg fun R hR=>?_;refine D.cf ((k+1:Nat):Int) U4 om_ om_ om_ U2 ?_;refine D.q3 1 15 16 17 hR ?_;refine G.ax (m':=s.length-(k+1)) om_ hle (h_3 15 16 17) ⟨k+1,by omega, ?_,Z,Z,Z⟩;intro i b' hi hb';rcases Ld i k with h1 | h1
    ·exact hall i b' h1 hb'
    ·have:i=k:=by omega
     subst this;rw [hb] at hb';cases hb'
     simpa using h
  ·simp only [aH,Lc] at h;refine G.z1 1 2 ?_;refine G.rf ?_;refine ⟨?_,Z⟩;have:=ll (s:=s) (k:=0) (fun i b hb=>hall i b (by have:=(aJ.1 hb).1;omega) hb);simp [cA,this,hne,h32]

set_option maxRecDepth 100000
structure ArcE where
 lower:Str
 upper:Str
 deriving DecidableEq,Inhabited
def ph (s:Str):List Value:=[aA s]
theorem HO (a b:Str):(a == b)=decide (a=b):=by by_cases h:a=b <;> simp [h]
set_option maxRecDepth 100000

/-! ### Comparisons -/
structure TotC {α:Type}(f:α->α->Int):Prop where
 eq:∀ x y,f x y=0 ↔ x=y
 sym:∀ x y,f x y<0 ↔ 0<f y x
 trans:∀ x y z,f x y<0->f y z<0->f x z<0

section
variable {α:Type} {f:α->α->Int}
variable [DecidableEq α]
def ins (f:α->α->Int)(x:α):List α->List α
 | []=>[x]
 | y::l=>if f y x<0 then y::ins f x l else if y=x then y::l else x::y::l
end
def dB (x:Int):List Value:=[.int .i64 x]
def dG (i:Nat):List Value:=[.int .i64 i]
end Go.Proofs.YtgfiffppookakaaGreatDoor
namespace Go.Jog
open Go

section
variable {cx:Cx} {n:Nat} {ds:List (Option Nat)} {R:Rg n ds} {its:List It} {fr:Fr} {C:Mem} {L:List Ent} {i k d:Nat} {o:Oper} {g:GL}
end

end Go.Jog
namespace Go.Jog
open Go
section
variable {cx:Cx} {n:Nat} {ds:List (Option Nat)} {R:Rg n ds} {its:List It} {fr:Fr} {C:Mem} {L:List Ent} {i k d:Nat} {o:Oper} {g:GL}
end
end Go.Jog
namespace Go.Jog

abbrev B32:Nat:=4294967296
def bh:List Nat->Nat
 | []=>0
 | x::l=>x+B32*bh l
def DigD (l:List Nat):Prop:=∀ x∈l,x<B32
def FZ (l:List Nat):Prop:=DigD l/\l.getLast?≠some 0
theorem eQ:∀ (a b:List Nat),bh (a++b)=bh a+B32 ^ a.length*bh b
 | [],b=>by simp [bh]
 | x::a,b=>by
  simp only [LM,bh,eQ a b,fh,Lb];rw [FX,<- K7,K8 (B32 ^ a.length) B32,MY]
theorem gS (a:List Nat)(x:Nat):bh (a++[x])=bh a+B32 ^ a.length*x:=by
 rw [eQ];simp [bh]
theorem kg:∀ {l:List Nat},DigD l->bh l<B32 ^ l.length
 | [],_=>by simp [bh]
 | x::l,h=>by
  have h1:=h x (by simp);have h2:=kg (l:=l) (fun y hy=>h y (by simp [hy]));simp only [bh,fh,Lb];have h3:B32*(bh l+1)<=B32*B32 ^ l.length:=Ln _ h2;rw [K8 (B32 ^ l.length) B32];rw [FX] at h3;omega
theorem gO {l:List Nat}{i x:Nat}(h:l[i]?=some x):bh (l.take (i+1))=bh (l.take i)+B32 ^ i*x:=by
 have hi:=(aJ.1 h).1;rw [xO,h];simp only [LP];rw [gS,eB,Lt om_]
theorem DigD.take {l:List Nat}(h:DigD l)(i:Nat):DigD (l.take i):=fun x hx=>h x (LT hx)
theorem DigD.snoc {l:List Nat}(h:DigD l){x:Nat}(hx:x<B32):DigD (l++[x]):=fun y hy=>by
 rcases Lh.1 hy with hy | hy
 ·exact h y hy
 ·rw [K5.1 hy];exact hx
theorem kf:∀ {l:List Nat},(∀ x∈l,x=0)->bh l=0
 | [],_=>rfl
 | x::l,h=>by
  rw [bh,h x (by simp),kf (fun y hy=>h y (by simp [hy]))];rfl
def ku (l:List Nat):Nat->Nat
 | 0=>0
 | k+1=>if l[k]?=some 0 then ku l k else k+1
def mq (l:List Nat):List Nat:=l.take (ku l l.length)
theorem kp (l:List Nat):∀ k,k<=l.length->(l.take (ku l k)).getLast?≠some 0/\bh (l.take (ku l k))=bh (l.take k)
 | 0,_=>by simp [ku]
 | k+1,hk=>by
  rw [ku];obtain ⟨x,hx⟩:∃ x,l[k]?=some x:=⟨l[k],aq om_⟩;split
  ·rename_i h;obtain ⟨h1,h2⟩:=kp l k om_;refine ⟨h1, ?_⟩;rw [h2,gO h];simp
  ·rename_i h;refine ⟨?_,Z⟩;rw [xO,hx];simp only [LP,OB,Og];intro e;rw [hx] at h;simp at e;exact h (by rw [e])
theorem fF (l:List Nat):bh (mq l)=bh l:=by
 have:=(kp l l.length (aP _)).2;rw [cK] at this;exact this
theorem fG {l:List Nat}(h:DigD l):FZ (mq l):=⟨h.take _,(kp l l.length (aP _)).1⟩
theorem u3 {l:List Nat}(h:FZ l)(hl:0<l.length):B32 ^ (l.length-1)<=bh l:=by
 obtain ⟨x,hx⟩:∃ x,l[l.length-1]?=some x:=⟨l[l.length-1]'om_,aq om_⟩;have h1:=gO hx;rw [show l.length-1+1=l.length by omega,cK] at h1;have hx0:x≠0:=fun e=>h.2 (by rw [MF,hx,e]);rw [h1];have:B32 ^ (l.length-1)*1<=B32 ^ (l.length-1)*x:=Ln _ om_;omega
theorem H7 {l:List Nat}(h:FZ l):bh l=0 ↔ l=[]:=by
 constructor
 ·intro e;apply Lw;intro hn;have:=u3 h (K6.2 hn);rw [e] at this;have hp:0<B32 ^ (l.length-1):=Mz dc_;omega
 ·rintro rfl;rfl
theorem BF {a b:List Nat}(ha:DigD a)(hb:FZ b)(h:a.length<b.length):bh a<bh b:=by
 have h1:=kg ha;have h2:=u3 hb om_;have h3:B32 ^ a.length<=B32 ^ (b.length-1):=gr dc_ om_;omega
theorem JT {a b:List Nat}{i x y:Nat}(ha:DigD a)(hl:a.length=b.length)(hx:a[i]?=some x)(hy:b[i]?=some y)(hxy:x<y)(he:a.drop (i+1)=b.drop (i+1)):bh a<bh b:=by
 have e1:bh a=bh (a.take (i+1))+B32 ^ (i+1)*bh (a.drop (i+1)):=by
  have hi:=(aJ.1 hx).1
  conv=>lhs;rw [<- LQ (i+1) a]
  rw [eQ,eB,Lt om_]
 have e2:bh b=bh (b.take (i+1))+B32 ^ (i+1)*bh (b.drop (i+1)):=by
  have hi:=(aJ.1 hy).1
  conv=>lhs;rw [<- LQ (i+1) b]
  rw [eQ,eB,Lt om_]
 rw [e1,e2,he,gO hx,gO hy];have h1:=kg (ha.take i);have h2:(a.take i).length<=i:=by rw [eB];omega
 have h3:B32 ^ (a.take i).length<=B32 ^ i:=gr dc_ h2;have h4:B32 ^ i*(x+1)<=B32 ^ i*y:=Ln _ hxy;rw [FX] at h4;omega
end Go.Jog
namespace Go.Jog

def gD (l:List Nat)(i:Nat):Nat:=l.getD i 0
theorem ie {l:List Nat}(h:DigD l)(i:Nat):gD l i<B32:=by
 unfold gD;rw [aF];cases hx:l[i]? with
 | none=>decide
 | some x=>exact h x (ba hx)
theorem fa {l:List Nat}{i x:Nat}(h:l[i]?=some x):gD l i=x:=by unfold gD;rw [aF,h];rfl
theorem i1 (l:List Nat)(i:Nat):bh (l.take (i+1))=bh (l.take i)+B32 ^ i*gD l i:=by
 cases hx:l[i]? with
 | none =>
  have hi:l.length<=i:=N4.1 hx;have:gD l i=0:=by unfold gD;rw [aF,hx];rfl
  rw [this,gG om_,gG hi];simp
 | some x=>rw [gO hx,fa hx]
theorem Gk (P s c B t:Nat)(h:s+B*c=t):P*s+P*B*c=P*t:=by
 rw [<- h,FX,K7]
theorem FH {a b out:List Nat}{c i:Nat}(hl:out.length=i)(h:bh out+B32 ^ i*c=bh (a.take i)+bh (b.take i)) :
  bh (out++[(gD a i+gD b i+c) % B32])+B32 ^ (i+1)*((gD a i+gD b i+c) / B32)=bh (a.take (i+1))+bh (b.take (i+1)):=by
 rw [gS,hl,i1,i1,Lb];have h1:=Gk (B32 ^ i) _ _ B32 _ (Nw (gD a i+gD b i+c) B32);rw [FX,FX] at h1;omega
def xh (x y c:Nat):Nat:=if x<y+c then 1 else 0
def oa (x y c:Nat):Nat:=x+B32*xh x y c-y-c
theorem Ed {a b out:List Nat}{c i:Nat}(hb:DigD b)(hc:c<=1)(hl:out.length=i)(h:bh out+bh (b.take i)=bh (a.take i)+B32 ^ i*c) :
  bh (out++[oa (gD a i) (gD b i) c])+bh (b.take (i+1))=bh (a.take (i+1))+B32 ^ (i+1)*xh (gD a i) (gD b i) c:=by
 have hy:=ie hb i;have h0:oa (gD a i) (gD b i) c+(gD b i+c)=gD a i+B32*xh (gD a i) (gD b i) c:=by
  unfold oa xh;split <;> omega
 rw [gS,hl,i1,i1,Lb];have h1:B32 ^ i*oa (gD a i) (gD b i) c+(B32 ^ i*gD b i+B32 ^ i*c)=B32 ^ i*gD a i+B32 ^ i*B32*xh (gD a i) (gD b i) c:=by
  rw [<- FX,<- FX,h0,FX,K7]
 omega
theorem H8 (x y c:Nat):xh x y c<=1:=by unfold xh;split <;> omega
theorem uP {x y c:Nat}(hx:x<B32)(hy:y<B32)(hc:c<=1):oa x y c<B32:=by unfold oa xh;split <;> omega
theorem FB {x y c:Nat}(hx:x<B32)(hy:y<B32)(hc:c<=1):(x+y+c) / B32<=1:=by
 have:x+y+c<2*B32:=by omega
 exact Nat.le_of_lt_succ ((Mn dc_).2 this)
theorem lI:∀ {l:List Nat}{i x z:Nat},l[i]?=some x->bh (l.set i z)+B32 ^ i*x=bh l+B32 ^ i*z
 | [],_,_,_,h=>by simp at h
 | y::l,0,x,z,h=>by
  simp at h;subst h;simp only [List.set_cons_zero,bh,OC,NE];omega
 | y::l,i+1,x,z,h=>by
  have ih:=lI (l:=l) (i:=i) (x:=x) (z:=z) (by simpa using h);simp only [List.set_cons_succ,bh,Lb];have h1:B32*bh (l.set i z)+B32*(B32 ^ i*x)=B32*bh l+B32*(B32 ^ i*z):=by rw [<- FX,ih,FX]
  rw [K8 (B32 ^ i) B32,K7,K7];omega
theorem DigD.set {l:List Nat}(h:DigD l){i z:Nat}(hz:z<B32):DigD (l.set i z):=fun x hx=>by
 rcases NB hx with h1 | h1
 ·exact h x h1
 ·rw [h1];exact hz
theorem EQ {out b:List Nat}{V T c x i k:Nat}{o:Nat}(ho:out[i+k]?=some o)(hT:T=bh (b.take k))(h:bh out+B32 ^ (i+k)*c=V+B32 ^ i*(x*T)) :
  bh (out.set (i+k) ((c+x*gD b k+o) % B32))+B32 ^ (i+(k+1))*((c+x*gD b k+o) / B32)=V+B32 ^ i*(x*bh (b.take (k+1))):=by
 have h1:=lI (z:=(c+x*gD b k+o) % B32) ho;rw [i1,<- hT,show i+(k+1)=i+k+1 by omega,Lb];have h2:=Gk (B32 ^ (i+k)) _ _ B32 _ (Nw (c+x*gD b k+o) B32);rw [FX,FX] at h2;have h3:B32 ^ i*(x*(T+B32 ^ k*gD b k))=B32 ^ i*(x*T)+B32 ^ (i+k)*(x*gD b k):=by
  rw [FX,FX,MX];congr 1;rw [M8 x,K7]
 omega
theorem sL {c x y o:Nat}(hc:c<B32)(hx:x<B32)(hy:y<B32)(ho:o<B32):c+x*y+o<B32*B32:=by
 have h1:x*y<=(B32-1)*(B32-1):=NF om_ om_;have h2:(B32-1)*(B32-1)=18446744065119617025:=by decide
 have h3:B32*B32=18446744073709551616:=by decide
 have hB:B32=4294967296:=rfl;omega
theorem FA {c x y o:Nat}(hc:c<B32)(hx:x<B32)(hy:y<B32)(ho:o<B32):(c+x*y+o) / B32<B32:=(Mn dc_).2 (sL hc hx hy ho)
theorem sV {a out:List Nat}{i:Nat}(hl:out.length=i)(h:2*bh out+gD a 0 % 2=bh (a.take i)+B32 ^ i*(gD a i % 2)) :
  2*bh (out++[gD a i / 2+gD a (i+1) % 2*2147483648])+gD a 0 % 2=bh (a.take (i+1))+B32 ^ (i+1)*(gD a (i+1) % 2):=by
 rw [gS,hl,i1,Lb];have h0:2*(gD a i / 2+gD a (i+1) % 2*2147483648)+gD a i % 2=gD a i+B32*(gD a (i+1) % 2):=by
  show _=gD a i+4294967296*(gD a (i+1) % 2);omega
 have h1:B32 ^ i*(2*(gD a i / 2+gD a (i+1) % 2*2147483648))+B32 ^ i*(gD a i % 2)=B32 ^ i*gD a i+B32 ^ i*B32*(gD a (i+1) % 2):=by
  rw [<- FX,h0,FX,K7]
 have h2:2*(B32 ^ i*(gD a i / 2+gD a (i+1) % 2*2147483648))=B32 ^ i*(2*(gD a i / 2+gD a (i+1) % 2*2147483648)):=M8 _ _ _;omega
end Go.Jog
namespace Go.Jog

theorem wK {a b g:Nat}(h:Nat.gcd a b=g)(hg:g % 2=1)(ha:a % 2=0):Nat.gcd (a / 2) b=g:=by
 have ha2:a=2*(a / 2):=by omega
 refine Nat.dvd_antisymm ?_ ?_
 ·rw [<- h];refine Nat.dvd_gcd ?_ (MD _ _);have h1:Nat.gcd (a / 2) b ∣ 2*(a / 2):=Nat.dvd_trans (Mj (a / 2) b) (Nat.dvd_mul_left _ _);rw [<- ha2] at h1;exact h1
 ·have h1:g ∣ 2*(a / 2):=by rw [<- ha2,<- h];exact Mj a b
  have hc:Nat.Coprime g 2:=by
   have h2:=MD g 2;have h3:=NK dc_ h2;have h4:Nat.gcd g 2≠2:=fun e=>by
    have:=Mj g 2;rw [e] at this;omega
   have h5:0<Nat.gcd g 2:=MI _ dc_;show Nat.gcd g 2=1;omega
  exact Nat.dvd_gcd (hc.dvd_of_dvd_mul_left h1) (by rw [<- h];exact MD a b)
theorem Cd {a b g:Nat}(h:Nat.gcd a b=g)(hl:b<=a):Nat.gcd (a-b) b=g:=by
 rw [<- h]
 conv=>rhs;rw [show a=(a-b)+b by omega]
 rw [Nat.gcd_add_self_left]
theorem E6 {a b:Nat}(ha:a % 2=0)(hb:b % 2=0):Nat.gcd a b=2*Nat.gcd (a / 2) (b / 2):=by
 rw [<- Nat.gcd_mul_left];congr 1 <;> omega
theorem HI {a b:Nat}(h:a % 2=1∨b % 2=1):Nat.gcd a b % 2=1:=by
 apply Lw;intro hn;have h2:2 ∣ Nat.gcd a b:=Nat.dvd_of_mod_eq_zero om_;have ha:=Nat.dvd_trans h2 (Mj a b);have hb:=Nat.dvd_trans h2 (MD a b);omega
theorem HR {t b β:Nat}(hb:0<b)(hβ:β<=1):(2*t+β) / b=2*(t / b)+(if b<=2*(t % b)+β then 1 else 0)/\(2*t+β) % b=(if b<=2*(t % b)+β then 2*(t % b)+β-b else 2*(t % b)+β):=by
 have h1:=MT t b;have h2:=K9 t hb;obtain ⟨q,hq⟩:∃ q,t / b=q:=⟨_,rfl⟩;obtain ⟨r,hr⟩:∃ r,t % b=r:=⟨_,rfl⟩;rw [hq,hr] at h1 ⊢;rw [hr] at h2;have e:2*t+β=b*(2*q)+(2*r+β):=by rw [<- h1,FX,M8];omega
 rw [e,Nat.mul_add_div hb,Nat.mul_add_mod];split
 ·rename_i h;have h3:(2*r+β) / b=1:=by
   rw [Nat.div_eq_sub_div hb h,Mr om_]
  have h4:(2*r+β) % b=2*r+β-b:=by
   rw [Nat.mod_eq_sub_mod h,Mw om_]
  rw [h3,h4];exact ⟨rfl,rfl⟩
 ·rename_i h;rw [Mr om_,Mw om_];exact ⟨rfl,rfl⟩
theorem xi {l:List Nat}{i:Nat}(hd:DigD l):bh l / B32 ^ i % B32=gD l i:=by
 have e:bh l=bh (l.take i)+B32 ^ i*bh (l.drop i):=by
  conv=>lhs;rw [<- LQ i l]
  rw [eQ];rcases Ld l.length i with h | h
  ·rw [Mh om_];simp [bh]
  ·rw [eB,Lt h]
 have h1:bh (l.take i)<B32 ^ i:=by
  have h2:=kg (hd.take i);have h3:B32 ^ (l.take i).length<=B32 ^ i:=gr dc_ (by rw [eB];omega);omega
 have hp:0<B32 ^ i:=Mz dc_;rw [e,NC _ _ hp,Mr h1,LO];unfold gD;rw [aF];cases hx:l[i]? with
 | none=>rw [Mh (N4.1 hx)];rfl
 | some x =>
  have hi:=(aJ.1 hx);rw [K2 hi.1,hi.2];show (x+B32*bh (l.drop (i+1))) % B32=x;rw [Nat.add_mul_mod_self_left,Mw (hd x (ba hx))]
end Go.Jog
