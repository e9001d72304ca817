/- Laws that the proofs of this seat share, part 2. -/
import Derived.Test.YtllimhhofkcgpaaGreatDoorG1
import Derived.Test.YtllimhhofkcgpaaGreatDoorShelf
import Derived.OpenShut
import Derived.ChangeSame
import Derived.ChangeVars
import Derived.Deep.Slices
import Derived.Deep.DeepHandedRow
import Derived.LaidLaws
import Derived.WalkKit
import Derived.ProofKit
import Derived.Shelf.Vars
import Derived.ChangeKeysEq
import Derived.MapKept
import Derived.Sort.Walk0
import Derived.Shelf.SlSortCmp.Insertion
import Derived.Test.YtllimhhofkcgpaaGreatDoorProg
import Derived.Laws.Bits64b
namespace Go.Jog
open Go

section
variable {cx:Cx} {n:Nat} {ds:List (Option Nat)} {R:Rg n ds} {its:List It} {fr:Fr} {C:Mem} {L:List Ent} {i k d:Nat} {o:Oper} {g:GL} {v:Value}

theorem Sl.flat {C:Mem}{s:Nat}{A:Option Addr}{len c:Nat}{rows:List (List Value)}(hs:Sl C s (.slice A len c) rows)(hpos:0<s)(hne:rows≠[]) :
  len=rows.length/\∃ a,A=some a/\a.spot=none/\∀ (q:Nat)(u:Value),rows.flatten[q]?=some u->CCell C (a.add q) u:=by
 obtain ⟨A',c',h1,h2,h3,h4,h5⟩:=hs
 cases h1
 refine ⟨rfl, ?_⟩
 cases rows with
 | nil=>exact absurd rfl hne
 | cons r rs =>
  obtain ⟨ad,hA,hsp,_⟩:=h5 0 r (by simp)
  subst hA
  refine ⟨ad,rfl,hsp,fun q u hq=>?_⟩
  have hqlt:q<(r::rs).length*s:=by rw [<- aL h4];exact (List.getElem?_eq_some_iff.1 hq).1
  have hdiv:q / s<(r::rs).length:=Nat.div_lt_of_lt_mul (by rw [Nat.mul_comm];exact hqlt)
  have hgi:(r::rs)[q / s]?=some (r::rs)[q / s]:=List.getElem?_eq_getElem hdiv
  have hmod:q % s<((r::rs)[q / s]).length:=by rw [h4 _ (List.getElem_mem hdiv)];exact Nat.mod_lt _ hpos
  have hgj:=List.getElem?_eq_getElem hmod
  have heq:=getElem?_flatten_rows h4 hgi hgj
  have hq':q / s*s+q % s=q:=by rw [Nat.mul_comm];exact Nat.div_add_mod q s
  rw [hq',hq] at heq
  obtain ⟨ad',e3,e4,e5⟩:=h5 _ _ hgi
  cases e3
  have:=e5 _ _ hgj
  rw [hq'] at this
  rw [Option.some.inj heq]
  exact this

theorem append_wrap {P:Program}{a:Act}{o:Oper}{t:Nat}{x y:Operand}(hop:o.op=.call ⟨.builtin .append,#[x,y],#[t,t]⟩){r:Value}{w w':World}(h:(Builtin.append_ #[t,t] o.type #[a.eval x,a.eval y]).run P w=.ok r w') :
  (execOp a.eval o).run P w=.ok (.value r) w':=by
 have e1:execOp a.eval o=(do let dd <- resolve a.eval ⟨.builtin .append,#[x,y],#[t,t]⟩ o.type;invoke dd.target dd.args:Sem Next):=by unfold execOp;rw [hop]
 rw [e1]
 simp only [resolve,invoke,builtin,Sem.run_bind,Sem.run_pure,Result.andThen_ok,List.map_toArray,List.map_cons,List.map_nil,h]

theorem D.appendC {t e n0 c0:Nat}{x y:Operand}{ti te:TI}{p:Value}{A:Option Addr}{rows0 rows:List (List Value)}(hk:k=3)(hd:o.dst=some d)(hg:gOn ds fr o.guard=true)
  (hop:o.op=.call ⟨.builtin .append,#[x,y],#[t,t]⟩) (ht:cx.T.get t=some ti) (hte:ti.k=.slice e) (he:cx.T.get e=some te) (hs0:Nat.beq te.size 0=false)
  (hx:ev fr [] x=some (.slice A n0 c0)) (hy:ev fr [] y=some p) (hs:Sl C te.size (.slice A n0 c0) rows0) (hsl:Sl C te.size p rows) (hgrow:rows=[]∨c0<rows0.length+rows.length)
  (h63:rows0.length+rows.length<=maxLen) (hbytes:(rows0.length+rows.length)*te.bytes<=140737488355328) (hp:∀ v,aG n ds ((d,[],v)::fr) d=true)
  (h:∀ v' C',C.le C'->Sl C' te.size v' (rows0++rows)->D cx R its ((d,[],v')::fr) C' L):D cx R ((i,k,o)::its) fr C L:=by
 have hu:cx.P.underlying t=some (.slice e):=by
  obtain ⟨kk,s1,b1,z1,g1⟩:=ti
  simp only at hte
  subst hte
  exact bx cx.hT ht
 obtain ⟨inf,hi,hsize,hby,hz,hzc⟩:=(cq cx.hT he).info
 have hpos:0<te.size:=Nat.pos_of_ne_zero (fun e=>by rw [e] at hs0;cases hs0)
 have hs00:=hs
 obtain ⟨A1,c1,h1v,h2v,h3v,h4v,h5v⟩:=hs00
 cases h1v
 have hsl0:=hsl
 obtain ⟨B,c,hpv,hlc,hcm,hrl,hcells⟩:=hsl0
 have hk1:Nat.ble k 1=false:=by subst hk;rfl
 by_cases hr0:rows=[]
 ·subst hr0
  refine D.eg (S:=fun v' C' L'=>v'=.slice A rows0.length c0/\C'=C/\L'=L) hk1 hd hg hp (fun a hss w _ hw=>?_) (fun v' C' L' hle ⟨e1,e2,e3⟩=>?_)
  ·have hr:(Builtin.append_ #[t,t] o.type #[a.eval x,a.eval y]).run cx.P w=.ok (.slice A rows0.length c0) w:=by
    rw [hss _ _ hx,hss _ _ hy,hpv]
    have hfc:(Builtin.firstCells te.size 0 (.slice B 0 c)).run cx.P w=.ok #[] w:=by
     cases B <;> simp [Builtin.firstCells,loadCells,loadCellsFrom]
    simp only [List.length_nil]
    cases A with
    | none=>simp [Builtin.append_,run_underlying hu,sizeOf,typeInfo,hi,hsize,Builtin.lenOf,hfc,h2v]
    | some a0=>simp [Builtin.append_,run_underlying hu,sizeOf,typeInfo,hi,hsize,Builtin.lenOf,hfc,h2v,storeCells]
   unfold Oper.wp
   rw [append_wrap hop hr]
   exact ⟨_,C,L,rfl,Mem.le.refl _,fun h2=>by omega,hw,rfl,rfl,rfl⟩
  ·subst e1;subst e2;subst e3
   exact h _ C' hle (by simpa using hs)
 ·have hgrow':c0<rows0.length+rows.length:=hgrow.resolve_left hr0
  obtain ⟨-,b0,hB, -,hbc⟩:=Sl.flat (hpv ▸ hsl) hpos hr0
  subst hB
  have hm0:0<rows.length:=List.length_pos_iff.2 hr0
  have hfl:=aL hrl
  have hfl0:=aL h4v
  refine D.freshC (S:=fun v' b ob=>∃ (cc:Nat)(rest:Array Value),v'=.slice (some ⟨b,0,none⟩) (rows0.length+rows.length) cc/\ob=.cells (rows0.flatten.toArray++rows.flatten.toArray++rest) e (0,0)/\rows0.length+rows.length<=cc/\cc<=maxLen) hk1 hd hg hp
   (fun a hss w C1 L1 w1 hw=>?_) (fun v' b ob C' hle hb ⟨cc,rest,e1,e2,e3,e4⟩=>?_)
  ·have hnews:∀ (j:Nat)(u:Value),rows.flatten[j]?=some u->w.cell? (b0.add j)=some u:=fun j u hj=>(hbc j u hj).cell hw.sep
   have hsz1:rows.flatten.length=rows.length*inf.size:=by rw [hfl,hsize]
   have hsz0:rows0.flatten.length=rows0.length*inf.size:=by rw [hfl0,hsize]
   refine ⟨.slice (some ⟨w.heap.size,0,none⟩) (rows0.length+rows.length) (grownCap w (rows0.length+rows.length) c0 e),_,w.drew.alloc (.cells (rows0.flatten.toArray++rows.flatten.toArray++Builtin.zeroCells te.zv.cells (grownCap w (rows0.length+rows.length) c0 e-(rows0.length+rows.length))) e), ?_, ?_,grownCap w (rows0.length+rows.length) c0 e,Builtin.zeroCells te.zv.cells (grownCap w (rows0.length+rows.length) c0 e-(rows0.length+rows.length)),rfl,rfl,grownCap_ge w _ _ e,grownCap_le_maxLen w _ _ e h63⟩
   ·refine append_wrap hop ?_
    rw [hss _ _ hx,hss _ _ hy,hpv]
    cases hA:A with
    | none =>
     subst hA
     have hr00:rows0=[]:=by
      cases rows0 with
      | nil=>rfl
      | cons r rs=>obtain ⟨ad,hA,_⟩:=h5v 0 r (by simp);cases hA
     subst hr00
     have hc0:c0<rows.length:=by simpa using hgrow'
     have hf:=run_firstCells_some (P:=cx.P) w.drew inf.size rows.length b0 rows.length c rows.flatten hsz1 (by simpa using hnews)
     have hn:rows.length≠0:=by omega
     have h63':¬ (9223372036854775807<(rows.length:Int)):=by simp only [maxLen,List.length_nil] at h63;omega
     have hfits:¬ (281474976710656<Builtin.nextslicecap rows.length c0*inf.bytes):=by
      have hb:=hbytes
      simp only [List.length_nil,Nat.zero_add,<- hby] at hb
      have:=growslice_fits (need:=rows.length) (bytes:=inf.bytes) (old:=c0) hc0 hb
      omega
     have hroom:¬ (rows.length<=c0):=by omega
     simp [Builtin.append_,run_underlying hu,sizeOf,typeInfo,zeroValue,hi,hz,Builtin.lenOf,hroom,h63',hfits,Question.forced,run_firstCells_none,hf,newRow,grownCap]
    | some a0 =>
     subst hA
     have hold:∀ (j:Nat)(u:Value),rows0.flatten[j]?=some u->w.cell? (a0.add j)=some u:=fun j u hj=>by
      cases hr:rows0 with
      | nil=>subst hr;simp at hj
      | cons r rs =>
       obtain ⟨-,a1,hA1, -,hac⟩:=Sl.flat hs hpos (by rw [hr];simp)
       cases hA1
       exact (hac j u hj).cell hw.sep
     exact run_append_grow (P:=cx.P) w t o.type e inf te.zv hu hi hz a0 rows0.length c0 rows0.flatten hsz0 hold b0 rows.length c rows.flatten hsz1 hnews om_ (by simp only [maxLen] at h63;omega) (by rw [hby];exact growslice_fits om_ hbytes)
   ·exact ⟨rfl,rfl,rfl,by simp,fun q hq=>heap_alloc_old w.drew _ hq,heap_alloc_new w.drew _,Nat.le_succ _⟩
  ·subst e1;subst e2
   have:=Sl.ofBlock (rows:=rows0++rows) (s:=te.size) (c:=cc) hb (fun r hr=>(List.mem_append.1 hr).elim (h4v r) (hrl r)) (fun j u hj=>by
    have hlt:=(List.getElem?_eq_some_iff.1 hj).1
    rw [List.flatten_append] at hj hlt
    have e5:(rows0.flatten.toArray++rows.flatten.toArray:Array Value)=(rows0.flatten++rows.flatten).toArray:=by simp
    rw [e5]
    rw [Array.getElem?_append_left (by simpa using hlt)]
    simpa using hj) (by simpa using e3) e4
   simp only [List.length_append] at this
   exact h _ C' hle this

/-! ### Rows of the function's own that are made -/
theorem St.objArr {w0:World}{C0:Mem}{L0:List Ent}{C:Mem}{L:List Ent}{w:World}{b e s m cap:Nat}{cs xs:List Value}(h:St w0 C0 L0 C (.obj b (.cells ⟨cs⟩ e (0,0))::L) w)(hx:cs.take (m*s)=xs)(hcs:cs.length=cap*s)(hm:m<=cap)(hc:cap<=maxLen) :
  St w0 C0 L0 C (.arr (.slice (some ⟨b,0,none⟩) m cap) e s m xs::L) w:=by
 have hb:w.heap[b]?=some (.cells ⟨cs⟩ e (0,0)):=h.sep.e _ (List.mem_cons_self ..)
 have hd:=List.pairwise_cons.1 h.sep.d
 have hown:∀ k,(Ent.arr (.slice (some ⟨b,0,none⟩) m cap) e s m xs).own k->k=b:=fun k hk=>by simp only [Ent.own,Value.ownBlock,Option.some.injEq] at hk;exact hk.symm
 have hle:m*s<=cap*s:=Nat.mul_le_mul_right _ hm
 refine ⟨⟨h.sep.c,fun x hx'=>?_,List.pairwise_cons.2 ⟨fun y hy k hk=>hd.1 y hy k (hown k hk),hd.2⟩,fun k ⟨x,hx',hk⟩=>?_⟩,h.ev,h.c0,h.cn,fun k ⟨x,hx',hk⟩=>?_⟩
 ·rcases List.mem_cons.1 hx' with rfl | hx'
  ·exact ⟨by rw [<- hx,List.length_take];omega,.inr ⟨b,cap,⟨cs⟩,rfl,Nat.zero_le _,hb,hm,hc,by simpa using hcs,by simpa using hx⟩⟩
  ·exact h.sep.e x (by simp [hx'])
 ·rcases List.mem_cons.1 hx' with rfl | hx'
  ·exact h.sep.n k ⟨_,List.mem_cons_self ..,hown k hk⟩
  ·exact h.sep.n k ⟨x,by simp [hx'],hk⟩
 ·rcases List.mem_cons.1 hx' with rfl | hx'
  ·exact h.ln k ⟨_,List.mem_cons_self ..,hown k hk⟩
  ·exact h.ln k ⟨x,by simp [hx'],hk⟩

theorem D.newArr {e s m cap:Nat}{cs xs:List Value}(hk:Nat.ble k 1=false)(hd:o.dst=some d)(hg:gOn ds fr o.guard=true)(hp:∀ v,aG n ds ((d,[],v)::fr) d=true)
  (hrun:∀ a,Sees (ev fr []) a->∀ w,(execOp a.eval o).run cx.P w=.ok (.value (.slice (some ⟨w.heap.size,0,none⟩) m cap)) (w.alloc (.cells ⟨cs⟩ e))) (hx:cs.take (m*s)=xs) (hcs:cs.length=cap*s) (hm:m<=cap) (hc:cap<=maxLen)
  (h:∀ b,D cx R its ((d,[],.slice (some ⟨b,0,none⟩) m cap)::fr) C (.arr (.slice (some ⟨b,0,none⟩) m cap) e s m xs::L)):D cx R ((i,k,o)::its) fr C L :=
 D.eg (S:=fun v C' L'=>C'=C/\∃ b,v=.slice (some ⟨b,0,none⟩) m cap/\L'=.arr (.slice (some ⟨b,0,none⟩) m cap) e s m xs::L) hk hd hg hp (fun a hs w _ hw=>by
  unfold Oper.wp
  rw [hrun a hs w]
  exact ⟨_,C,.arr (.slice (some ⟨w.heap.size,0,none⟩) m cap) e s m xs::L,rfl,Mem.le.refl _,fun _ x hx=>by simp [hx],St.objArr (St.alloc hw _) hx hcs hm hc,rfl,_,rfl,rfl⟩)
  (fun v C' L' _ ⟨e1,b,e2,e3⟩=>by subst e1;subst e2;subst e3;exact h b)

theorem D.bK {t e len:Nat}{parts:Array (Nat × Operand)}{ti te:TI}(rows:List (List Value))(hk:Nat.ble k 1=false)(hd:o.dst=some d)(hg:gOn ds fr o.guard=true)(hop:o.op=.buildSlice t len parts)
  (ht:cx.T.get t=some ti) (hte:ti.k=.slice e) (he:cx.T.get e=some te) (hrows:rowsO (ev fr []) parts.toList 0=some rows) (hl:(rows.all fun r=>Nat.beq r.length te.size)=true) (hlen:Nat.beq parts.toList.length len=true)
  (hbig:Nat.ble (len*te.size) 16777216=true) (hs0:Nat.beq te.size 0=false) (hp:∀ v,aG n ds ((d,[],v)::fr) d=true)
  (h:∀ b,D cx R its ((d,[],.slice (some ⟨b,0,none⟩) rows.length rows.length)::fr) C (.arr (.slice (some ⟨b,0,none⟩) rows.length rows.length) e te.size rows.length rows.flatten::L)):D cx R ((i,k,o)::its) fr C L:=by
 have hl':∀ r∈rows,r.length=te.size:=fun r hr=>Nat.eq_of_beq_eq_true (List.all_eq_true.1 hl r hr)
 have hlen':=Nat.eq_of_beq_eq_true hlen
 rw [Nat.ble_eq] at hbig
 have hpl:=(cA hrows hl').2
 have hfl:=aL hl'
 have h0:0<te.size:=Nat.pos_of_ne_zero (fun e=>by rw [e] at hs0;cases hs0)
 refine D.newArr (cs:=rows.flatten) hk hd hg hp (fun a hs w=>?_) (List.take_of_length_le om_) hfl (Nat.le_refl _) ?_ h
 ·have e1:execOp a.eval o=(do Pure.pure (.value (<- Instr.buildSlice t len (parts.map fun (i,x)=>(i,a.eval x)))):Sem Next):=by unfold execOp;rw [hop]
  rw [e1]
  have e2:(parts.map fun (i,x)=>(i,a.eval x))=(parts.toList.map fun (i,x)=>(i,a.eval x)).toArray:=by apply Array.ext';simp
  rw [e2]
  simp only [Sem.run_bind,dU cx.hT ht hte he (fun x v hx=>hs x v hx) hrows hl' hlen' hbig w,Result.andThen_ok,Sem.run_pure]
 ·rw [hpl,hlen']
  have:len<=len*te.size:=Nat.le_mul_of_pos_right _ h0
  simp only [maxLen];omega

def zrow (z:List Value):Nat->List Value
 | 0=>[]
 | m+1=>z++zrow z m
theorem cE (z:List Value):∀ m,(zrow z m).length=m*z.length
 | 0=>by simp [zrow]
 | m+1=>by simp [zrow,cE z m,Nat.add_mul];omega
theorem cY (z:List Value):∀ m,zrow z m=(List.replicate m z).flatten
 | 0=>rfl
 | m+1=>by simp [zrow,cY z m,List.replicate_succ]
theorem zrow_get (z:List Value):∀ (m q:Nat),q<m*z.length->(zrow z m)[q]?=z[q % z.length]?
 | 0,q,h=>by simp at h
 | m+1,q,h=>by
  simp only [zrow]
  by_cases hq:q<z.length
  ·rw [List.getElem?_append_left hq,Nat.mod_eq_of_lt hq]
  ·rw [List.getElem?_append_right om_,zrow_get z m _ (by rw [Nat.add_mul] at h;omega)]
   congr 1
   rw [Nat.mod_eq_sub_mod (by omega:z.length<=q)]

theorem made_eq (z:List Value)(m:Nat):madeCells ⟨z⟩ (m*z.length)=⟨zrow z m⟩:=by
 apply Array.ext'
 apply List.ext_getElem?
 intro q
 simp only [madeCells,Array.toList_map,Array.toList_range,List.getElem?_map,List.size_toArray]
 by_cases hq:q<m*z.length
 ·rw [zrow_get z m q hq,List.getElem?_range hq]
  have hz:0<z.length:=by
   rcases Nat.eq_zero_or_pos z.length with h | h
   ·rw [h] at hq;simp at hq
   ·exact h
  have hlt:q % z.length<z.length:=Nat.mod_lt _ hz
  simp only [Option.map_some]
  rw [List.getElem?_eq_getElem hlt]
  simp [hlt]
 ·rw [List.getElem?_eq_none (by simp;omega),List.getElem?_eq_none (by rw [cE];omega)]
  rfl

theorem D.cP {t e:Nat}{x y:Operand}{kx ky:IntKind}{l c:Nat}{ti te:TI}(hk:Nat.ble k 1=false)(hd:o.dst=some d)(hg:gOn ds fr o.guard=true)(hop:o.op=.makeSlice t x y)
  (ht:cx.T.get t=some ti) (hte:ti.k=.slice e) (he:cx.T.get e=some te) (hx:ev fr [] x=some (.int kx l)) (hy:ev fr [] y=some (.int ky c)) (hlc:l<=c) (hb:te.bytes*c<=281474976710656) (hc:c<=maxLen) (hp:∀ v,aG n ds ((d,[],v)::fr) d=true)
  (h:∀ b,D cx R its ((d,[],.slice (some ⟨b,0,none⟩) l c)::fr) C (.arr (.slice (some ⟨b,0,none⟩) l c) e te.size l (zrow (te.zero.map Zv.val) l)::L)):D cx R ((i,k,o)::its) fr C L:=by
 have hu:cx.P.underlying t=some (.slice e):=by
  obtain ⟨kk,s1,b1,z1,g1⟩:=ti
  simp only at hte
  subst hte
  exact bx cx.hT ht
 obtain ⟨inf,hi,hsize,hby,hz,hzc⟩:=(cq cx.hT he).info
 have hzl:(te.zero.map Zv.val).length=te.size:=by
  have:=(cq cx.hT he).zsize
  rw [hzc] at this;simpa using this
 have hsplit:∀ m q,zrow (te.zero.map Zv.val) (m+q)=zrow (te.zero.map Zv.val) m++zrow (te.zero.map Zv.val) q:=by
  intro m q
  induction m with
  | zero=>simp [zrow]
  | succ m ih=>rw [show m+1+q=(m+q)+1 by omega];simp [zrow,ih]
 refine D.newArr (cs:=zrow (te.zero.map Zv.val) c) hk hd hg hp (fun a hs w=>?_) ?_ (by rw [cE,hzl]) hlc hc h
 ·have e1:execOp a.eval o=(do Pure.pure (.value (<- Instr.makeSlice t (a.eval x) (a.eval y))):Sem Next):=by unfold execOp;rw [hop]
  rw [e1,hs _ _ hx,hs _ _ hy]
  have hr:=run_make (P:=cx.P) w t e inf te.zv hu hi hz kx ky (l:Int) (c:Int) om_ om_ (by rw [hby,<- Int.natCast_mul];omega) (by simp only [maxLen] at hc;omega)
  simp only [Int.toNat_natCast] at hr
  rw [hsize,<- hzl,hzc,made_eq] at hr
  simp only [Sem.run_bind,hr,Result.andThen_ok,Sem.run_pure]
 ·obtain ⟨q,rfl⟩:∃ q,c=l+q:=⟨c-l,by omega⟩
  rw [hsplit]
  exact List.take_left' (by rw [cE,hzl])

/-! ### Arrays behind pointers -/
theorem run_indexA {P:Program}{t e len size:Nat}(hu:P.underlying t=some (.array len e)){ki:IntKind}{m:Int}(h0:0<=m)(h1:m<len)(a:Addr){w:World}(hsz:(sizeOf e).run P w=.ok size w) :
  (Instr.indexAt t (.pointer (some a)) (.int ki m)).run P w=.ok (.pointer (some (a.add (m.toNat*size)))) w:=by
 simp [Instr.indexAt,asIntOf,run_underlying hu,Instr.sureAddr,hsz,h0,h1]

theorem D.ar (off:Nat){t e len b off0:Nat}{x y:Operand}{ki:IntKind}{m:Int}{ti te:TI}(hk:Nat.ble k 1=true)(hd:o.dst=some d)(hop:o.op=.indexAddr t x y)
  (hg:gOf ds fr o.guard=some g) (hx:ev fr g x=some (.pointer (some ⟨b,off0,none⟩))) (hy:ev fr g y=some (.int ki m)) (ht:cx.T.get t=some ti) (hte:ti.k=.arr len e) (he:cx.T.get e=some te)
  (h0:GT ds fr g->0<=m/\m<len/\off=off0+m.toNat*te.size) (hp:aG n ds ((d,g,.pointer (some ⟨b,off,none⟩))::fr) d=true) (hwf:wfG ds fr g=true)
  (h:D cx R its ((d,g,.pointer (some ⟨b,off,none⟩))::fr) C L):D cx R ((i,k,o)::its) fr C L:=by
 have hu:cx.P.underlying t=some (.array len e):=by
  obtain ⟨kk,s1,b1,z1,g1⟩:=ti
  simp only at hte
  subst hte
  exact und_arr cx.hT ht
 refine D.run _ hk hd hg (fun hGT a hs w=>?_) hp hwf h
 obtain ⟨hm0,hml,rfl⟩:=h0 hGT
 have e1:execOp a.eval o=(do Pure.pure (.value (<- Instr.indexAt t (a.eval x) (a.eval y))):Sem Next):=by unfold execOp;rw [hop]
 rw [e1,hs _ _ hx,hs _ _ hy]
 simp only [Sem.run_bind,run_indexA hu hm0 hml _ (cF cx.hT he w),Result.andThen_ok,Sem.run_pure,Addr.add_lit]

theorem D.indexA {t e len:Nat}{x y:Operand}{ki:IntKind}{m:Int}{p:Value}{cs:List Value}{ti te:TI}(hk:Nat.ble k 1=true)(hd:o.dst=some d)(hop:o.op=.indexAddr t x y)
  (hg:gOf ds fr o.guard=some g) (hx:ev fr g x=some p) (hy:ev fr g y=some (.int ki m)) (ht:cx.T.get t=some ti) (hte:ti.k=.arr len e) (he:cx.T.get e=some te)
  (hc:GT ds fr g->PtrTo C p cs) (h0:GT ds fr g->0<=m/\m<len) (hp:∀ v,aG n ds ((d,g,v)::fr) d=true) (hwf:wfG ds fr g=true)
  (h:∀ p',(GT ds fr g->PtrTo C p' ((cs.drop (m.toNat*te.size)).take te.size))->D cx R its ((d,g,p')::fr) C L):D cx R ((i,k,o)::its) fr C L:=by
 have hu:cx.P.underlying t=some (.array len e):=by
  obtain ⟨kk,s1,b1,z1,g1⟩:=ti
  simp only at hte
  subst hte
  exact und_arr cx.hT ht
 by_cases hG:GT ds fr g
 ·obtain ⟨ad,hpe,hpt⟩:=(hc hG).part (m.toNat*te.size) te.size
  refine D.det hk hd hg (hp (.pointer (some (ad.add (m.toNat*te.size))))) hwf (fun _ a hsee κ' hκ w hw=>?_) (h _ (fun _=>hpt))
  have e1:execOp a.eval o=(do Pure.pure (.value (<- Instr.indexAt t (a.eval x) (a.eval y))):Sem Next):=by unfold execOp;rw [hop]
  unfold Oper.quietAt
  rw [e1,hsee _ _ hx,hsee _ _ hy,hpe]
  simp only [Sem.run_bind,run_indexA hu (h0 hG).1 (h0 hG).2 _ (cF cx.hT he w),Result.andThen_ok,Sem.run_pure]
  exact ⟨rfl,rfl⟩
 ·exact D.det hk hd hg (hp undef) hwf (fun hGT=>absurd hGT hG) (h _ (fun hGT=>absurd hGT hG))

/-! ### Bytes to a string -/
theorem foldl_push (s:List UInt8):∀ acc:ByteArray,(s.map fun b=>(b.toNat:Int)).foldl (fun r n=>r.push (UInt8.ofNat n.toNat)) acc=acc++⟨s.toArray⟩:=by
 induction s with
 | nil =>
  intro acc
  apply ByteArray.ext
  simp [ByteArray.data_append]
 | cons b s ih =>
  intro acc
  simp only [List.map_cons,List.foldl_cons]
  rw [ih]
  have e:UInt8.ofNat ((b.toNat:Int)).toNat=b:=by simp
  rw [e]
  apply ByteArray.ext
  simp [ByteArray.data_append,ByteArray.data_push]

theorem D.strOf {src dst e:Nat}{x:Operand}{p:Value}{s:List UInt8}{ts td te:TI}(hs:Sl C 1 p (s.map fun b=>[.int .u8 b.toNat]))(hk:k=2)(hd:o.dst=some d)(hop:o.op=.convert src dst x)(hg:gOn ds fr o.guard=true)(hx:ev fr [] x=some p)
  (hts:cx.T.get src=some ts) (hks:ts.k=.slice e) (htd:cx.T.get dst=some td) (hkd:td.k=.str) (hte:cx.T.get e=some te) (hke:te.k=.int .u8) (hp:∀ v,aG n ds ((d,[],v)::fr) d=true)
  (h:D cx R its ((d,[],.string ⟨s.toArray⟩)::fr) C L):D cx R ((i,k,o)::its) fr C L :=
 D.eg (S:=fun v C' L'=>v=.string ⟨s.toArray⟩/\C'=C/\L'=L) (by subst hk;rfl) hd hg hp (fun a hss w _ hw=>by
  have hus:cx.P.underlying src=some (.slice e):=by
   obtain ⟨kk,s1,b1,z1,g1⟩:=ts
   simp only at hks
   subst hks
   exact bx cx.hT hts
  have hud:cx.P.underlying dst=some .string:=by
   obtain ⟨kk,s1,b1,z1,g1⟩:=td
   simp only at hkd
   subst hkd
   exact und_str cx.hT htd
  have hue:cx.P.underlying e=some (.int .u8):=by
   obtain ⟨kk,s1,b1,z1,g1⟩:=te
   simp only at hke
   subst hke
   exact und_int cx.hT hte
  have hsl:=hs
  obtain ⟨A,c,rfl,hlc,hcm,hrl,hcells⟩:=hsl
  have hex:(execOp a.eval o).run cx.P w=.ok (.value (.string ⟨s.toArray⟩)) w:=by
   have e1:execOp a.eval o=(do Pure.pure (.value (<- convert src dst (a.eval x))):Sem Next):=by unfold execOp;rw [hop]
   rw [e1,hss _ _ hx]
   simp only [Sem.run_bind,run_convert_bytes_string w src dst e _ _ _ hus hue hud]
   cases hse:s with
   | nil =>
    subst hse
    cases A with
    | none=>simp [Conv.bytesToString];rfl
    | some a0 =>
     have hl0:(loadCells a0 0).run cx.P w=.ok (([]:List Int).map (Value.int .u8)).toArray w:=by simp [loadCells,loadCellsFrom]
     have hb:=run_bytesToString (P:=cx.P) w a0 0 c [] hl0
     simp only [List.map_nil,List.length_nil,hb,Result.andThen_ok]
     rfl
   | cons b bs =>
    obtain ⟨hlen,a0,rfl, -,hac⟩:=Sl.flat hs om_ (by rw [hse];simp)
    rw [dW] at hac
    have hl0:(loadCells a0 (s.map fun b=>[Value.int .u8 b.toNat]).length).run cx.P w=.ok ((s.map fun b=>(b.toNat:Int)).map (Value.int .u8)).toArray w:=by
     have:=run_load_cells (P:=cx.P) (w:=w) (a:=a0) (cs:=s.map fun b=>Value.int .u8 b.toNat) (fun j v hj=>(hac j v hj).cell hw.sep)
     simpa [Function.comp_def] using this
    have hb:=run_bytesToString (P:=cx.P) w a0 _ c _ hl0
    rw [<- hse]
    simp only [hb,Result.andThen_ok,foldl_push,Sem.run_pure]
    congr 3
  unfold Oper.wp
  rw [hex]
  exact ⟨_,C,L,rfl,Mem.le.refl _,fun _ _ h=>h,hw,rfl,rfl,rfl⟩)
  (fun v C' L' _ ⟨e1,e2,e3⟩=>by subst e1;subst e2;subst e3;exact h)
end

/-! ### Results that lie in a cell -/
section
variable {F:Fx} {k:List KI} {fr:Fr} {C:Mem} {L:List Ent}
theorem run_cell {w:World}{b t:Nat}{cs:List Value}{tb:TypeId}{fz:Nat × Nat}{ti:TI}{v:Value}(ht:F.cx.T.get t=some ti)(hb:w.heap[b]?=some (.cells ⟨cs⟩ tb fz))(hv:bS ti (cs.take ti.size)=some v):(loadVar t ⟨b,0,none⟩).run F.cx.P w=.ok v w:=by
 refine dA F.cx.hT ht (cs:=cs.take ti.size) (fun j u hj=>?_) hv
 rw [Addr.add_lit,cell_of_row w b (0+j) _ tb fz hb]
 rw [List.getElem?_take] at hj
 split at hj
 ·simpa using hj
 ·cases hj

theorem G.di {r b t:Nat}{cs:List Value}{tb:TypeId}{fz:Nat × Nat}{ti:TI}{v:Value}(hm:Ent.obj b (.cells ⟨cs⟩ tb fz)∈L)(hres:F.fn.results=#[.cell r t])(hr:ev fr [] (.tmp r)=some (.pointer (some ⟨b,0,none⟩)))
  (ht:F.cx.T.get t=some ti) (hv:bS ti (cs.take ti.size)=some v) (h:F.post v C []) (he:F.ends:=by exact ⟨fun _ _ _ h=>h,rfl⟩):G F [] .ret fr C L:=fun _ a w ha hw=>by
 refine he.kq ?_
 have hr':=bl ha (fun p hp=>by cases hp) hr
 simp only [Act.eval] at hr'
 refine bodyPost_ret (v:=v) ?_ (ha.defers.trans he.2) ⟨v,C,[],rfl,St.dropAll hw,h⟩
 have hl:=run_cell (F:=F) ht (hw.sep.e _ hm) hv
 simp only [Array.getD_eq_getD_getElem?] at hr'
 simp [results,hres,hr',asAddr,hl]

theorem G.finC2 {r s b t:Nat}{cs:List Value}{tb:TypeId}{fz:Nat × Nat}{ti:TI}{u v:Value}(hm:Ent.obj b (.cells ⟨cs⟩ tb fz)∈L)(hres:F.fn.results=#[.cell r t,.tmp s])(hr:ev fr [] (.tmp r)=some (.pointer (some ⟨b,0,none⟩)))(hs:ev fr [] (.tmp s)=some u)
  (ht:F.cx.T.get t=some ti) (hv:bS ti (cs.take ti.size)=some v) (h:F.post (.tuple #[v,u]) C []) (he:F.ends:=by exact ⟨fun _ _ _ h=>h,rfl⟩):G F [] .ret fr C L:=fun _ a w ha hw=>by
 refine he.kq ?_
 have hr':=bl ha (fun p hp=>by cases hp) hr
 have hs':=bl ha (fun p hp=>by cases hp) hs
 simp only [Act.eval] at hr' hs'
 refine bodyPost_ret (v:=.tuple #[v,u]) ?_ (ha.defers.trans he.2) ⟨_,C,[],rfl,St.dropAll hw,h⟩
 have hl:=run_cell (F:=F) ht (hw.sep.e _ hm) hv
 simp only [Array.getD_eq_getD_getElem?] at hr' hs'
 simp [results,hres,hr',hs',asAddr,hl]
end
end Go.Jog
namespace Go.Jog
open Go
theorem dQ {β:Type}(f:β->Value):∀ l:List β,(l.map fun x=>[f x]).flatten=l.map f
 | []=>rfl
 | x::l=>by simp [dQ f l]

def strV (s:List UInt8):Value:=.string ⟨s.toArray⟩

end Go.Jog
namespace Go.Jog
open Go

section
variable {α:Type} {enc:α->List Value} {s:Nat}

theorem el (hk:∀ x,(enc x).length=s)(l:List α):(l.map enc).flatten.length=l.length*s:=by
 have:=aL (s:=s) (rows:=l.map enc) (fun r hr=>by obtain ⟨x,_,rfl⟩:=List.mem_map.1 hr;exact hk x)
 simpa using this

theorem bX (hk:∀ x,(enc x).length=s):∀ (l:List α)(i:Nat),(l.map enc).flatten.take (i*s)=((l.take i).map enc).flatten/\(l.map enc).flatten.drop (i*s)=((l.drop i).map enc).flatten
 | [],i=>by simp
 | x::l,0=>by simp
 | x::l,i+1=>by
  obtain ⟨h1,h2⟩:=bX hk l i
  have e:(i+1)*s=s+i*s:=by rw [Nat.add_mul];omega
  have hx:=hk x
  constructor
  ·rw [e,List.map_cons,List.flatten_cons,List.take_append,hx,List.take_of_length_le om_,show s+i*s-s=i*s by omega,h1]
   simp
  ·rw [e,List.map_cons,List.flatten_cons,List.drop_append,hx,List.drop_eq_nil_of_le om_,show s+i*s-s=i*s by omega,h2]
   simp

theorem row_read (hk:∀ x,(enc x).length=s){l:List α}{i:Nat}{x:α}(h:l[i]?=some x):((l.map enc).flatten.drop (i*s)).take s=enc x:=by
 rw [(bX hk l i).2]
 obtain ⟨h1,h2⟩:=List.getElem?_eq_some_iff.1 h
 rw [List.drop_eq_getElem_cons h1,h2,List.map_cons,List.flatten_cons]
 rw [List.take_append,hk,List.take_of_length_le (by rw [hk];omega)]
 simp

theorem d9 (hk:∀ x,(enc x).length=s){l:List α}{i:Nat}(x:α)(h:i<l.length):au (l.map enc).flatten (enc x) (i*s)=((l.set i x).map enc).flatten:=by
 unfold au
 rw [hk,(bX hk l i).1,show i*s+s=(i+1)*s by rw [Nat.add_mul];omega,(bX hk l (i+1)).2]
 rw [List.set_eq_take_append_cons_drop,if_pos h]
 simp

end

section
variable {cx:Cx} {n:Nat} {ds:List (Option Nat)} {R:Rg n ds} {its:List It} {fr:Fr} {C:Mem} {L:List Ent} {i k d:Nat} {o:Oper} {g:GL} {v:Value}

theorem zero_cells (z:List Value)(m:Nat):(Builtin.zeroCells ⟨z⟩ m).toList=zrow z m:=by
 have:=made_eq z m
 unfold madeCells at this
 simp only [Builtin.zeroCells,List.size_toArray] at this ⊢
 rw [this]

theorem D.clear (j:Nat){t e g0 off ln lc size len m cap:Nat}{x:Operand}{A:Option Addr}{xs:List Value}{ti te:TI}(hk:k=3)(hg:gOn ds fr o.guard=true)(hd:o.dst=none)
  (hop:o.op=.call ⟨.builtin .clear,#[x],#[t]⟩) (hx:ev fr [] x=some (.slice A ln lc)) (hm:L[j]?=some (.arr (.slice (some ⟨g0,0,none⟩) m cap) e size len xs))
  (ht:cx.T.get t=some ti) (hte:ti.k=.slice e) (he:cx.T.get e=some te) (hsz:te.size=size) (h1:(te.zero.map Zv.val).all oneB=true) (hA:ln=0∨A=some ⟨g0,off,none⟩) (hfit:off+ln*size<=xs.length)
  (h:D cx R its fr C (.arr (.slice (some ⟨g0,0,none⟩) m cap) e size len (au xs (zrow (te.zero.map Zv.val) ln) off)::L.eraseIdx j)):D cx R ((i,k,o)::its) fr C L:=by
 have hu:cx.P.underlying t=some (.slice e):=by
  obtain ⟨kk,s1,b1,z1,g1⟩:=ti
  simp only at hte
  subst hte
  exact bx cx.hT ht
 have hzl:(te.zero.map Zv.val).length=te.size:=by
  have:=(cq cx.hT he).zsize
  rw [(cq cx.hT he).info.choose_spec.2.2.2.2] at this;simpa using this
 have hzc:te.zv.cells=(te.zero.map Zv.val).toArray:=(cq cx.hT he).info.choose_spec.2.2.2.2
 refine D.eff0 (S:=fun C' L'=>C'=C/\L'=.arr (.slice (some ⟨g0,0,none⟩) m cap) e size len (au xs (zrow (te.zero.map Zv.val) ln) off)::L.eraseIdx j) (by subst hk;rfl) hg (fun a hs w _ hw=>?_) (fun C' L' _ ⟨e1,e2⟩=>by subst e1;subst e2;exact h)
 have hw':=St.perm hw (aN hm)
 have hown:w.ownsRow 0 e size (.slice (some ⟨g0,0,none⟩) m cap) len xs:=hw'.sep.e _ (List.mem_cons_self ..)
 have e1:execOp a.eval o=(do let dd <- resolve a.eval ⟨.builtin .clear,#[x],#[t]⟩ o.type;invoke dd.target dd.args:Sem Next):=by unfold execOp;rw [hop]
 by_cases hl0:ln=0
 ·subst hl0
  have hex:(execOp a.eval o).run cx.P w=.ok (.value (.tuple #[])) w:=by
   rw [e1]
   have hc:(Builtin.clear_ #[t] o.type #[.slice A 0 lc]).run cx.P w=.ok (.tuple #[]) w:=by
    cases A <;> simp [Builtin.clear_,run_underlying hu]
   simp only [resolve,invoke,builtin,Sem.run_bind,Sem.run_pure,Result.andThen_ok,List.map_toArray,List.map_cons,List.map_nil,hs _ _ hx,hc]
  have e3:au xs (zrow (te.zero.map Zv.val) 0) off=xs:=by simp [au,zrow]
  unfold Oper.wp
  rw [hex,e3]
  exact ⟨C,.arr (.slice (some ⟨g0,0,none⟩) m cap) e size len xs::L.eraseIdx j,by rw [hd];rfl,Mem.le.refl _,fun h2=>by omega,hw',rfl,rfl⟩
 ·obtain rfl:=hA.resolve_left hl0
  obtain ⟨rfl,hlc,hcm,cur,hb,hcs,htake⟩:=cM hown
  obtain ⟨cur⟩:=cur
  simp only [List.size_toArray] at hcs
  simp only at htake
  have hxl:xs.length=m*size:=hown.1
  have hcl:m*size<=cur.length:=by rw [hcs];exact Nat.mul_le_mul_right _ hlc
  have hzr:(zrow (te.zero.map Zv.val) ln).length=ln*size:=by rw [cE,hzl,hsz]
  have h1':∀ u∈zrow (te.zero.map Zv.val) ln,u.oneCell'=true:=fun u hu=>by
   rw [cY] at hu
   obtain ⟨r,hr,hur⟩:=List.mem_flatten.1 hu
   rw [List.eq_of_mem_replicate hr] at hur
   exact oneB_spec (List.all_eq_true.1 h1 u hur)
  have hst:=run_storeCells_at cx.P g0 off e (zrow (te.zero.map Zv.val) ln) 0 ⟨cur⟩ w hb (by simp [hzr];omega) h1'
  simp only [Nat.add_zero] at hst
  have hc:(Builtin.clear_ #[t] o.type #[.slice (some ⟨g0,off,none⟩) ln lc]).run cx.P w=.ok (.tuple #[]) (w.setRow g0 (au cur (zrow (te.zero.map Zv.val) ln) off).toArray):=by
   have hz:(Builtin.zeroCells te.zv.cells ln).toList=zrow (te.zero.map Zv.val) ln:=by rw [hzc];exact zero_cells _ _
   cases hln:ln with
   | zero=>exact absurd hln hl0
   | succ q =>
    rw [hln] at hz hst
    simp [Builtin.clear_,run_underlying hu,zero_of cx.hT he w,hz,hst,au]
  have hex:(execOp a.eval o).run cx.P w=.ok (.value (.tuple #[])) (w.setRow g0 (au cur (zrow (te.zero.map Zv.val) ln) off).toArray):=by
   rw [e1]
   simp only [resolve,invoke,builtin,Sem.run_bind,Sem.run_pure,Result.andThen_ok,List.map_toArray,List.map_cons,List.map_nil,hs _ _ hx,hc]
  have hlen:(au cur (zrow (te.zero.map Zv.val) ln) off).length=cur.length:=cC (by rw [hzr];omega)
  have hnew:(w.setRow g0 (au cur (zrow (te.zero.map Zv.val) ln) off).toArray).ownsRow 0 e size (.slice (some ⟨g0,0,none⟩) m cap) m (au xs (zrow (te.zero.map Zv.val) ln) off) :=
   ⟨by rw [cC (by rw [hzr];omega)];exact hxl,.inr ⟨g0,cap,_,rfl,Nat.zero_le _,setRow_heap w g0 _ _ e _ hb,hlc,hcm,by simp [hlen,hcs],by
      rw [<- htake];exact dS cur _ off (m*size) (by rw [hzr];omega) hcl⟩⟩
  unfold Oper.wp
  rw [hex]
  refine ⟨C,.arr (.slice (some ⟨g0,0,none⟩) m cap) e size m (au xs (zrow (te.zero.map Zv.val) ln) off)::L.eraseIdx j,by rw [hd];rfl,Mem.le.refl _,fun h2=>by omega,
   St.turn hw' hnew ⟨rfl,rfl,rfl,by simp,fun k _ hk=>setRow_other w g0 k _ (fun e=>hk (by simp [Value.ownBlock,e]))⟩ (Nat.le_refl _) (.inl rfl),rfl,rfl⟩
end

/- An element's address in a slice that begins at a known place. -/
section
variable {cx:Cx} {n:Nat} {ds:List (Option Nat)} {R:Rg n ds} {its:List It} {fr:Fr} {C:Mem} {L:List Ent} {i k d:Nat} {o:Oper} {g:GL} {v:Value}
end

/- A whole array, or a part of it, as a slice. -/
section
variable {cx:Cx} {n:Nat} {ds:List (Option Nat)} {R:Rg n ds} {its:List It} {fr:Fr} {C:Mem} {L:List Ent} {i k d:Nat} {o:Oper} {g:GL} {v:Value}
theorem D.sliceA (l h m:Nat){t e len size:Nat}{a:Addr}{x:Operand}{lo hi mx:Option Operand}{lv hv mv:Option Value}{ti te:TI}(hk:Nat.ble k 1=true)(hd:o.dst=some d)(hop:o.op=.slice t x lo hi mx)
  (hg:gOf ds fr o.guard=some g) (hx:ev fr g x=some (.pointer (some a))) (hlo:optO (ev fr g) lo=some lv) (hhi:optO (ev fr g) hi=some hv) (hmx:optO (ev fr g) mx=some mv)
  (ht:cx.T.get t=some ti) (hte:ti.k=.arr len e) (he:cx.T.get e=some te) (hsz:te.size=size) (hq:GT ds fr g->SlB len len lv hv mv l h m)
  (hp:aG n ds ((d,g,.slice (some (if m=l then a else a.add (l*size))) (h-l) (m-l))::fr) d=true) (hwf:wfG ds fr g=true)
  (hh:D cx R its ((d,g,.slice (some (if m=l then a else a.add (l*size))) (h-l) (m-l))::fr) C L):D cx R ((i,k,o)::its) fr C L:=by
 have hu:cx.P.underlying t=some (.array len e):=by
  obtain ⟨kk,s1,b1,z1,g1⟩:=ti
  simp only at hte
  subst hte
  exact und_arr cx.hT ht
 refine D.run _ hk hd hg (fun hG a hs w=>?_) hp hwf hh
 have e1:execOp a.eval o=(do Pure.pure (.value (<- Instr.sliceAt t (a.eval x) (lo.map a.eval) (hi.map a.eval) (mx.map a.eval))):Sem Next):=by unfold execOp;rw [hop]
 rw [e1,hs _ _ hx,cZ (fun x v hx=>hs x v hx) hlo,cZ (fun x v hx=>hs x v hx) hhi,cZ (fun x v hx=>hs x v hx) hmx]
 have h2:=cF cx.hT he w
 rw [hsz] at h2
 simp [Instr.sliceAt,Instr.sureAddr,run_underlying hu,dz (hq hG),h2]
end

section
variable {α:Type}
end

section
variable {cx:Cx} {n:Nat} {ds:List (Option Nat)} {R:Rg n ds} {its:List It} {fr:Fr} {C:Mem} {L:List Ent} {i k d:Nat} {o:Oper} {g:GL} {v:Value}
theorem D.aQ {t e len:Nat}{parts:Array (Nat × Operand)}{ti te:TI}(rows:List (List Value))(hk:Nat.ble k 1=false)(hd:o.dst=some d)(hg:gOn ds fr o.guard=true)(hop:o.op=.buildSlice t len parts)
  (ht:cx.T.get t=some ti) (hte:ti.k=.slice e) (he:cx.T.get e=some te) (hrows:rowsO (ev fr []) parts.toList 0=some rows) (hl:(rows.all fun r=>Nat.beq r.length te.size)=true) (hlen:Nat.beq parts.toList.length len=true)
  (hbig:Nat.ble (len*te.size) 16777216=true) (hs0:Nat.beq te.size 0=false) (hp:∀ v,aG n ds ((d,[],v)::fr) d=true)
  (h:∀ b C',C.le C'->Sl C' te.size (.slice (some ⟨b,0,none⟩) rows.length rows.length) rows->D cx R its ((d,[],.slice (some ⟨b,0,none⟩) rows.length rows.length)::fr) C' L):D cx R ((i,k,o)::its) fr C L:=by
 have hl':∀ r∈rows,r.length=te.size:=fun r hr=>Nat.eq_of_beq_eq_true (List.all_eq_true.1 hl r hr)
 have hlen':=Nat.eq_of_beq_eq_true hlen
 rw [Nat.ble_eq] at hbig
 have hpl:=(cA hrows hl').2
 refine D.newConst (f:=fun b=>.slice (some ⟨b,0,none⟩) rows.length rows.length) (ob:=.cells ⟨rows.flatten⟩ e) hk hd hg hp (fun a hs w=>?_) (fun b C' hle hb=>?_)
 ·have e1:execOp a.eval o=(do Pure.pure (.value (<- Instr.buildSlice t len (parts.map fun (i,x)=>(i,a.eval x)))):Sem Next):=by unfold execOp;rw [hop]
  rw [e1]
  have e2:(parts.map fun (i,x)=>(i,a.eval x))=(parts.toList.map fun (i,x)=>(i,a.eval x)).toArray:=by apply Array.ext';simp
  rw [e2]
  simp only [Sem.run_bind,dU cx.hT ht hte he (fun x v hx=>hs x v hx) hrows hl' hlen' hbig w,Result.andThen_ok,Sem.run_pure]
 ·refine h b C' hle (Sl.ofBlock hb hl' (fun j v hj=>by simpa using hj) (Nat.le_refl _) ?_)
  rw [hpl,hlen']
  have h0:0<te.size:=Nat.pos_of_ne_zero (fun e=>by rw [e] at hs0;cases hs0)
  have:len<=len*te.size:=Nat.le_mul_of_pos_right _ h0
  simp only [maxLen];omega
theorem D.eL {src dst:Nat}{x:Operand}{ki kj:IntKind}{p c:Int}{ts td:TI}(hk:Nat.ble k 1=true)(hd:o.dst=some d)(hop:o.op=.convert src dst x)(hg:gOf ds fr o.guard=some g)(hx:ev fr g x=some (.int ki p))
  (hts:cx.T.get src=some ts) (htd:cx.T.get dst=some td) (hkd:td.k=.int kj) (hc:kj.wrap p=c) (hp:aG n ds ((d,g,.int kj c)::fr) d=true) (hwf:wfG ds fr g=true)
  (h:D cx R its ((d,g,.int kj c)::fr) C L):D cx R ((i,k,o)::its) fr C L :=
 D.run _ hk hd hg (fun _ a hs w=>by
  have e1:execOp a.eval o=(do Pure.pure (.value (<- convert src dst (a.eval x))):Sem Next):=by unfold execOp;rw [hop]
  rw [e1,hs _ _ hx]
  obtain ⟨du,h1,h2⟩:=(cq cx.hT hts).und
  obtain ⟨kk,s1,b1,z1,g1⟩:=td
  simp only at hkd
  subst hkd
  subst hc
  simp [convert,run_underlying h1,run_underlying (und_int cx.hT htd),Conv.intToInt]) hp hwf h
end

theorem Sl.cap {C:Mem}{k:Nat}{A:Option Addr}{m c:Nat}{xs:List (List Value)}(h:Sl C k (.slice A m c) xs):m=xs.length/\m<=c/\c<=maxLen:=by
 obtain ⟨_,_,hv,h1,h2,_⟩:=h
 simp only [Value.slice.injEq] at hv
 obtain ⟨_,rfl,rfl⟩:=hv
 exact ⟨rfl,h1,h2⟩

theorem G.aY {F:Fx}{k:List KI}{fr:Fr}{C:Mem}{L L':List Ent}{e:Exit}(hL:L=L')(h:G F k e fr C L'):G F k e fr C L:=hL ▸ h

/-! ### Equal neighbours -/
section
variable {α:Type} [DecidableEq α]
end
end Go.Jog
namespace Go.Jog
open Go Go.RowKit Go.WideShapes Go.ChangeShapes Go.Deep

def memOf (W:World):Mem:=fun k=>W.heap[k]?
theorem sep_memOf (W:World):Sep (memOf W) [] W:=⟨fun _ _ h=>h,fun x hx=>(by cases hx),List.Pairwise.nil,fun k ⟨x,hx,_⟩=>(by cases hx)⟩
theorem ccell_of {W:World}{a:Addr}{v:Value}(h:W.cell? a=some v):CCell (memOf W) a v:=by
 unfold World.cell? at h
 split at h
 ·rename_i c t fz hb
  split at h
  ·cases h
  ·rename_i hs
   exact ⟨by simpa using hs,c,t,fz,hb,h⟩
 ·cases h

theorem gives_below {P:Program}{f:FuncId}{args:List Value}{W:World}{v:Value}(h:Gives P f args (memOf W) v):Calls P f args.toArray W fun e W'=>e=.returned v/\RowKit.Below W.heap.size W W' :=
 (h.2 W (sep_memOf W)).mono fun e W' ⟨u,C',L',he,hst,hu,hl⟩=>⟨by rw [he,hu],hst.ev.below (fun k ⟨x,hx,_⟩=>by cases hx)⟩

theorem list_of {α:Type}{p:Nat->α->Prop}:∀ {n:Nat},(∀ i,i<n->∃ x,p i x)->∃ l:List α,l.length=n/\∀ i x,l[i]?=some x->p i x
 | 0,_=>⟨[],rfl,fun i x h=>by simp at h⟩
 | n+1,h=>by
  obtain ⟨l,h1,h2⟩:=list_of (n:=n) (fun i hi=>h i om_)
  obtain ⟨x,hx⟩:=h n om_
  refine ⟨l++[x],by simp [h1],fun i y hy=>?_⟩
  by_cases hi:i<n
  ·rw [List.getElem?_append_left om_] at hy
   exact h2 i y hy
  ·rw [List.getElem?_append_right om_] at hy
   have:i-l.length=0:=by
    rcases Nat.eq_zero_or_pos (i-l.length) with h0 | h0
    ·exact h0
    ·rw [List.getElem?_eq_none (by simp;omega)] at hy;cases hy
   rw [this] at hy
   simp only [List.getElem?_cons_zero,Option.some.injEq] at hy
   subst hy
   have hin:i=n:=by omega
   subst hin;exact hx

section
variable {H:Type} {enc:TypeId × Value->H} {P:Program} {W:World} {spare:Nat->Bool} {held:Bool}
theorem sl_of_arg {α:Type}{t e:TypeId}{k:Nat}{fuel:Nat}{v:Value}{x:DataW H × List MemPlace}(en:α->List Value)(ht:P.underlying t=some (.slice e))(hc:P.cellsOf e=k)(hk0:k≠0)
  (hel:∀ (n:Nat)(cs:List Value)(y:DataW H × List MemPlace),cs.length=k->DataW.trod enc P W 0 spare held n e cs=some y->∃ z:α,cs=en z)
  (h:DataW.trod enc P W 0 spare held fuel t [v]=some x):∃ l:List α,Sl (memOf W) k v (l.map en):=by
 rcases open_slice ht h with ⟨h1,_⟩ | ⟨a,len,cap,m,n,D,Pl,hcs,_,hl,hm,hmm,_,hx⟩
 ·simp only [List.cons.injEq,and_true] at h1
  subst h1
  exact ⟨[],Sl.nil _ _⟩
 ·simp only [List.cons.injEq,and_true] at hcs
  subst hcs
  have hlm:len<=m:=by rw [hmm];split <;> omega
  rw [hc] at hx
  obtain ⟨l,hlen,hl2⟩:=list_of (α:=α) (n:=len) (p:=fun i z=>W.cells? 0 (a.add (i*k)) k=some (en z)) (fun i hi=>by
   obtain ⟨cs',h1,h2⟩:=hx i om_
   obtain ⟨_,h3,_⟩:=World.cells?_some h1
   obtain ⟨z,rfl⟩:=hel n cs' _ h3 h2
   exact ⟨z,h1⟩)
  refine ⟨l,some a,cap,by simp [hlen],by simp [hlen];exact hl,hm,fun r hr=>?_,fun i r hi=>?_⟩
  ·obtain ⟨z,hz,rfl⟩:=List.mem_map.1 hr
   obtain ⟨i,hi⟩:=List.getElem?_of_mem hz
   exact (World.cells?_some (hl2 i z hi)).2.1
  ·rw [List.getElem?_map] at hi
   cases hz:l[i]? with
   | none=>rw [hz] at hi;cases hi
   | some z =>
    rw [hz] at hi
    simp only [Option.map_some,Option.some.injEq] at hi
    subst hi
    obtain ⟨_,h4,h5⟩:=World.cells?_some (hl2 i z hz)
    have key:∀ j u,(en z)[j]?=some u->W.cell? ((a.add (i*k)).add j)=some u:=fun j u hj=>by
     have hjk:j<k:=by rw [<- h4];exact (List.getElem?_eq_some_iff.1 hj).1
     rw [h5 j hjk];exact hj
    have hs:a.spot=none:=by
     have h0:0<l.length:=by have:=(List.getElem?_eq_some_iff.1 hz).1;omega
     obtain ⟨z0,hz0⟩:∃ z0,l[0]?=some z0:=⟨l[0],List.getElem?_eq_getElem h0⟩
     obtain ⟨_,h6,h7⟩:=World.cells?_some (hl2 0 z0 hz0)
     have h8:=h7 0 om_
     rw [List.getElem?_eq_getElem om_] at h8
     have h9:=(ccell_of h8).1
     simpa [Addr.add] using h9
    exact ⟨a,rfl,hs,fun j u hj=>by
     have:=ccell_of (key j u hj)
     rwa [add_add a _ _ hs] at this⟩

theorem post_of_below {f:Func}{s:ChangeSpec}{apart fresh handsOn again:Bool}{W W':World}{args:Array Value}{v:Value}{ds gs:List (DataW H)}{before pa pv:List MemPlace}
  (hW:DataW.Whole enc P f.params.toList s.vars apart W args.toList ds gs before)
  (hres:∀ (b:Nat)(sp:Nat->Bool)(hd:Bool),DataW.TrodAll enc P W' b sp hd f.resultTypes.toList (v.resultList f.resultTypes.size) (s.fn H (ds++gs)).results [])
  (hargs:∀ sp:Nat->Bool,(∀ p∈before,sp p.block=true)->DataW.TrodAll enc P W' 0 sp true f.params.toList args.toList (s.fn H (ds++gs)).args pa)
  (hvars:∀ sp:Nat->Bool,(∀ p∈before,sp p.block=true)->DataW.TrodVars enc P W' sp s.vars (s.fn H (ds++gs)).vars pv)
  (hps:before=pa++pv) (hb:RowKit.Below W.heap.size W W')
  (hok:∀ (j:Nat)(t:TypeId)(r:Value),f.resultTypes[j]?=some t->(v.resultList f.resultTypes.size)[j]?=some r->Value.okWide P W' .any 0 t r) :
  s.post enc P f apart fresh handsOn again W args v W':=by
 have hlt:∀ p∈before,p.block<W.heap.size:=fun p hp=>hW.lt p hp
 have hold:∀ p∈before,(fun b=>decide (b<W.heap.size)) p.block=true:=fun p hp=>by simpa using hlt p hp
 refine ⟨ds,gs,before,[],pa,pv,hW,hres _ _ _,hargs _ hold,hvars _ hold,World.keptBut_mono (fun p hp=>⟨hp, ?_⟩) (hb.frame (·∈before)),fun _=>?_⟩
 ·rw [hps,List.mem_append] at hp
  exact Or.inr hp
 ·obtain ⟨_,_,_,_,_,hz,hn⟩:=hW
  refine ⟨hok,_,_,([]++pa)++pv,⟨[]++pa,pv,trodAll_append (hargs _ (fun _ _=>rfl)) (hres _ _ _),hvars _ (fun _ _=>rfl),rfl, ?_, ?_⟩, ?_⟩
  ·intro b off hp
   have hin:MemPlace.cell b off∈before:=by rw [hps];simpa using hp
   rw [hb.frozen (hlt _ hin)]
   exact hz b off hin
  ·intro ha
   have:=hn ha
   rw [hps] at this
   simpa using this
  ·intro p hp _
   rw [hps]
   simpa using hp
end
end Go.Jog
namespace Go.Jog
section
variable {α:Type}
end
end Go.Jog
namespace Go.Jog
open Go
def flatArr (P:Program)(t:Nat):Bool:=match P.underlying t with
 | some (.array _ e)=>(match P.underlying e with | some d=>plainD d | none=>false) && Nat.beq (P.cellsOf e) 1 && !(P.eqGuardType P.depth t) && (P.info? e).isSome
 | _=>false
def fitE (P:Program)(t:Nat)(xs:List Value):Bool:=match P.underlying t with
 | some (.array m e)=>Nat.beq xs.length m && xs.all (fun x=>fitOne (P.underlying e) x)
 | _=>false

theorem run_eqItems_flat {P:Program}{e:TypeId}{d:TypeDesc}(m:Nat)(w:World)(he:P.underlying e=some d)(hd:plainD d=true):∀ {xs ys X Y:List Value}{i:Nat}{b:Bool},xs.all (fun x=>fitOne (P.underlying e) x)=true->eqRow xs ys=some b->X.drop i=xs->Y.drop i=ys ->
  (Op.eqItems (m+1) e 1 ⟨X⟩ ⟨Y⟩ (List.range' i xs.length)).run P w=.ok b w
 | [],ys,X,Y,i,b,_,hb,_,_=>by
  cases ys with
  | nil=>simp [eqRow] at hb;subst hb;simp [Op.eqItems]
  | cons=>simp [eqRow] at hb
 | x::xs,ys,X,Y,i,b,hf,hb,hX,hY=>by
  cases ys with
  | nil=>simp [eqRow] at hb
  | cons y ys =>
   simp only [List.all_cons,Bool.and_eq_true] at hf
   simp only [eqRow] at hb
   split at hb
   ·rename_i p q hp hq
    cases hb
    have hx:X[i]?=some x:=by
     have:=congrArg (·[0]?) hX
     simpa using this
    have hy:Y[i]?=some y:=by
     have:=congrArg (·[0]?) hY
     simpa using this
    have hX':X.drop (i+1)=xs:=by
     have:=congrArg (List.drop 1) hX
     simpa using this
    have hY':Y.drop (i+1)=ys:=by
     have:=congrArg (List.drop 1) hY
     simpa using this
    have hr:=run_scal hp m w hf.1
    have ih:=run_eqItems_flat m w he hd hf.2 hq hX' hY'
    simp only [List.length_cons,List.range'_succ,Op.eqItems,Nat.mul_one,Sem.run_bind,run_part1 he hd hx w,run_part1 he hd hy w,hr,Result.andThen_ok]
    cases p
    ·simp
    ·simpa using ih
   ·cases hb

theorem run_eq_arr {P:Program}{t:Nat}(ht:flatArr P t=true){xs ys:List Value}(hf:fitE P t xs=true){b:Bool}(hb:eqRow xs ys=some b)(w:World):(Op.equalIn 10000 t (.agg ⟨xs⟩) (.agg ⟨ys⟩)).run P w=.ok b w:=by
 unfold flatArr at ht
 unfold fitE at hf
 cases hu:P.underlying t with
 | none=>rw [hu] at ht;cases ht
 | some D =>
  rw [hu] at ht hf
  cases D <;> try (cases ht)
  rename_i n e
  simp only [Bool.and_eq_true] at ht hf
  obtain ⟨⟨⟨h1,h2⟩,h3⟩,h4⟩:=ht
  have h2':=Nat.eq_of_beq_eq_true h2
  have hn:=Nat.eq_of_beq_eq_true hf.1
  cases hi:P.info? e with
  | none=>rw [hi] at h4;cases h4
  | some inf =>
   cases he:P.underlying e with
   | none=>rw [he] at h1;cases h1
   | some d =>
    rw [he] at h1
    rw [run_equalIn_array w 9999 ⟨xs⟩ ⟨ys⟩ hu hi,h2',<- hn,List.range_eq_range']
    exact run_eqItems_flat 9998 w he h1 hf.2 hb rfl rfl

section
variable {cx:Cx} {n:Nat} {ds:List (Option Nat)} {R:Rg n ds} {its:List It} {fr:Fr} {C:Mem} {L:List Ent} {i k d:Nat} {o:Oper} {g:GL} {v:Value}
end
end Go.Jog
namespace Go.Jog
open Go

inductive OT where
 | fin (π:List Nat)
 | cut (π:List Nat) (t:OT)
 | alt (i:Nat) (t:OT) (r:OT)
 | stop

section
variable {P:Program} {ops:Array Oper} {ι:Type} {cls:ι->World->Prop} {le:ι->ι->Prop} {md:Region.Mode}

def DT (P:Program)(ops:Array Oper)(cls:ι->World->Prop)(le:ι->ι->Prop)(kd:Nat->Nat)(Post:Act->ι->Prop):OT->Act->ι->Prop
 | .fin π=>DU P ops cls le kd Post π
 | .cut π t=>DU P ops cls le kd (DT P ops cls le kd Post t) π
 | .alt i t r=>fun a κ=>dT P ops cls le (kd i) i (DT P ops cls le kd Post t) a κ/\DT P ops cls le kd Post r a κ
 | .stop=>fun _ _=>True

def headsT:OT->List Nat
 | .alt i _ r=>i::headsT r
 | _=>[]

def nodeT:OT->Bool
 | .fin _ | .cut _ _=>true
 | _=>false

def eB:List Nat->Array Bool->Array Bool
 | [],listed=>listed
 | i::π,listed=>eB π (listed.setIfInBounds i true)

def simP (md:Region.Mode)(ops:Array Oper)(kd:Nat->Nat):List Nat->Array Bool->Bool
 | [],_=>true
 | i::π,listed=>(bif Nat.ble (kd i) 1 then (Region.ready md ops listed).contains i && freeT md ops kd listed i else (Region.ready md ops listed == [i])) && simP md ops kd π (listed.setIfInBounds i true)

def simT (md:Region.Mode)(ops:Array Oper)(kd:Nat->Nat):OT->Nat->Array Bool->Bool
 | .fin π,f,listed=>Nat.beq π.length f && (simP md ops kd π listed && (Region.ready md ops (eB π listed)).isEmpty)
 | .cut π t,f,listed=>Nat.blt π.length f && (simP md ops kd π listed && ((Region.ready md ops (eB π listed)).all (fun i=>(headsT t).contains i) && (!(Region.ready md ops (eB π listed)).isEmpty && simT md ops kd t (f-π.length) (eB π listed))))
 | .alt i t r,f,listed=>(Nat.blt 0 f && (nodeT t && simT md ops kd t (f-1) (listed.setIfInBounds i true))) && simT md ops kd r f listed
 | .stop,_,_=>true

theorem dj (htrans:∀ a b c,le a b->le b c->le a c){kd:Nat->Nat}{Post K:Act->ι->Prop}(hsel:Region.noSelect ops=true){f:Nat} :
  ∀ (π:List Nat)(listed:Array Bool)(a:Act)(κ:ι),Closed md ops listed->simP md ops kd π listed=true->(∀ a κ,Closed md ops (eB π listed)->K a κ->wpAnyU P md ops cls le kd Post f (eB π listed) a κ) ->
   DU P ops cls le kd K π a κ->wpAnyU P md ops cls le kd Post (π.length+f) listed a κ
 | [],listed,a,κ,hcl,_,hK,h=>by
  rw [List.length_nil,Nat.zero_add]
  exact hK a κ hcl h
 | i::π,listed,a,κ,hcl,hB,hK,h=>by
  simp only [simP,Bool.and_eq_true] at hB
  obtain ⟨hB1,hB2⟩:=hB
  rw [List.length_cons,Nat.add_right_comm]
  by_cases hk:kd i<=1
  ·have hb:Nat.ble (kd i) 1=true:=by rw [Nat.ble_eq];exact hk
   rw [hb] at hB1
   simp only [cond_true,Bool.and_eq_true,List.contains_iff_mem] at hB1
   obtain ⟨hr,hf⟩:=hB1
   simp only [DU] at h
   unfold dT at h
   cases ho:ops[i]? with
   | none=>simp only [ho] at h
   | some o =>
    simp only [ho,hk,if_true] at h
    obtain ⟨v,hy,hK'⟩:=h
    refine wpAnyU_first (F:=ops.size) htrans ho hk (fun j o cs b=>Region.noSelect_spec hsel j o cs b) (π.length+f) listed a κ hcl (fun j oj hj hne hun=>?_) hr hy
     (dj htrans hsel π _ _ κ (hcl.set hr) hB2 hK hK')
    simp only [freeT,ho,List.all_eq_true,List.mem_range] at hf
    have:=hf j (Array.getElem?_eq_some_iff.1 hj).1
    simp only [hj,Bool.or_eq_true,beq_iff_eq,hne,false_or,hun,Bool.false_eq_true,Bool.and_eq_true,Nat.ble_eq] at this
    rcases this with h1 | h1
    ·exact .inr h1
    ·exact .inl h1
  ·have hb:Nat.ble (kd i) 1=false:=by
    cases hx:Nat.ble (kd i) 1 with
    | false=>rfl
    | true=>exact absurd (by rw [Nat.ble_eq] at hx;exact hx) hk
   rw [hb] at hB1
   simp only [cond_false,beq_iff_eq] at hB1
   have hmem:i∈Region.ready md ops listed:=by rw [hB1];simp
   refine ⟨fun h0=>(by rw [h0] at hB1;cases hB1),fun j hj=>?_⟩
   rw [hB1] at hj
   obtain rfl:j=i:=by simpa using hj
   exact stepU_mono (fun a' κ' h'=>dj htrans hsel π _ a' κ' (hcl.set hmem) hB2 hK h') h

theorem dM (htrans:∀ a b c,le a b->le b c->le a c){kd:Nat->Nat}{Post:Act->ι->Prop}(hsel:Region.noSelect ops=true) :
  ∀ (t:OT)(f:Nat)(listed:Array Bool)(a:Act)(κ:ι),Closed md ops listed->simT md ops kd t f listed=true->DT P ops cls le kd Post t a κ ->
   (match t with
    | .fin _ | .cut _ _=>wpAnyU P md ops cls le kd Post f listed a κ
    | _=>∀ i∈headsT t,i∈Region.ready md ops listed->(∃ f',f=f'+1/\dT P ops cls le (kd i) i (wpAnyU P md ops cls le kd Post f' (listed.setIfInBounds i true)) a κ))
 | .fin π,f,listed,a,κ,hcl,hB,h=>by
  simp only [simT,Bool.and_eq_true,List.isEmpty_iff] at hB
  obtain ⟨hl,hB1,hB2⟩:=hB
  have:=Nat.eq_of_beq_eq_true hl
  have h2:=dj (f:=0) htrans hsel π listed a κ hcl hB1 (fun a κ _ hK=>⟨hB2,hK⟩) h
  rw [Nat.add_zero,this] at h2
  exact h2
 | .cut π t,f,listed,a,κ,hcl,hB,h=>by
  simp only [simT,Bool.and_eq_true,List.all_eq_true] at hB
  obtain ⟨hl,hB1,hB2,hB3,hB4⟩:=hB
  rw [Nat.blt_eq] at hl
  have hne:Region.ready md ops (eB π listed)≠[]:=fun e=>by rw [e] at hB3;cases hB3
  have h2:=dj (f:=f-π.length) htrans hsel π listed a κ hcl hB1 (fun a κ hcl' hK=>by
   have ih:=dM htrans hsel t (f-π.length) (eB π listed) a κ hcl' hB4 hK
   obtain ⟨f',hf'⟩:∃ f',f-π.length=f'+1:=⟨f-π.length-1,by omega⟩
   rw [hf'] at ih ⊢
   refine ⟨fun h0=>absurd h0 hne,fun i hi=>?_⟩
   have hc:=hB2 i hi
   rw [List.contains_iff_mem] at hc
   cases t with
   | fin π'=>simp [headsT] at hc
   | cut π' t'=>simp [headsT] at hc
   | stop=>simp [headsT] at hc
   | alt j t' r' =>
    obtain ⟨f2,hf2,hs⟩:=ih i hc hi
    obtain rfl:f'=f2:=by omega
    exact hs) h
  rw [show π.length+(f-π.length)=f by omega] at h2
  exact h2
 | .alt j t r,f,listed,a,κ,hcl,hB,h=>by
  simp only [simT,Bool.and_eq_true] at hB
  obtain ⟨⟨hf,hnd,hB1⟩,hB2⟩:=hB
  rw [Nat.blt_eq] at hf
  intro i hi hr
  simp only [headsT,List.mem_cons] at hi
  by_cases hij:i=j
  ·subst hij
   refine ⟨f-1,by omega,stepU_mono (fun a' κ' h'=>?_) h.1⟩
   have ih:=dM htrans hsel t (f-1) _ a' κ' (hcl.set hr) hB1 h'
   cases t with
   | fin π'=>exact ih
   | cut π' t'=>exact ih
   | stop=>cases hnd
   | alt j' t' r'=>cases hnd
  ·have h2:=hi.resolve_left hij
   have ih:=dM htrans hsel r f listed a κ hcl hB2 h.2
   cases r with
   | fin π'=>simp [headsT] at h2
   | cut π' t'=>simp [headsT] at h2
   | stop=>simp [headsT] at h2
   | alt j' t' r'=>exact ih i h2 hr
 | .stop,_,_,_,_,_,_,_=>by
  intro i hi
  simp [headsT] at hi

theorem wp_region_simT (W:Cw P)(hnd':W.nd ops)(hrefl:∀ κ,le κ κ)(htrans:∀ a b c,le a b->le b c->le a c){kd:Nat->Nat}{Post:Act->ι->Prop}{id:Nat}{Q:Exit->Act->World->Prop}{a:Act}{w:World}{κ:ι}
  (hm:P.follows .mixedOrders=true) (hw:cls κ { w with drawn:=w.drawn+1 }) (t:OT) (hnd:nodeT t=true)
  (hB:(Region.noSelect ops && simT .any ops kd t ops.size (Array.replicate ops.size false))=true) (h:DT P ops cls le kd Post t a κ)
  (hN:∀ a κ w,Post a κ->cls κ w->Q .normal a w):W.wp (Code.region id ops true) Q a w:=by
 simp only [Bool.and_eq_true] at hB
 obtain ⟨hs,hsim⟩:=hB
 refine W.any hm hnd' ?_
 have h0:Closed .any ops (Array.replicate ops.size false):=fun j oj _ hl=>by
  rcases Nat.lt_or_ge j ops.size with h | h <;> simp [h] at hl
 have:=dM htrans hs t ops.size _ a κ h0 hsim h
 cases t with
 | fin π=>exact wpAny_of_U hrefl hN _ _ _ _ _ hw this
 | cut π t=>exact wpAny_of_U hrefl hN _ _ _ _ _ hw this
 | stop=>cases hnd
 | alt i t r=>cases hnd
end

/-! ### In the logic -/
section
variable {cx:Cx} {n:Nat} {ds:List (Option Nat)} {fr:Fr} {C:Mem} {L:List Ent}
def RgT (P:Program)(R:Rg n ds)(t:OT):Rg n ds:=⟨R.b,R.ops,R.kd,DT P R.ops R.b.cls kle R.kd R.Post t,R.hy,R.dd⟩

def DN (cx:Cx)(R:Rg n ds)(l:List Oper)(ov:List (Nat × Nat)):OT->Fr->Mem->List Ent->Prop
 | .fin π=>D cx R (cQ l ov π)
 | .cut π t=>D cx (RgT cx.P R t) (cQ l ov π)
 | _=>fun _ _ _=>True
def DA (cx:Cx)(R:Rg n ds)(l:List Oper)(ov:List (Nat × Nat)):OT->Fr->Mem->List Ent->Prop
 | .alt i (.fin π) r=>fun fr C L=>D cx R (cQ l ov (i::π)) fr C L/\DA cx R l ov r fr C L
 | .alt i (.cut π t) r=>fun fr C L=>D cx (RgT cx.P R t) (cQ l ov (i::π)) fr C L/\DA cx R l ov r fr C L
 | .stop=>fun _ _ _=>True
 | _=>fun _ _ _=>False

def idsT (m:Nat):OT->Bool
 | .fin π=>π.all (fun i=>Nat.blt i m)
 | .cut π t=>π.all (fun i=>Nat.blt i m) && idsT m t
 | .alt i t r=>Nat.blt i m && (idsT m t && idsT m r)
 | .stop=>true

theorem hits_mk {R:Rg n ds}{l:List Oper}{ov:List (Nat × Nat)}(hH:∀ i,i<l.length->R.kd i=ovr ov i (eb (opAt l i))/\R.ops[i]?=some (opAt l i)){π:List Nat}(h:π.all (fun i=>Nat.blt i l.length)=true) :
  ∀ x∈cQ l ov π,R.kd x.1=x.2.1/\R.ops[x.1]?=some x.2.2:=fun x hx=>by
 obtain ⟨h1,h2,h3⟩:=mkIts_mem hx
 have hlt:=List.all_eq_true.1 h x.1 h1
 rw [Nat.blt_eq] at hlt
 have:=hH x.1 hlt
 exact ⟨this.1.trans h2.symm,by rw [this.2,h3]⟩

theorem DT_of_DA {R:Rg n ds}{l:List Oper}{ov:List (Nat × Nat)}(hH:∀ i,i<l.length->R.kd i=ovr ov i (eb (opAt l i))/\R.ops[i]?=some (opAt l i))(h0:R.b.C0.le C){a:Act}(ha:FrOk n ds R.dd fr a) :
  ∀ (t:OT),idsT l.length t=true->DA cx R l ov t fr C L->DT cx.P R.ops R.b.cls kle R.kd R.Post t a (C,L)
 | .alt i (.fin π) r,hi,h=>by
  simp only [idsT,Bool.and_eq_true] at hi
  have h1:=h.1 h0 (hits_mk hH (by simp only [List.all_cons,Bool.and_eq_true];exact ⟨hi.1,hi.2.1⟩)) a ha
  rw [da] at h1
  exact ⟨h1,DT_of_DA hH h0 ha r hi.2.2 h.2⟩
 | .alt i (.cut π t) r,hi,h=>by
  simp only [idsT,Bool.and_eq_true] at hi
  have h1:=h.1 h0 (hits_mk (R:=RgT cx.P R t) hH (by simp only [List.all_cons,Bool.and_eq_true];exact ⟨hi.1,hi.2.1.1⟩)) a ha
  rw [da] at h1
  exact ⟨h1,DT_of_DA hH h0 ha r hi.2.2 h.2⟩
 | .stop,_,_=>trivial
 | .fin _,_,h=>h.elim
 | .cut _ _,_,h=>h.elim
 | .alt _ (.alt _ _ _) _,_,h=>h.elim
 | .alt _ .stop _,_,h=>h.elim

theorem D.bJ {R:Rg n ds}{l:List Oper}{ov:List (Nat × Nat)}{t:OT}(hH:∀ i,i<l.length->R.kd i=ovr ov i (eb (opAt l i))/\R.ops[i]?=some (opAt l i))(hi:idsT l.length t=true)(h:DA cx R l ov t fr C L):D cx (RgT cx.P R t) [] fr C L :=
 fun h0 _ _ ha=>DT_of_DA hH h0 ha t hi h
end

section
variable {F:Fx} {k:List KI} {fr:Fr} {C:Mem} {L:List Ent}
theorem G.cX {id:Nat}{l:List Oper}(t:OT)(ov:List (Nat × Nat))(hp:fr.all (fun x=>x.2.1.isEmpty)=true)(hnd:nodeT t=true)
  (hB:((Region.noSelect l.toArray && simT .any l.toArray (fun i=>ovr ov i (eb (opAt l i))) t l.toArray.size (Array.replicate l.toArray.size false)) && idsT l.length t)=true)
  (h:∀ R:Rg F.n (l.map (·.dst)),C.le R.b.C0->(∀ fr C L,fr.all (fun x=>x.2.1.isEmpty)=true->G F (norm 64 k) .normal fr C L->D F.cx R [] fr C L) ->
   (∀ i,i<l.length->R.kd i=ovr ov i (eb (opAt l i))/\R.ops[i]?=some (opAt l i))->DN F.cx R l ov t fr C L) (hnd':F.W.nd l.toArray:=by first | exact trivial | exact rfl) :
  G F (.code (.region id l.toArray true)::k) .normal fr C L:=fun h0 a w ha hw=>by
 simp only [Kq]
 rw [Bool.and_eq_true] at hB
 let kd:=fun i=>ovr ov i (eb (opAt l i))
 let b:Bs:=⟨F.b.w0,C,F.b.L0⟩
 let Post:Act->Mem × List Ent->Prop:=fun a κ=>∀ w,b.cls κ w->Kq F k .normal a w
 let R:Rg F.n (l.map (·.dst)):=⟨b,l.toArray,kd,Post,fun tmps=>yielded_eq l tmps,F.dd⟩
 have un:∀ κ w,b.cls κ w->F.b.cls κ w:=fun κ w hc=>St.unbase h0 hw.cn hc
 have hH:∀ i,i<l.length->R.kd i=ovr ov i (eb (opAt l i))/\R.ops[i]?=some (opAt l i):=fun i hi=>⟨rfl,by
  show (l.toArray)[i]?=_
  rw [List.getElem?_toArray,opAt_spec hi]⟩
 have hD:=h R (Mem.le.refl _) (fun fr C' L hp hG h0' _ a ha w hw=>G.bG 64 hG (h0.trans h0') a w ⟨ha.size,ha.defers,fun s g v hg=>by
  have hm:=List.all_eq_true.1 hp _ (Fr.get_mem hg)
  simp only [List.isEmpty_iff] at hm
  subst hm
  exact ⟨fun _=>(ha.ent s [] v hg).1 (fun p hp=>by cases hp),fun hn=>absurd (fun p hp=>by cases hp) hn⟩⟩ (un _ _ hw)) hH
 have hT:DT F.cx.P l.toArray b.cls kle kd Post t a (C,L):=by
  cases t with
  | fin π =>
   have h1:=hD (Mem.le.refl _) (hits_mk hH hB.2) a (ha.enter _ hp)
   rw [da] at h1
   exact h1
  | cut π t =>
   have hi:=hB.2
   simp only [idsT,Bool.and_eq_true] at hi
   have h1:=hD (Mem.le.refl _) (hits_mk (R:=RgT F.cx.P R t) hH hi.1) a (ha.enter _ hp)
   rw [da] at h1
   exact h1
  | stop=>cases hnd
  | alt i t r=>cases hnd
 exact wp_region_simT F.W hnd' (cls:=b.cls) (le:=kle) kle.refl kle.trans F.cx.mixed (St.rebase (St.drew hw)) t hnd hB.1 hT (fun a κ w hP hw=>hP w hw)

theorem G.share2 {ds:List (Option Nat)}{R:Rg F.n ds}{l:List Oper}{ov:List (Nat × Nat)}{t:OT}{fr0:Fr}{C0:Mem}{L0:List Ent}(_:∀ fr C L,fr.all (fun x=>x.2.1.isEmpty)=true->G F k .normal fr C L->D F.cx R [] fr C L)(fr:Nat->Nat->Fr)(L:Nat->Nat->List Ent)
  (body:(∀ b1 b2,G F k .normal (fr b1 b2) C0 (L b1 b2))->DN F.cx R l ov t fr0 C0 L0) (h:∀ b1 b2,G F k .normal (fr b1 b2) C0 (L b1 b2)):DN F.cx R l ov t fr0 C0 L0:=body h
end
end Go.Jog
namespace Go.Jog
open Go Go.MapKept

section
variable {κ β:Type} [DecidableEq κ]
def mget:List (κ × β)->κ->Option β
 | [],_=>none
 | (k',v)::m,k=>if k'=k then some v else mget m k
def mset:List (κ × β)->κ->β->List (κ × β)
 | [],k,v=>[(k,v)]
 | (k',v')::m,k,v=>if k'=k then (k,v)::m else (k',v')::mset m k v
theorem mget_map {γ:Type}(f:β->γ):∀ (m:List (κ × β))(k:κ),mget (m.map fun p=>(p.1,f p.2)) k=(mget m k).map f
 | [],_=>rfl
 | (k',v)::m,k=>by
  simp only [List.map_cons,mget]
  split
  ·rfl
  ·exact mget_map f m k
def midx:List (κ × β)->κ->Option (Nat × β)
 | [],_=>none
 | (k',v)::m,k=>if k'=k then some (0,v) else (midx m k).map fun p=>(p.1+1,p.2)
theorem midx_mget:∀ (m:List (κ × β))(k:κ),(midx m k).map (·.2)=mget m k
 | [],_=>rfl
 | (k',v)::m,k=>by
  simp only [midx,mget]
  split
  ·rfl
  ·rw [<- midx_mget m k];cases midx m k <;> rfl
end

structure KeyT (d:TypeDesc)(κ:Type)[DecidableEq κ] where
 enc:κ->Value
 isKey:∀ a,IsKey d (enc a)
 same:∀ a b,Instr.sameNow d (enc a) (enc b)=some (decide (a=b))

def aR {κ:Type}(enc:κ->Value):List (κ × Value)->Nat->List MapEntry
 | [],_=>[]
 | (k,v)::m,i=>⟨enc k,v,i⟩::aR enc m (i+1)
def aD {κ:Type}(enc:κ->Value)(m:List (κ × Value)):Obj:=.map ⟨aR enc m 0⟩ m.length

section
variable {d:TypeDesc} {κ:Type} [DecidableEq κ] (K:KeyT d κ)
theorem dq (k:κ):∀ (m:List (κ × Value))(i j:Nat),Instr.findNow d (K.enc k) (aR K.enc m i) j=some ((midx m k).map fun p=>(j+p.1,p.2))
 | [],i,j=>rfl
 | (k',v)::m,i,j=>by
  simp only [aR,Instr.findNow,K.same]
  by_cases h:k=k'
  ·subst h
   simp [midx]
  ·have h':¬ k'=k:=fun e=>h e.symm
   simp only [h,decide_false,dq k m (i+1) (j+1),midx,if_neg h']
   cases midx m k with
   | none=>rfl
   | some p=>simp;omega
theorem mapEs_length {κ:Type}(enc:κ->Value):∀ (m:List (κ × Value))(i:Nat),(aR enc m i).length=m.length
 | [],_=>rfl
 | _::m,i=>by simp [aR,mapEs_length enc m]
theorem mapEs_none {k:κ}{v:Value}:∀ {m:List (κ × Value)}{i:Nat},midx m k=none->aR K.enc m i++[⟨K.enc k,v,i+m.length⟩]=aR K.enc (mset m k v) i/\(mset m k v).length=m.length+1
 | [],i,_=>⟨rfl,rfl⟩
 | (k',v')::m,i,h=>by
  simp only [midx] at h
  split at h
  ·cases h
  ·rename_i hne
   have h':midx m k=none:=by
    cases hx:midx m k with
    | none=>rfl
    | some p=>rw [hx] at h;cases h
   obtain ⟨h1,h2⟩:=mapEs_none (i:=i+1) (v:=v) h'
   simp only [mset,if_neg hne,aR,List.cons_append,List.length_cons,h2]
   refine ⟨?_,trivial⟩
   rw [<- h1]
   congr 3
   congr 1
   omega
theorem mapEs_some {k:κ}{v:Value}:∀ {m:List (κ × Value)}{i q:Nat}{u:Value},midx m k=some (q,u)->(aR K.enc m i).modify q (fun e=>{ e with key:=K.enc k,val:=v })=aR K.enc (mset m k v) i/\(mset m k v).length=m.length/\((aR K.enc m i)[q]?).map (·.key)=some (K.enc k)
 | [],_,_,_,h=>by cases h
 | (k',v')::m,i,q,u,h=>by
  simp only [midx] at h
  split at h
  ·rename_i e
   subst e
   cases h
   simp [aR,mset]
  ·rename_i hne
   cases hx:midx m k with
   | none=>rw [hx] at h;cases h
   | some p =>
    obtain ⟨q',u'⟩:=p
    rw [hx] at h
    cases h
    obtain ⟨h1,h2,h3⟩:=mapEs_some (i:=i+1) (v:=v) hx
    simp only [mset,if_neg hne,aR,List.length_cons,h2,List.modify_succ_cons,h1]
    exact ⟨trivial,trivial,by simpa using h3⟩
end

theorem dN {T:Tab}{P:Program}(hT:tabB P T=true){t k e:Nat}{ti:TI}(h:T.get t=some ti)(hk:ti.k=.map k e):P.underlying t=some (.map k e):=by
 obtain ⟨kk,s,b,z,g⟩:=ti
 simp only at hk
 subst hk
 obtain ⟨d,h1,h2⟩:=kget hT h
 cases d <;> simp [tkB] at h2
 rw [h1,h2.1,h2.2]

section
variable {cx:Cx} {n:Nat} {ds:List (Option Nat)} {R:Rg n ds} {its:List It} {fr:Fr} {C:Mem} {L:List Ent} {i k d:Nat} {o:Oper} {g:GL} {v:Value}
variable {kd:TypeDesc} {κ:Type} [DecidableEq κ] (K:KeyT kd κ)

theorem D.makeMap {t:Nat}(hk:Nat.ble k 1=false)(hd:o.dst=some d)(hg:gOn ds fr o.guard=true)(hop:o.op=.makeMap t none)(hp:∀ v,aG n ds ((d,[],v)::fr) d=true)
  (h:∀ b,D cx R its ((d,[],.map (some b))::fr) C (.obj b (aD K.enc [])::L)):D cx R ((i,k,o)::its) fr C L :=
 D.newObj (f:=fun b=>.map (some b)) (ob:=aD K.enc []) hk hd hg hp (fun a _ w=>by
  have e1:execOp a.eval o=(do Pure.pure (.value (<- Instr.makeMap t none)):Sem Next):=by unfold execOp;rw [hop];rfl
  rw [e1]
  rfl) h

def lookV (z:Value)(ok:Bool):Option Value->Value
 | some u=>bif ok then .tuple #[u,.bool true] else u
 | none=>bif ok then .tuple #[z,.bool false] else z

theorem run_lookup {P:Program}{T:Tab}(hT:tabB P T=true){t kt et:Nat}{ti te:TI}{ok:Bool}(ht:T.get t=some ti)(htk:ti.k=.map kt et)(hkt:P.underlying kt=some kd)(hte:T.get et=some te){w:World}{b:Nat}{m:List (κ × Value)}(hb:w.heap[b]?=some (aD K.enc m))(y:κ) :
  (Instr.lookup t (.map (some b)) (K.enc y) ok).run P w=.ok (lookV te.zv ok (mget m y)) w:=by
 have hu:=dN hT ht htk
 have hf:=dq K y m 0 0
 have h1:(getObj b).run P w=.ok (.map ⟨aR K.enc m 0⟩ m.length) w:=Go.MapKept.run_getObj_map hb
 have h2:=run_findKey (P:=P) (w:=w) hkt hf
 rw [<- midx_mget]
 unfold Instr.lookup
 simp only [Sem.run_bind,run_underlying hu,Result.andThen_ok,h1,Sem.run_pure,run_checkKey hkt (K.isKey y)]
 rw [h2]
 cases midx m y with
 | none=>cases ok <;> simp [lookV,zero_of hT hte w]
 | some p=>cases ok <;> simp [lookV]

theorem D.eW {b t kt et:Nat}{x y:Operand}{ok:Bool}{m:List (κ × Value)}{key:κ}{ti te:TI}(hm:Ent.obj b (aD K.enc m)∈L)(hk:k=1)(hd:o.dst=some d)(hop:o.op=.lookup t x y ok)(hg:gOf ds fr o.guard=some g)(hx:ev fr g x=some (.map (some b)))(hy:ev fr g y=some (K.enc key))
  (ht:cx.T.get t=some ti) (htk:ti.k=.map kt et) (hkt:cx.P.underlying kt=some kd) (hte:cx.T.get et=some te) (hv:lookV te.zv ok (mget m key)=v) (hp:aG n ds ((d,g,v)::fr) d=true) (hwf:wfG ds fr g=true)
  (h:D cx R its ((d,g,v)::fr) C L):D cx R ((i,k,o)::its) fr C L :=
 D.det (by subst hk;rfl) hd hg hp hwf (fun _ a hs κ' hκ w hw=>by
  have hb:w.heap[b]?=some (aD K.enc m):=hw.sep.e _ ((hκ hk).2 _ hm)
  have hex:(execOp a.eval o).run cx.P w=.ok (.value v) w:=by
   have e1:execOp a.eval o=(do Pure.pure (.value (<- Instr.lookup t (a.eval x) (a.eval y) ok)):Sem Next):=by unfold execOp;rw [hop]
   rw [e1,hs _ _ hx,hs _ _ hy,<- hv]
   simp only [Sem.run_bind,run_lookup K cx.hT ht htk hkt hte hb key,Result.andThen_ok,Sem.run_pure]
  unfold Oper.quietAt
  rw [hex]
  exact ⟨rfl,rfl⟩) h

theorem D.mapUpdate {t kt et j b:Nat}{x y z:Operand}{m:List (κ × Value)}{key:κ}{ti:TI}(hk:k=3)(hg:gOn ds fr o.guard=true)(hd:o.dst=none)(hop:o.op=.mapUpdate t x y z)
  (hx:ev fr [] x=some (.map (some b))) (hy:ev fr [] y=some (K.enc key)) (hz:ev fr [] z=some v) (hm:L[j]?=some (.obj b (aD K.enc m)))
  (ht:cx.T.get t=some ti) (htk:ti.k=.map kt et) (hkt:cx.P.underlying kt=some kd)
  (h:D cx R its fr C (.obj b (aD K.enc (mset m key v))::L.eraseIdx j)):D cx R ((i,k,o)::its) fr C L :=
 D.eff0 (S:=fun C' L'=>C'=C/\L'=.obj b (aD K.enc (mset m key v))::L.eraseIdx j) (by subst hk;rfl) hg (fun a hs w _ hw=>by
  have hw':=St.perm hw (aN hm)
  have hb:w.heap[b]?=some (aD K.enc m):=hw'.sep.e _ (List.mem_cons_self ..)
  have hu:=dN cx.hT ht htk
  have hf:=dq K key m 0 0
  have h1:(getObj b).run cx.P w=.ok (.map ⟨aR K.enc m 0⟩ m.length) w:=Go.MapKept.run_getObj_map hb
  have h2:=run_findKey (P:=cx.P) (w:=w) hkt hf
  have hrun:(Instr.mapUpdate t (.map (some b)) (K.enc key) v).run cx.P w=.ok () { w with heap:=w.heap.setIfInBounds b (aD K.enc (mset m key v)) }:=by
   unfold Instr.mapUpdate
   simp only [Sem.run_bind,run_underlying hu,Result.andThen_ok,h1,run_checkKey hkt (K.isKey key)]
   rw [h2]
   cases hi:midx m key with
   | none =>
    obtain ⟨h3,h4⟩:=mapEs_none K (v:=v) (i:=0) hi
    simp only [Option.map_none,Result.andThen_ok]
    rw [Go.MapKept.run_setObj_map (P:=cx.P) _ hb]
    congr 2
    simp only [aD,h4,<- h3,Nat.zero_add]
    congr 2
    apply Array.ext'
    simp
   | some p =>
    obtain ⟨q,u⟩:=p
    obtain ⟨h3,h4,h5⟩:=mapEs_some K (v:=v) (i:=0) hi
    have hq:(((⟨aR K.enc m 0⟩:Array MapEntry)[0+q]?).map (·.key)).getD (K.enc key)=K.enc key:=by
     rw [Nat.zero_add]
     show (((aR K.enc m 0).toArray[q]?).map (·.key)).getD (K.enc key)=K.enc key
     rw [List.getElem?_toArray,h5];rfl
    simp only [Option.map_some,Result.andThen_ok,Sem.run_bind]
    rw [hq,run_keyThatStays (d:=kd) (K.isKey key)]
    simp only [Result.andThen_ok]
    rw [Go.MapKept.run_setObj_map (P:=cx.P) _ hb]
    congr 2
    simp only [aD,h4,<- h3,Nat.zero_add]
    congr 2
    apply Array.ext'
    simp
  have hex:(execOp a.eval o).run cx.P w=.ok .skip { w with heap:=w.heap.setIfInBounds b (aD K.enc (mset m key v)) }:=by
   have e1:execOp a.eval o=(do Instr.mapUpdate t (a.eval x) (a.eval y) (a.eval z);Pure.pure .skip:Sem Next):=by unfold execOp;rw [hop]
   rw [e1,hs _ _ hx,hs _ _ hy,hs _ _ hz]
   simp only [Sem.run_bind,hrun,Result.andThen_ok,Sem.run_pure]
  unfold Oper.wp
  rw [hex]
  have hset:=heap_set (o':=aD K.enc (mset m key v)) hb
  refine ⟨C,.obj b (aD K.enc (mset m key v))::L.eraseIdx j, ?_,Mem.le.refl _,fun h2=>by omega,St.put hw' hset.1 hset.2 (by simp) rfl rfl rfl (Nat.le_refl _),rfl,rfl⟩
  rw [hd];rfl)
  (fun C' L' _ ⟨e1,e2⟩=>by subst e1;subst e2;exact h)
end

theorem str_beq (a b:List UInt8):((⟨a.toArray⟩:ByteArray) == ⟨b.toArray⟩)=decide (a=b):=by
 by_cases h:a=b
 ·subst h
  simp [(bytes_beq _ _).2 rfl]
 ·have:¬ ((⟨a.toArray⟩:ByteArray) == ⟨b.toArray⟩)=true:=fun e=>h (by
   have:=(bytes_beq _ _).1 e
   have h2:=congrArg (fun x:ByteArray=>x.data.toList) this
   simpa using h2)
  simp [h,Bool.eq_false_iff.2 this]
def keyS:KeyT .string (List UInt8) where
 enc s:=.string ⟨s.toArray⟩
 isKey _:=trivial
 same a b:=by simp only [Instr.sameNow,str_beq]
end Go.Jog
namespace Go.Jog
open Go

section
variable {cx:Cx} {n:Nat} {ds:List (Option Nat)} {R:Rg n ds} {its:List It} {fr:Fr} {C:Mem} {L:List Ent} {i k d:Nat} {o:Oper} {g:GL} {v:Value}

end
end Go.Jog
namespace Go.Jog
open Go

def Mem.unset (C:Mem)(b:Nat):Mem:=fun k=>if k=b then none else C k
theorem Mem.unset_le (C:Mem)(b:Nat):(C.unset b).le C:=fun k o h=>by
 unfold Mem.unset at h
 split at h
 ·cases h
 ·exact h
theorem Mem.le_unset {C D:Mem}{b:Nat}(h:C.le D)(hb:C b=none):C.le (D.unset b):=fun k o hk=>by
 unfold Mem.unset
 split
 ·rename_i e;subst e;rw [hb] at hk;cases hk
 ·exact h k o hk

theorem St.back {w0:World}{C0:Mem}{L0:List Ent}{C C':Mem}{L L':List Ent}{w w':World}{b:Nat}{ob:Obj}(h:St w0 C0 L0 C (.obj b ob::L) w)(k:St w (C.set b ob) L C' L' w'):St w0 C0 L0 (C'.unset b) (.obj b ob::L') w':=by
 have hb:C b=none:=h.sep.n b ⟨_,List.mem_cons_self ..,rfl⟩
 have hle:C.le C':=(Mem.le_set hb).trans k.c0
 have k2:St w C L (C'.unset b) L' w':=⟨⟨fun q o hq=>k.sep.c q o (Mem.unset_le _ _ q o hq),k.sep.e,k.sep.d,fun q hq=>by
   have:=k.sep.n q hq
   unfold Mem.unset
   split
   ·rfl
   ·exact this⟩,k.ev,Mem.le_unset hle hb,fun q o hq=>by
   have hne:q≠b:=fun e=>by subst e;simp [Mem.unset] at hq
   rcases k.cn q o (Mem.unset_le _ _ q o hq) with h1 | h1
   ·unfold Mem.set at h1
    rw [if_neg hne] at h1
    exact .inl h1
   ·exact .inr h1,k.ln⟩
 have h2:St w0 C0 L0 C (L++[.obj b ob]) w:=St.perm h (List.perm_append_comm (l₁:=[Ent.obj b ob]) (l₂:=L))
 exact St.perm (St.call h2 k2) (List.perm_append_comm (l₁:=L') (l₂:=[Ent.obj b ob]))

section
variable {F:Fx} {k:List KI} {fr:Fr} {C:Mem} {L:List Ent}
end
end Go.Jog
namespace Go.Jog

structure Arc3 where
 i:Nat
 lo:Nat
 up:Nat
 deriving DecidableEq,Inhabited

def Chain:Nat->List Arc3->Nat->Prop
 | u,[],v=>u=v
 | u,a::p,v=>a.lo=u/\Chain a.up p v
def In (A p:List Arc3):Prop:=∀ a∈p,a∈A
def Walk (A:List Arc3)(k u v:Nat):Prop:=∃ p,In A p/\p.length=k/\Chain u p v

theorem In.cons {A p:List Arc3}{a:Arc3}:In A (a::p) ↔ a∈A/\In A p:=by simp [In]
theorem In.append {A p q:List Arc3}:In A (p++q) ↔ In A p/\In A q:=by
 simp only [In,List.mem_append]
 exact ⟨fun h=>⟨fun a ha=>h a (.inl ha),fun a ha=>h a (.inr ha)⟩,fun h a ha=>ha.elim (h.1 a) (h.2 a)⟩
theorem In.nil {A:List Arc3}:In A []:=fun _ h=>by cases h
theorem In.mono {A B p:List Arc3}(h:In A p)(hs:∀ a∈A,a∈B):In B p:=fun a ha=>hs a (h a ha)

theorem Chain.append:∀ {p q:List Arc3}{u v:Nat},Chain u (p++q) v ↔ ∃ w,Chain u p w/\Chain w q v
 | [],q,u,v=>by simp [Chain]
 | a::p,q,u,v=>by
  simp only [List.cons_append,Chain,Chain.append]
  constructor
  ·rintro ⟨h,w,h1,h2⟩;exact ⟨w,⟨h,h1⟩,h2⟩
  ·rintro ⟨w,⟨h,h1⟩,h2⟩;exact ⟨h,w,h1,h2⟩
theorem Chain.ends {p:List Arc3}{u v w:Nat}(h:Chain u p v)(k:Chain u p w):v=w:=by
 induction p generalizing u with
 | nil=>exact (h.symm.trans k)
 | cons a p ih=>exact ih h.2 k.2

theorem Walk.zero {A:List Arc3}{u v:Nat}:Walk A 0 u v ↔ u=v:=by
 constructor
 ·rintro ⟨p,_,hl,hc⟩
  rw [List.eq_nil_of_length_eq_zero hl] at hc
  exact hc
 ·rintro rfl;exact ⟨[],In.nil,rfl,rfl⟩
theorem Walk.succ {A:List Arc3}{k u v:Nat}:Walk A (k+1) u v ↔ ∃ a∈A,a.lo=u/\Walk A k a.up v:=by
 constructor
 ·rintro ⟨p,hi,hl,hc⟩
  cases p with
  | nil=>simp at hl
  | cons a p =>
   rw [In.cons] at hi
   exact ⟨a,hi.1,hc.1,p,hi.2,by simpa using hl,hc.2⟩
 ·rintro ⟨a,ha,hu,p,hi,hl,hc⟩
  exact ⟨a::p,In.cons.2 ⟨ha,hi⟩,by simp [hl],hu,hc⟩
theorem Walk.add {A:List Arc3}{j k u v w:Nat}(h:Walk A j u v)(h2:Walk A k v w):Walk A (j+k) u w:=by
 obtain ⟨p,h3,h4,h5⟩:=h
 obtain ⟨q,h6,h7,h8⟩:=h2
 exact ⟨p++q,In.append.2 ⟨h3,h6⟩,by simp [h4,h7],Chain.append.2 ⟨v,h5,h8⟩⟩
theorem Walk.one {A:List Arc3}{a:Arc3}(h:a∈A):Walk A 1 a.lo a.up:=Walk.succ.2 ⟨a,h,rfl,Walk.zero.2 rfl⟩
theorem Walk.snoc {A:List Arc3}{k u v:Nat}:Walk A (k+1) u v ↔ ∃ a∈A,a.up=v/\Walk A k u a.lo:=by
 constructor
 ·rintro ⟨p,hi,hl,hc⟩
  have hne:p≠[]:=fun e=>by rw [e] at hl;simp at hl
  rw [<- List.dropLast_concat_getLast hne] at hc hi
  obtain ⟨w,h1,h2⟩:=Chain.append.1 hc
  rw [In.append] at hi
  refine ⟨p.getLast hne,hi.2 _ (by simp),h2.2,p.dropLast,hi.1,by simp [hl], ?_⟩
  rw [h2.1];exact h1
 ·rintro ⟨a,ha,hv,hw⟩
  subst hv
  exact hw.add (Walk.one ha)
theorem Walk.mono {A B:List Arc3}{k u v:Nat}(h:Walk A k u v)(hs:∀ a∈A,a∈B):Walk B k u v :=
 let ⟨p,h1,h2,h3⟩:=h
 ⟨p,h1.mono hs,h2,h3⟩

def Below (n:Nat)(A:List Arc3):Prop:=∀ a∈A,a.lo<n/\a.up<n

theorem Chain.split {p:List Arc3}{u v:Nat}(h:Chain u p v){k:Nat}{a:Arc3}(hk:p[k]?=some a):Chain u (p.take k) a.lo/\Chain a.lo (p.drop k) v:=by
 have hlt:=(List.getElem?_eq_some_iff.1 hk).1
 rw [<- List.take_append_drop k p] at h
 obtain ⟨w,h1,h2⟩:=Chain.append.1 h
 rw [List.drop_eq_getElem_cons hlt,(List.getElem?_eq_some_iff.1 hk).2] at h2 ⊢
 obtain rfl:=h2.1
 exact ⟨h1,h2⟩

theorem nodup_len {n:Nat}{l:List Nat}(hn:l.Nodup)(hb:∀ x∈l,x<n):l.length<=n:=by
 have h:l.length<=(List.range n).length:=by
  refine List.Nodup.length_le_of_subset hn (fun x hx=>List.mem_range.2 (hb x hx))
 simpa using h

def Cyc (A p:List Arc3):Prop:=∃ a q,p=a::q/\In A p/\Chain a.lo p a.lo/\∀ b∈q,a.i<b.i

theorem Cyc.walk {A p:List Arc3}(h:Cyc A p):∃ u,0<p.length/\Walk A p.length u u:=by
 obtain ⟨a,q,rfl,hi,hc,_⟩:=h
 exact ⟨a.lo,by simp,a::q,hi,rfl,hc⟩

end Go.Jog
namespace Go.Jog

def dAt (d:List Int)(u:Nat):Int:=d.getD u (-1)
def IsDist (A:List Arc3)(to n:Nat)(d:List Int):Prop :=
 d.length=n/\∀ u,u<n->(dAt d u=-1/\∀ k,¬ Walk A k u to)∨∃ k:Nat,dAt d u=k/\Walk A k u to/\∀ j,Walk A j u to->k<=j

/-! ### Relaxing -/
def fin (d:List Int):Nat:=d.countP (fun x=>decide (0<=x))
structure Rel0 (A:List Arc3)(to n:Nat)(d:List Int):Prop where
 len:d.length=n
 neg:∀ u,u<n->-1<=dAt d u
 small:∀ u,u<n->dAt d u<fin d
 walk:∀ u,u<n->0<=dAt d u->Walk A (dAt d u).toNat u to
 zero:dAt d to=0

/-! ### The first smallest cycle -/
def nums (p:List Arc3):List Nat:=p.map (·.i)
def Beats (x y:List Nat):Prop:=∃ c b b' s s',x=c++b::s/\y=c++b'::s'/\b<b'
theorem Beats.append {x y z:List Nat}(h:Beats x y):Beats (x++z) y:=by
 obtain ⟨c,b,b',s,s',rfl,rfl,hlt⟩:=h
 exact ⟨c,b,b',s++z,s',by simp,rfl,hlt⟩
theorem Beats.cons {x y:List Nat}(a:Nat)(h:Beats x y):Beats (a::x) (a::y):=by
 obtain ⟨c,b,b',s,s',rfl,rfl,hlt⟩:=h
 exact ⟨a::c,b,b',s,s',rfl,rfl,hlt⟩
theorem Beats.head {x y:List Nat}{a b:Nat}(h:a<b):Beats (a::x) (b::y):=⟨[],a,b,x,y,rfl,rfl,h⟩
def LeL (x y:List Nat):Prop:=x=y∨Beats x y
theorem LeL.cons {x y:List Nat}(a:Nat)(h:LeL x y):LeL (a::x) (a::y):=h.elim (fun e=>.inl (by rw [e])) (fun b=>.inr (b.cons a))

def above (A:List Arc3)(i:Nat):List Arc3:=A.filter fun a=>decide (i<a.i)
structure Greedy (A:List Arc3)(from_ to m:Nat)(p:List Arc3)(at_:Nat):Prop where
 inA:In A p
 chain:Chain from_ p at_
 ahead:∀ r,In A r->Chain from_ r to->r.length=m->(∃ s,r=p++s)∨Beats (nums p) (nums r)

theorem Greedy.start {A:List Arc3}{f to m:Nat}:Greedy A f to m [] f:=⟨In.nil,rfl,fun r _ _ _=>.inl ⟨r,rfl⟩⟩
theorem Greedy.step {A:List Arc3}{f to m n at_:Nat}{p:List Arc3}{d:List Int}(h:Greedy A f to m p at_)(hb:Below n A)(hd:IsDist A to n d){b:Arc3}(hbA:b∈A)(hlo:b.lo=at_)(hm:(p.length:Int)+dAt d at_=m)(hn:at_<n)
  (hup:dAt d b.up=dAt d at_-1) (h0:0<=dAt d b.up) (hleast:∀ b'∈A,b'.lo=at_->dAt d b'.up=dAt d at_-1->b.i<=b'.i) (hinj:∀ a∈A,∀ b∈A,a.i=b.i->a=b):Greedy A f to m (p++[b]) b.up:=by
 refine ⟨In.append.2 ⟨h.inA,In.cons.2 ⟨hbA,In.nil⟩⟩,Chain.append.2 ⟨at_,h.chain,hlo,rfl⟩,fun r hr hc hl=>?_⟩
 rcases h.ahead r hr hc hl with ⟨s,rfl⟩ | hbt
 ·obtain ⟨w,h1,h2⟩:=Chain.append.1 hc
  have:=h.chain.ends h1
  subst this
  rw [In.append] at hr
  rw [List.length_append] at hl
  cases s with
  | nil=>simp at hl;omega
  | cons b' s =>
   have hb'A:=hr.2 b' (by simp)
   have hw:Walk A s.length b'.up to:=⟨s,fun x hx=>hr.2 x (by simp [hx]),rfl,h2.2⟩
   simp only [List.length_cons] at hl
   have hd':dAt d b'.up=dAt d at_-1:=by
    rcases hd.2 b'.up (hb b' hb'A).2 with ⟨_,hno⟩ | ⟨k,hk,hkw,hkm⟩
    ·exact absurd hw (hno _)
    ·have h3:=hkm _ hw
     have h4:Walk A (k+1) at_ to:=Walk.succ.2 ⟨b',hb'A,h2.1,hkw⟩
     rcases hd.2 at_ hn with ⟨_,hno⟩ | ⟨q,hq,_,hqm⟩
     ·exact absurd h4 (hno _)
     ·have:=hqm _ h4
      omega
   have hle:=hleast b' hb'A h2.1 hd'
   rcases Nat.lt_or_ge b.i b'.i with hlt | hge
   ·exact .inr ⟨nums p,b.i,b'.i,[],nums s,by simp [nums],by simp [nums],hlt⟩
   ·have:b=b':=hinj b hbA b' hb'A om_
    subst this
    exact .inl ⟨s,by simp⟩
 ·exact .inr (by rw [nums,List.map_append];exact hbt.append)

theorem Greedy.done {A:List Arc3}{f to m:Nat}{p:List Arc3}(h:Greedy A f to m p to)(hm:p.length=m):∀ r,In A r->Chain f r to->r.length=m->LeL (nums p) (nums r):=fun r hr hc hl=>by
 rcases h.ahead r hr hc hl with ⟨s,rfl⟩ | hb
 ·rw [List.length_append] at hl
  have:s=[]:=List.eq_nil_of_length_eq_zero om_
  subst this
  exact .inl (by simp)
 ·exact .inr hb

end Go.Jog
namespace Go.Jog

def Ord (A:List Arc3)(o:List Nat):Prop:=∀ pre u post,o=pre++u::post->∀ a∈A,a.up=u->a.lo∈pre
def Topo (A:List Arc3)(n:Nat)(o:List Nat):Prop:=o.length=n/\o.Nodup/\(∀ u∈o,u<n)/\Ord A o
theorem Topo.mem {A:List Arc3}{n:Nat}{o:List Nat}(h:Topo A n o){u:Nat}(hu:u<n):u∈o:=by
 refine Classical.byContradiction fun hn=>?_
 have h1:(u::o).Nodup:=List.nodup_cons.2 ⟨hn,h.2.1⟩
 have:=nodup_len h1 (n:=n) (fun x hx=>by
  rcases List.mem_cons.1 hx with rfl | hx
  ·exact hu
  ·exact h.2.2.1 x hx)
 simp only [List.length_cons,h.1] at this
 omega

/-! ### Taking the least free place, again and again -/
def cnt (A:List Arc3)(dn:List Nat)(u:Nat):Nat:=A.countP fun a=>decide (a.up=u) && !(dn.contains a.lo)
theorem cnt_zero {A:List Arc3}{dn:List Nat}{u:Nat}:cnt A dn u=0 ↔ ∀ a∈A,a.up=u->a.lo∈dn:=by
 unfold cnt
 rw [List.countP_eq_zero]
 constructor
 ·intro h a ha hu
  have:=h a ha
  simp only [hu,decide_true,Bool.true_and,Bool.not_eq_true,Bool.not_eq_false',List.contains_iff_mem] at this
  exact this
 ·intro h a ha
  by_cases hu:a.up=u
  ·have:=h a ha hu
   simp [hu,this]
  ·simp [hu]
def nexts (A:List Arc3)(i:Nat):List Arc3:=A.filter fun a=>decide (a.lo=i)
structure Kahn (A:List Arc3)(n:Nat)(dn av:List Nat):Prop where
 nodup:dn.Nodup
 below:∀ u∈dn,u<n
 ord:Ord A dn
 avnd:av.Nodup
 av:∀ u,u∈av ↔ u<n/\u ∉ dn/\cnt A dn u=0
 least:∀ o,Topo A n o->(∃ s,o=dn++s)∨Beats dn o

theorem ord_snoc {A:List Arc3}{dn:List Nat}{i:Nat}(h:Ord A dn)(hc:cnt A dn i=0):Ord A (dn++[i]):=fun pre u post he a ha hu=>by
 rcases List.eq_nil_or_concat post with rfl | ⟨post',x,rfl⟩
 ·have h1:=List.append_inj' he (by simp)
  obtain ⟨rfl,h2⟩:=h1
  simp only [List.cons.injEq,and_true] at h2
  subst h2
  exact cnt_zero.1 hc a ha hu
 ·rw [List.concat_eq_append,<- List.cons_append,<- List.append_assoc] at he
  obtain ⟨h1,_⟩:=List.append_inj' he (by simp)
  exact h pre u post' h1 a ha hu

theorem Kahn.step {A:List Arc3}{n:Nat}{dn av av':List Nat}{i:Nat}(h:Kahn A n dn av)(hi:i∈av)(hmin:∀ u∈av,i<=u)(hnd:av'.Nodup)(hav:∀ u,u∈av' ↔ u<n/\u ∉ dn++[i]/\cnt A (dn++[i]) u=0):Kahn A n (dn++[i]) av':=by
 obtain ⟨hin,hid,hic⟩:=(h.av i).1 hi
 refine ⟨?_,fun u hu=>?_,ord_snoc h.ord hic,hnd,hav,fun o ho=>?_⟩
 ·rw [List.nodup_append]
  exact ⟨h.nodup,by simp,fun a ha b hb e=>by simp only [List.mem_singleton] at hb;subst hb;subst e;exact hid ha⟩
 ·rcases List.mem_append.1 hu with hu | hu
  ·exact h.below u hu
  ·simp only [List.mem_singleton] at hu;subst hu;exact hin
 ·rcases h.least o ho with ⟨s,rfl⟩ | hb
  ·cases s with
   | nil =>
    exact absurd (ho.mem hin) (by simpa using hid)
   | cons u s =>
    have hu:u∈av:=(h.av u).2 ⟨ho.2.2.1 u (by simp),fun hm=>by
     have:=List.nodup_append.1 ho.2.1
     exact this.2.2 u hm u (by simp) rfl,cnt_zero.2 (fun a ha hau=>ho.2.2.2 dn u s rfl a ha hau)⟩
    have hle:=hmin u hu
    rcases Nat.lt_or_ge i u with hlt | hge
    ·exact .inr ⟨dn,i,u,[],s,by simp,rfl,hlt⟩
    ·have:i=u:=by omega
     subst this
     exact .inl ⟨s,by simp⟩
  ·exact .inr hb.append

end Go.Jog
namespace Go.Jog

def LongTo (A:List Arc3)(u m:Nat):Prop:=(∃ v,Walk A m v u)/\∀ k v,Walk A k v u->k<=m
def addW (o:Nat)(self:Bool)(x:Nat):Nat:=max (if self=true then max x 1 else x) (if 0<o then min 8 (o+1) else 0)
def rowT (f:Nat->Nat->Nat)(c v:Nat):List Arc3->Nat->Nat
 | [],x=>x
 | a::l,x=>rowT f c v l (if a.up=v then addW (f c a.lo) (decide (c=a.lo)) x else x)
def tab (A:List Arc3):Nat->Nat->Nat->Nat
 | 0,_,_=>0
 | k+1,c,v=>rowT (tab A k) c v A (tab A k c v)
end Go.Jog
namespace Go.Proofs.YtllimhhofkcgpaaGreatDoor
open Go Go.Jog
def tab:Tab:=[(2,⟨.int .i64,1,8,[.int .i64],false⟩),
 (3,⟨.int .i64,1,8,[.int .i64],false⟩),
 (4,⟨.bool,1,1,[.bool],false⟩),
 (5,⟨.int .u8,1,1,[.int .u8],false⟩),
 (9,⟨.str,1,16,[.str],false⟩),
 (12,⟨.int .u64,1,8,[.int .u64],false⟩),
 (21,⟨.int .i32,1,4,[.int .i32],false⟩),
 (22,⟨.int .i8,1,1,[.int .i8],false⟩),
 (23,⟨.arr 2 22,2,2,[.int .i8,.int .i8],true⟩),
 (25,⟨.struct [(5,0),(23,1),(4,3)],4,4,[.int .u8,.int .i8,.int .i8,.bool],true⟩),
 (26,⟨.arr 6 22,6,6,[.int .i8,.int .i8,.int .i8,.int .i8,.int .i8,.int .i8],true⟩),
 (28,⟨.struct [(26,0),(4,6)],7,7,[.int .i8,.int .i8,.int .i8,.int .i8,.int .i8,.int .i8,.bool],true⟩),
 (29,⟨.slice 88,1,24,[.slice],false⟩),
 (31,⟨.struct [(25,0),(28,4),(29,11)],12,40,[.int .u8,.int .i8,.int .i8,.bool,.int .i8,.int .i8,.int .i8,.int .i8,.int .i8,.int .i8,.bool,.slice],true⟩),
 (32,⟨.str,1,16,[.str],false⟩),
 (34,⟨.struct [(32,0),(32,1)],2,32,[.str,.str],true⟩),
 (36,⟨.struct [(32,0),(32,1),(32,2)],3,48,[.str,.str,.str],true⟩),
 (38,⟨.struct [(3,0),(9,1),(34,2),(32,4),(9,5),(9,6),(36,7)],10,152,[.int .i64,.str,.str,.str,.str,.str,.str,.str,.str,.str],true⟩),
 (40,⟨.slice 34,1,24,[.slice],false⟩),
 (41,⟨.slice 109,1,24,[.slice],false⟩),
 (43,⟨.struct [(40,0),(41,1)],2,48,[.slice,.slice],true⟩),
 (44,⟨.slice 32,1,24,[.slice],false⟩),
 (45,⟨.slice 32,1,24,[.slice],false⟩),
 (46,⟨.slice 52,1,24,[.slice],false⟩),
 (47,⟨.slice 38,1,24,[.slice],false⟩),
 (49,⟨.struct [(43,0),(45,2),(46,3),(47,4)],5,120,[.slice,.slice,.slice,.slice,.slice],true⟩),
 (52,⟨.struct [(9,0),(32,1),(32,2)],3,48,[.str,.str,.str],true⟩),
 (53,⟨.int .i64,1,8,[.int .i64],false⟩),
 (61,⟨.slice 81,1,24,[.slice],false⟩),
 (65,⟨.slice 153,1,24,[.slice],false⟩),
 (71,⟨.slice 45,1,24,[.slice],false⟩),
 (74,⟨.slice 3,1,24,[.slice],false⟩),
 (81,⟨.struct [(44,0),(32,1)],2,40,[.slice,.str],true⟩),
 (85,⟨.arr 2 5,2,2,[.int .u8,.int .u8],true⟩),
 (86,⟨.arr 3 22,3,3,[.int .i8,.int .i8,.int .i8],true⟩),
 (88,⟨.struct [(5,0),(23,1),(85,3),(5,5),(86,6)],9,9,[.int .u8,.int .i8,.int .i8,.int .u8,.int .u8,.int .u8,.int .i8,.int .i8,.int .i8],true⟩),
 (92,⟨.map 9 4,1,8,[.map],false⟩),
 (95,⟨.struct [(3,0),(3,1)],2,16,[.int .i64,.int .i64],true⟩),
 (105,⟨.func,1,8,[.func],false⟩),
 (108,⟨.arr 3 3,3,24,[.int .i64,.int .i64,.int .i64],true⟩),
 (109,⟨.arr 3 3,3,24,[.int .i64,.int .i64,.int .i64],true⟩),
 (112,⟨.slice 116,1,24,[.slice],false⟩),
 (116,⟨.arr 2 3,2,16,[.int .i64,.int .i64],true⟩),
 (118,⟨.slice 5,1,24,[.slice],false⟩),
 (121,⟨.arr 3 9,3,48,[.str,.str,.str],true⟩),
 (125,⟨.map 34 4,1,8,[.map],false⟩),
 (139,⟨.map 3 32,1,8,[.map],false⟩),
 (145,⟨.func,1,8,[.func],false⟩),
 (153,⟨.struct [(3,0),(81,1)],3,48,[.int .i64,.slice,.str],true⟩),
 (158,⟨.str,1,16,[.str],false⟩),
 (161,⟨.func,1,8,[.func],false⟩),
 (169,⟨.map 116 3,1,8,[.map],false⟩),
 (172,⟨.map 3 4,1,8,[.map],false⟩),
 (176,⟨.arr 3 34,6,96,[.str,.str,.str,.str,.str,.str],true⟩),
 (181,⟨.func,1,8,[.func],false⟩),
 (188,⟨.arr 3 32,3,48,[.str,.str,.str],true⟩),
 (189,⟨.arr 3 32,3,48,[.str,.str,.str],true⟩),
 (207,⟨.slice 238,1,24,[.slice],false⟩),
 (209,⟨.struct [(4,0),(207,1)],2,32,[.bool,.slice],true⟩),
 (218,⟨.func,1,8,[.func],false⟩),
 (220,⟨.map 3 3,1,8,[.map],false⟩),
 (221,⟨.func,1,8,[.func],false⟩),
 (222,⟨.func,1,8,[.func],false⟩),
 (226,⟨.int .u64,1,8,[.int .u64],false⟩),
 (235,⟨.iface,1,16,[.iface],false⟩),
 (238,⟨.int .u64,1,8,[.int .u64],false⟩),
 (244,⟨.func,1,8,[.func],false⟩),
 (247,⟨.ptr 249,1,8,[.ptr],false⟩),
 (249,⟨.struct [(247,0),(118,1)],2,32,[.ptr,.slice],true⟩),
 (264,⟨.int .u32,1,4,[.int .u32],false⟩),
 (271,⟨.struct [(34,0),(32,2)],3,48,[.str,.str,.str],true⟩),
 (272,⟨.arr 3 271,9,144,[.str,.str,.str,.str,.str,.str,.str,.str,.str],true⟩),
 (274,⟨.func,1,8,[.func],false⟩),
 (276,⟨.func,1,8,[.func],false⟩),
 (279,⟨.ptr 5,1,8,[.ptr],false⟩),
 (286,⟨.int .i64,1,8,[.int .i64],false⟩),
 (289,⟨.ptr 302,1,8,[.ptr],false⟩),
 (295,⟨.arr 24 5,24,24,[.int .u8,.int .u8,.int .u8,.int .u8,.int .u8,.int .u8,.int .u8,.int .u8,.int .u8,.int .u8,.int .u8,.int .u8,.int .u8,.int .u8,.int .u8,.int .u8,.int .u8,.int .u8,.int .u8,.int .u8,.int .u8,.int .u8,.int .u8,.int .u8],true⟩),
 (302,⟨.struct [(9,0),(9,1),(235,2)],3,48,[.str,.str,.iface],true⟩),
 (305,⟨.arr 20 238,20,160,[.int .u64,.int .u64,.int .u64,.int .u64,.int .u64,.int .u64,.int .u64,.int .u64,.int .u64,.int .u64,.int .u64,.int .u64,.int .u64,.int .u64,.int .u64,.int .u64,.int .u64,.int .u64,.int .u64,.int .u64],true⟩),
 (308,⟨.ptr 310,1,8,[.ptr],false⟩),
 (310,⟨.struct [(9,0)],1,16,[.str],true⟩),
 (312,⟨.arr 32 5,32,32,[.int .u8,.int .u8,.int .u8,.int .u8,.int .u8,.int .u8,.int .u8,.int .u8,.int .u8,.int .u8,.int .u8,.int .u8,.int .u8,.int .u8,.int .u8,.int .u8,.int .u8,.int .u8,.int .u8,.int .u8,.int .u8,.int .u8,.int .u8,.int .u8,.int .u8,.int .u8,.int .u8,.int .u8,.int .u8,.int .u8,.int .u8,.int .u8],true⟩),
 (316,⟨.arr 0 16,0,0,[],true⟩)]
noncomputable def cx:Cx:={ P:=Tryz.prog,T:=tab,mixed:=by kernel_rfl,hT:=by kernel_rfl }

abbrev Str:=List UInt8

/-! ### The model -/
structure Rel where
 kind:Int
 upper:Str
 lower:Str
 deriving DecidableEq,Inhabited
def Rel.enc (x:Rel):List Value:=[.int .i64 x.kind,strV x.upper,strV x.lower]

def letterB (b:UInt8):Bool:=(decide (97<=(b.toNat:Int)) && decide ((b.toNat:Int)<=122)) || (decide (65<=(b.toNat:Int)) && decide ((b.toNat:Int)<=90))
def digitB (b:UInt8):Bool:=(decide (48<=(b.toNat:Int)) && decide ((b.toNat:Int)<=57)) || ((b.toNat:Int) == 95)
def nameByte (k:Nat)(b:UInt8):Bool:=letterB b || (!(k == 0) && digitB b)
def eu:Nat->Str->Bool
 | _,[]=>true
 | k,b::s=>nameByte k b && eu (k+1) s
def dG (s:Str):Bool:=!(s == []) && decide (s.length<=32) && eu 0 s

theorem nameFrom_at:∀ {s:Str}{k i:Nat}{b:UInt8},s[i]?=some b->nameByte (k+i) b=false->eu k s=false
 | [],k,i,b,h,_=>by simp at h
 | c::s,k,0,b,h,hn=>by
  simp at h
  subst h
  simp only [Nat.add_zero] at hn
  simp [eu,hn]
 | c::s,k,i+1,b,h,hn=>by
  have:=nameFrom_at (k:=k+1) (by simpa using h) (by rw [show k+1+i=k+(i+1) by omega];exact hn)
  simp [eu,this]
theorem nameFrom_all:∀ {s:Str}{k:Nat},(∀ i b,s[i]?=some b->nameByte (k+i) b=true)->eu k s=true
 | [],k,_=>rfl
 | c::s,k,h=>by
  have h0:=h 0 c (by simp)
  simp only [Nat.add_zero] at h0
  have h1:=nameFrom_all (s:=s) (k:=k+1) (fun i b hb=>by
   have:=h (i+1) b (by simpa using hb)
   rwa [show k+(i+1)=k+1+i by omega] at this)
  simp [eu,h0,h1]

/-! ### IsName -/
set_option maxRecDepth 100000 in
theorem eD (C:Mem)(s:Str)(hl:s.length<=9223372036854775807):Gives cx.P 55 [strV s] C (.bool (dG s)):=by
 refine Fn.it kr_ Tryz.func55 57 fun w0=>?_
 refine G.z2 1 0 2 ?_
 refine G.rp 6 fun R hR=>?_
 refine D.aF rfl rfl rfl rfl rfl rfl rfl rfl ?_
 refine D.e2 0 13 hR ?_
 refine G.cond rfl (fun h=>?_) (fun h=>?_)
 ·refine G.z1 1 2 ?_
  refine G.rf ?_
  refine ⟨?_,rfl⟩
  congr 1
  simp only [Bool.or_eq_true,beq_iff_eq,decide_eq_true_eq] at h
  unfold dG
  rcases h with h | h
  ·have:s=[]:=h
   simp [this]
  ·have h2:¬ s.length<=32:=by omega
   simp [h2]
 ·simp only [Bool.or_eq_false_iff,beq_eq_false_iff_ne,decide_eq_false_iff_not] at h
  have hne:s≠[]:=h.1
  have h32:s.length<=32:=by have:=h.2;omega
  refine G.rp 1 fun R hR=>?_
  refine D.strBytes rfl rfl rfl rfl rfl rfl rfl rfl rfl rfl (by simp only [maxLen];omega) fl_ (fun p15 C1 hle1 hs1=>?_)
  have hsl:=hs1
  obtain ⟨A,c,rfl,_⟩:=hsl
  refine D.q3 2 15 16 17 hR ?_
  refine G.loop (fun fr C' L' m=>∃ k:Nat,k<=s.length/\(∀ i b,i<k->s[i]?=some b->nameByte (0+i) b=true)/\fr=[(15,[],.slice A (s.map fun b=>[Value.int .u8 b.toNat]).length c),(16,[],.int .i64 (s.map fun b=>[Value.int .u8 b.toNat]).length),(17,[],.int .i64 k)]/\L'=[]/\m=s.length-k) (m:=s.length) (h_3 15 16 17) ⟨0,Nat.zero_le _,fun i b hi=>by omega,rfl,rfl,rfl⟩ (fun fr C' L' m hle hI=>?_)
  obtain ⟨k,hk,hall,rfl,rfl,rfl⟩:=hI
  refine G.z4 1 15 16 17 18 ?_
  refine G.cond rfl (fun h=>?_) (fun h=>?_)
  ·simp only [List.length_map,decide_eq_true_eq] at h
   have hk1:k<s.length:=by omega
   obtain ⟨b,hb⟩:∃ b,s[k]?=some b:=⟨s[k],List.getElem?_eq_getElem hk1⟩
   have hs2:=hs1.mono hle
   refine G.rp 1 fun R hR=>?_
   refine D.al hs2 rfl rfl rfl rfl rfl rfl rfl rfl rfl rfl om_ (row:=[.int .u8 b.toNat]) (by simp [hb]) fl_ (fun p20 hp20=>?_)
   refine D.aa hp20 ?_
   refine D.q5 2 3 4 15 16 17 hR ?_
   refine G.rp 5 fun R hR=>?_
   refine D.aq ?_
   refine D.ps 6 ?_
   refine D.aq ?_
   refine D.aF rfl rfl rfl rfl rfl rfl rfl rfl ?_
   refine D.ac ?_
   refine D.dn [E_ 3 _,E_ 4 _,(5,[],.bool (letterB b)),E_ 15 _,E_ 16 _,E_ 17 _] hR ?_
   refine G.rp 5 fun R hR=>?_
   refine D.aq ?_
   refine D.ps 3 ?_
   refine D.aF rfl rfl rfl rfl rfl rfl rfl rfl ?_
   refine D.ac ?_
   refine D.dn [E_ 3 _,E_ 5 _,(6,[],.bool (digitB b)),E_ 15 _,E_ 16 _,E_ 17 _] hR ?_
   refine G.rp 8 fun R hR=>?_
   refine D.aF rfl rfl rfl rfl rfl rfl rfl rfl ?_
   refine D.aq ?_
   refine D.dn [E_ 15 _,E_ 16 _,E_ 17 _,(55,[],.bool (!(letterB b) && (((k:Int) == 0) || !(digitB b))))] hR ?_
   have hbyte:(!(letterB b) && (((k:Int) == 0) || !(digitB b)))=!(nameByte (0+k) b):=by
    have e:((k:Int) == 0)=(0+k == 0):=by
     rw [Nat.zero_add]
     by_cases hk0:k=0
     ·subst hk0;rfl
     ·have:¬ (k:Int)=0:=by omega
      rw [beq_eq_false_iff_ne.2 this,beq_eq_false_iff_ne.2 hk0]
    unfold nameByte
    rw [e]
    cases letterB b <;> cases digitB b <;> cases (0+k == 0) <;> rfl
   refine G.cond rfl (fun h=>?_) (fun h=>?_)
   ·rw [hbyte] at h
    refine G.z1 1 2 ?_
    refine G.rf ?_
    refine ⟨?_,rfl⟩
    have:=nameFrom_at (k:=0) hb (by simpa using h)
    simp [dG,this]
   ·rw [hbyte] at h
    refine G.rg fun R hR=>?_
    refine D.cG ((k+1:Nat):Int) rfl rfl rfl rfl om_ om_ om_ rfl rfl ?_
    refine D.q3 1 15 16 17 hR ?_
    refine G.ax (m':=s.length-(k+1)) om_ hle (h_3 15 16 17) ⟨k+1,by omega, ?_,rfl,rfl,rfl⟩
    intro i b' hi hb'
    rcases Nat.lt_or_ge i k with h1 | h1
    ·exact hall i b' h1 hb'
    ·have:i=k:=by omega
     subst this
     rw [hb] at hb'
     cases hb'
     simpa using h
  ·simp only [List.length_map,decide_eq_false_iff_not] at h
   refine G.z1 1 2 ?_
   refine G.rf ?_
   refine ⟨?_,rfl⟩
   have:=nameFrom_all (s:=s) (k:=0) (fun i b hb=>hall i b (by have:=(List.getElem?_eq_some_iff.1 hb).1;omega) hb)
   simp [dG,this,hne,h32]

/-! ### Check, CheckAll -/
def Rel.short (x:Rel):Prop:=x.upper.length<1000000/\x.lower.length<1000000
set_option maxRecDepth 100000
structure ArcE where
 lower:Str
 upper:Str
 deriving DecidableEq,Inhabited
def ArcE.enc (x:ArcE):List Value:=[strV x.lower,strV x.upper]
theorem eqStr (a b:Str):(a == b)=decide (a=b):=by by_cases h:a=b <;> simp [h]
set_option maxRecDepth 100000

/-! ### Comparisons -/
structure TotC {α:Type}(f:α->α->Int):Prop where
 eq:∀ x y,f x y=0 ↔ x=y
 sym:∀ x y,f x y<0 ↔ 0<f y x
 trans:∀ x y z,f x y<0->f y z<0->f x z<0

section
variable {α:Type} {f:α->α->Int}
theorem TotC.refl (T:TotC f)(x:α):f x x=0:=(T.eq x x).2 rfl
theorem TotC.tri (T:TotC f)(x y:α):f x y<0∨x=y∨f y x<0:=by
 by_cases h:f x y=0
 ·exact .inr (.inl ((T.eq x y).1 h))
 ·by_cases h2:f x y<0
  ·exact .inl h2
  ·exact .inr (.inr ((T.sym y x).2 om_))
variable [DecidableEq α]
def ins (f:α->α->Int)(x:α):List α->List α
 | []=>[x]
 | y::l=>if f y x<0 then y::ins f x l else if y=x then y::l else x::y::l
end
def encI (x:Int):List Value:=[.int .i64 x]
def encN (i:Nat):List Value:=[.int .i64 i]
end Go.Proofs.YtllimhhofkcgpaaGreatDoor
namespace Go.Jog
open Go

section
variable {cx:Cx} {n:Nat} {ds:List (Option Nat)} {R:Rg n ds} {its:List It} {fr:Fr} {C:Mem} {L:List Ent} {i k d:Nat} {o:Oper} {g:GL}
end

end Go.Jog
namespace Go.Jog
open Go
section
variable {cx:Cx} {n:Nat} {ds:List (Option Nat)} {R:Rg n ds} {its:List It} {fr:Fr} {C:Mem} {L:List Ent} {i k d:Nat} {o:Oper} {g:GL}
end
end Go.Jog
namespace Go.Jog

abbrev B32:Nat:=4294967296
def valD:List Nat->Nat
 | []=>0
 | x::l=>x+B32*valD l
def DigD (l:List Nat):Prop:=∀ x∈l,x<B32
def CanD (l:List Nat):Prop:=DigD l/\l.getLast?≠some 0
theorem valD_append:∀ (a b:List Nat),valD (a++b)=valD a+B32 ^ a.length*valD b
 | [],b=>by simp [valD]
 | x::a,b=>by
  simp only [List.cons_append,valD,valD_append a b,List.length_cons,Nat.pow_succ]
  rw [Nat.mul_add,<- Nat.mul_assoc,Nat.mul_comm (B32 ^ a.length) B32,Nat.add_assoc]
theorem valD_snoc (a:List Nat)(x:Nat):valD (a++[x])=valD a+B32 ^ a.length*x:=by
 rw [valD_append];simp [valD]
theorem valD_take {l:List Nat}{i x:Nat}(h:l[i]?=some x):valD (l.take (i+1))=valD (l.take i)+B32 ^ i*x:=by
 have hi:=(List.getElem?_eq_some_iff.1 h).1
 rw [List.take_add_one,h]
 simp only [Option.toList_some]
 rw [valD_snoc,List.length_take,Nat.min_eq_left om_]
theorem DigD.take {l:List Nat}(h:DigD l)(i:Nat):DigD (l.take i):=fun x hx=>h x (List.mem_of_mem_take hx)
theorem DigD.snoc {l:List Nat}(h:DigD l){x:Nat}(hx:x<B32):DigD (l++[x]):=fun y hy=>by
 rcases List.mem_append.1 hy with hy | hy
 ·exact h y hy
 ·rw [List.mem_singleton.1 hy];exact hx
theorem can_low {l:List Nat}(h:CanD l)(hl:0<l.length):B32 ^ (l.length-1)<=valD l:=by
 obtain ⟨x,hx⟩:∃ x,l[l.length-1]?=some x:=⟨l[l.length-1]'om_,List.getElem?_eq_getElem om_⟩
 have h1:=valD_take hx
 rw [show l.length-1+1=l.length by omega,List.take_length] at h1
 have hx0:x≠0:=fun e=>h.2 (by rw [List.getLast?_eq_getElem?,hx,e])
 rw [h1]
 have:B32 ^ (l.length-1)*1<=B32 ^ (l.length-1)*x:=Nat.mul_le_mul_left _ om_
 omega
theorem can_nil {l:List Nat}(h:CanD l):valD l=0 ↔ l=[]:=by
 constructor
 ·intro e
  apply Classical.byContradiction
  intro hn
  have:=can_low h (List.length_pos_iff.2 hn)
  rw [e] at this
  have hp:0<B32 ^ (l.length-1):=Nat.pow_pos (by decide)
  omega
 ·rintro rfl;rfl
end Go.Jog
namespace Go.Jog

theorem DigD.set {l:List Nat}(h:DigD l){i z:Nat}(hz:z<B32):DigD (l.set i z):=fun x hx=>by
 rcases List.mem_or_eq_of_mem_set hx with h1 | h1
 ·exact h x h1
 ·rw [h1];exact hz
end Go.Jog
namespace Go.Jog

end Go.Jog
